/- A part of the proof of TreeMade: the machine's side by the kit's print, contracts and lemmas by this session. -/
import Derived.Laws.Strings
import Derived.Shelf.Abstract
import Derived.Test.YtcgefpklljclgaaBTreeMade1
import Derived.Test.YtcgefpklljclgaaBTreeMade2
import Derived.Test.YtcgefpklljclgaaBTreeMade3
import Derived.Test.YtcgefpklljclgaaBTreeMade4
import Derived.Test.YtcgefpklljclgaaBTreeMade5
namespace Go.Proofs.Ytcgefpklljclgaa.Print
open Go.RowKit Go.Proofs.YtcgefpklljclgaaW.PrintWords Go.Proofs.YtcgefpklljclgaaW.PrintLast Go.Proofs.YtcgefpklljclgaaW.PrintMore
attribute [local go_sem] max2_int min2_int max_two min_two max_three min_three max_four min_four   -- for this text's walks alone
set_option linter.unusedVariables false
set_option linter.unusedSimpArgs false
/-! ### tree_Below: function 73 -/
def tree_Below.l0 : Nat → ByteArray → List ByteArray → List (S31) → Int → Int → Option (List ByteArray)
 | 0, _, _, _, _, _ => none
 | k + 1, x1, x5, x8, x9, x10 => if x10 < x9 then (if 0 ≤ x10 then (if x10 < (x8.length : Int) then (if ((rd_T31 x8 x10).f1).toList = x1.toList then (if x5.length < 8796093022208 then (tree_Below.l0 k x1 (x5 ++ [(rd_T31 x8 x10).f0]) x8 x9 (wrap64 (x10 + 1))) else (none)) else (tree_Below.l0 k x1 x5 x8 x9 (wrap64 (x10 + 1)))) else (none)) else (none)) else (some x5)
def tree_Below.f (k : Nat) (l0 : List (S31)) (a1 : ByteArray) : Option (List ByteArray) := tree_Below.l0 k a1 ([] : List ByteArray) l0 (l0.length : Int) 0
theorem tree_Below.mono_l : ∀ k, (∀ y0 y1 y2 y3 y4, LeO (tree_Below.l0 k y0 y1 y2 y3 y4) (tree_Below.l0 (k + 1) y0 y1 y2 y3 y4))
 | 0 => fun _ _ _ _ _ r h => by simp [tree_Below.l0] at h
 | k + 1 => by
  have ih0 := tree_Below.mono_l k
  ·intro y0 y1 y2 y3 y4
   unfold tree_Below.l0
   repeat' first
   | (with_reducible exact ih0 _ _ _ _ _)
   | (with_reducible exact LeO.refl _)
   | (with_reducible exact LeO.none _)
   | (with_reducible refine LeO.ite ?_ ?_)
   | (with_reducible refine LeO.bind ?_ (fun _ => ?_))
   | exact ih0 _ _ _ _ _
   | exact LeO.none _
   | refine LeO.ite ?_ ?_
   | refine LeO.bind ?_ (fun _ => ?_)
theorem tree_Below.mono : ∀ a0 a1 k, LeO (tree_Below.f k a0 a1) (tree_Below.f (k + 1) a0 a1) := by
 intro a0 a1 k
 have ih0 := tree_Below.mono_l k
 unfold tree_Below.f
 repeat' first
   | (with_reducible exact ih0 _ _ _ _ _)
   | (with_reducible exact LeO.refl _)
   | (with_reducible exact LeO.none _)
   | (with_reducible refine LeO.ite ?_ ?_)
   | (with_reducible refine LeO.bind ?_ (fun _ => ?_))
   | exact ih0 _ _ _ _ _
   | exact LeO.none _
   | refine LeO.ite ?_ ?_
   | refine LeO.bind ?_ (fun _ => ?_)
set_option maxHeartbeats 8000000 in
set_option maxRecDepth 100000 in
theorem tree_Below.calls (k : Nat) (A0 : Option Addr) (c0 : Nat) (l0 : List (S31)) (a1 : ByteArray) (r : List ByteArray) (w : World) (hr0 : Kd.C k31 w A0 l0.length l0) (hc0 : l0.length ≤ c0) (h : tree_Below.f k l0 a1 = some r) :
  Calls Try.prog 73 #[.slice A0 l0.length c0, .string a1] w fun e w' => ∃ v0_ : Value, e = .returned (v0_) ∧ Kd.R Kd.string 9 w' w.heap.size (fun _ => True) v0_ r ∧ Below w.heap.size w w' := by
 have hu31 := Try.underlying31
 have HR0 := Aside0.mk hr0
 have HC0 := Aside0.mk hc0
 clear hr0 hc0
 have HB := Aside0.mk (Below.refl w.heap.size w)
 have H : (tree_Below.l0 k a1 ([] : List ByteArray) l0 (l0.length : Int) 0) = some r := h
 clear h
 have H' := Aside0.mk H
 clear H
 go_enter Try.func73, Try.ntmps73
 go_wp2
 go_loopg [5, 10] k (fun kq v5 v10 w' => ∃ (x5_1 : List ByteArray) (x10_1 : Int), v10 = .int .i64 x10_1 ∧ Aside0 (tree_Below.l0 kq a1 x5_1 l0 (l0.length : Int) x10_1 = some r) ∧ Aside0 (kq ≤ k) ∧ Aside0 (Kd.R Kd.string 9 w' w.heap.size (fun _ => True) v5 x5_1) ∧ Aside0 (Below w.heap.size w w'))
 case atStart => exact ⟨(([] : List ByteArray)), (0), (by first|rfl|(simp;done)|(simp [*];done)), H', ⟨Nat.le_refl _⟩, ⟨by first|exact Kd.R_nil _ _ _ _ _|exact Kd.N_nil _ _ _ _ _|exact Kd.V_nil _ _ _ _ _|exact Kd.Q_nil _ _ _ _ _|exact Kd.S_nil _ _ _ _ _⟩, ⟨by repeat (first|(with_reducible first|exact HB.out|apply below_alloc|apply pw_below_drewN|apply below_drew1)|exact HB.out)⟩⟩
 case round =>
  clear H'
  try clear p2
  obtain ⟨x5_1, x10_1, rfl, HA, HK1, HO_5, HB⟩ := hrel
  cases gk with
  | zero => exact absurd HA.out (by simp [tree_Below.l0])
  | succ k1 =>
   have H := HA.out
   clear HA
   simp only [tree_Below.l0] at H
   by_cases c3 : x10_1 < (l0.length : Int)
   ·rw [if_pos c3] at H
    have c3b0 : decide (x10_1 < (l0.length : Int)) = true := decide_eq_true c3
    clear c3
    by_cases c4 : 0 ≤ x10_1
    ·rw [if_pos c4] at H
     have c4b0 : decide (0 ≤ x10_1) = true := decide_eq_true c4
     clear c4
     by_cases c5 : x10_1 < (l0.length : Int)
     ·rw [if_pos c5] at H
      have c5b0 : decide (x10_1 < (l0.length : Int)) = true := decide_eq_true c5
      clear c5
      by_cases c6 : ((rd_T31 l0 x10_1).f1).toList = a1.toList
      ·rw [if_pos c6] at H
       have c6b0 : (((rd_T31 l0 x10_1).f1).toList == a1.toList) = true := beq_iff_eq.mpr c6
       have c6b1 : (((rd_T31 l0 x10_1).f1).toList != a1.toList) = false := bne_eq_false_iff_eq.mpr c6
       clear c6
       by_cases c7 : x5_1.length < 8796093022208
       ·rw [if_pos c7] at H
        have LMc7 := Aside0.mk c7
        clear c7
        obtain ⟨y3, hy3⟩ : ∃ y_ : List ByteArray, y_ = (x5_1 ++ [(rd_T31 l0 x10_1).f0]) := ⟨_, rfl⟩
        replace H : (tree_Below.l0 k1 a1 y3 l0 (l0.length : Int) (wrap64 (x10_1 + 1))) = some r := by first|(rw [hy3];with_reducible exact H)|(have H2_ := (Option.bind_some _ _).symm.trans H;rw [hy3];with_reducible exact H2_)|(have H2_ := (Option.bind_some _ _).symm.trans H;with_reducible exact H2_)|with_reducible exact H|(rw [hy3];exact H)|exact H
        have Ny3 := Aside0.mk hy3
        clear hy3
        have H' := Aside0.mk H
        clear H
        have p1 : 0 ≤ (x10_1 : Int) := of_decide_eq_true (by first|(with_reducible assumption)|assumption)
        have q1 : x10_1 < (l0.length : Int) := of_decide_eq_true (by first|(with_reducible assumption)|assumption)
        obtain ⟨ad1, e1, hx1_0, hx1_1, hx1_2, hx1_3, hx1_4, hx1_5, hx1_6, hx1_7, hx1_8, hx1_9, hx1_10, hx1_11⟩ := at_T31 HR0.out x10_1 p1 q1
        cases e1
        replace hx1_0 := (HB.out.cell (World.block_lt_of_cell? w _ hx1_0)).trans hx1_0
        replace hx1_1 := (HB.out.cell (World.block_lt_of_cell? w _ hx1_1)).trans hx1_1
        replace hx1_2 := (HB.out.cell (World.block_lt_of_cell? w _ hx1_2)).trans hx1_2
        replace hx1_3 := (HB.out.cell (World.block_lt_of_cell? w _ hx1_3)).trans hx1_3
        replace hx1_4 := (HB.out.cell (World.block_lt_of_cell? w _ hx1_4)).trans hx1_4
        replace hx1_5 := (HB.out.cell (World.block_lt_of_cell? w _ hx1_5)).trans hx1_5
        replace hx1_6 := (HB.out.cell (World.block_lt_of_cell? w _ hx1_6)).trans hx1_6
        replace hx1_7 := (HB.out.cell (World.block_lt_of_cell? w _ hx1_7)).trans hx1_7
        replace hx1_8 := (HB.out.cell (World.block_lt_of_cell? w _ hx1_8)).trans hx1_8
        replace hx1_9 := (HB.out.cell (World.block_lt_of_cell? w _ hx1_9)).trans hx1_9
        replace hx1_10 := (HB.out.cell (World.block_lt_of_cell? w _ hx1_10)).trans hx1_10
        replace hx1_11 := (HB.out.cell (World.block_lt_of_cell? w _ hx1_11)).trans hx1_11
        replace p1 := eq_true p1
        replace q1 := eq_true q1
        go_wp2_with (first|((with_reducible refine gate_dst (N := 7) rfl ?_);refine box_event ?hg (N := 7) ?hd (cs := #[.string (⟨#[]⟩ : ByteArray), .string (⟨#[]⟩ : ByteArray), .int .i64 0, .int .i64 0, .int .i64 0, .int .i64 0, .int .i64 0, .int .i64 0, .int .i64 0, .int .i64 0, .int .i64 0, .int .i64 0]) (t := 31) ?hr ?_;(case hd => rfl);(case hg => rfl);(case hr => first|(go_simp;done)|(go_simp;rfl));intro gb2 hg w8 hbox hb;have n0_ := Aside0.mk (Kd.R_below (by (with_reducible repeat (first|apply Kd.R_alloc|apply Kd.R_drewN|apply Kd.R_drew));exact HO_5.out) hb);have n1_ := Aside0.mk (below_step (by repeat (first|(with_reducible first|exact HB.out|apply below_alloc|apply pw_below_drewN|apply below_drew1)|exact HB.out)) hb);have n2_ := Aside0.mk (hbox);have n3_ := Aside0.mk ((by rw [hg];exact (below_size (by repeat (first|(with_reducible first|exact HB.out|apply below_alloc|apply pw_below_drewN|apply below_drew1)|exact HB.out))) : w.heap.size ≤ gb2));have n4_ := Aside0.mk ((by rw [hg];exact (below_size (by repeat (first|(with_reducible first|exact HB.out|apply below_alloc|apply pw_below_drewN|apply below_drew1)|exact HB.out))) : w.heap.size ≤ gb2));clear HO_5;clear HB;have HO_5 := n0_;have HB := n1_;have BK2 := n2_;have GW2 := n3_;have GE2 := n4_;clear n0_ n1_ n2_ n3_ n4_;clear hb hbox hg;have hcz9_0 : w8.cell? ⟨gb2, 0, none⟩ = some (.string (⟨#[]⟩ : ByteArray)) := (blk_cell BK2.out 0).trans rfl;have hcz9_1 : w8.cell? ⟨gb2, 1, none⟩ = some (.string (⟨#[]⟩ : ByteArray)) := (blk_cell BK2.out 1).trans rfl;have hcz9_2 : w8.cell? ⟨gb2, 2, none⟩ = some (.int .i64 0) := (blk_cell BK2.out 2).trans rfl;have hcz9_3 : w8.cell? ⟨gb2, 3, none⟩ = some (.int .i64 0) := (blk_cell BK2.out 3).trans rfl;have hcz9_4 : w8.cell? ⟨gb2, 4, none⟩ = some (.int .i64 0) := (blk_cell BK2.out 4).trans rfl;have hcz9_5 : w8.cell? ⟨gb2, 5, none⟩ = some (.int .i64 0) := (blk_cell BK2.out 5).trans rfl;have hcz9_6 : w8.cell? ⟨gb2, 6, none⟩ = some (.int .i64 0) := (blk_cell BK2.out 6).trans rfl;have hcz9_7 : w8.cell? ⟨gb2, 7, none⟩ = some (.int .i64 0) := (blk_cell BK2.out 7).trans rfl;have hcz9_8 : w8.cell? ⟨gb2, 8, none⟩ = some (.int .i64 0) := (blk_cell BK2.out 8).trans rfl;have hcz9_9 : w8.cell? ⟨gb2, 9, none⟩ = some (.int .i64 0) := (blk_cell BK2.out 9).trans rfl;have hcz9_10 : w8.cell? ⟨gb2, 10, none⟩ = some (.int .i64 0) := (blk_cell BK2.out 10).trans rfl;have hcz9_11 : w8.cell? ⟨gb2, 11, none⟩ = some (.int .i64 0) := (blk_cell BK2.out 11).trans rfl;have hfz9_0 := blk_frozen BK2.out 0;have hfz9_1 := blk_frozen BK2.out 1;have hfz9_2 := blk_frozen BK2.out 2;have hfz9_3 := blk_frozen BK2.out 3;have hfz9_4 := blk_frozen BK2.out 4;have hfz9_5 := blk_frozen BK2.out 5;have hfz9_6 := blk_frozen BK2.out 6;have hfz9_7 := blk_frozen BK2.out 7;have hfz9_8 := blk_frozen BK2.out 8;have hfz9_9 := blk_frozen BK2.out 9;have hfz9_10 := blk_frozen BK2.out 10;have hfz9_11 := blk_frozen BK2.out 11)|((with_reducible refine gate_builtin (b := .append) (xs := #[.tmp 18, .tmp 21]) rfl ?_);at_builtin;refine Kd.R_append Kd.string (w0 := w) w.heap.size rfl (.tmp 18) (.tmp 21) 74 9 (.string ⟨#[]⟩) 16 rfl Try.underlying74 info9 rfl (by decide) (by omega) u5 x5_1 ((rd_T31 l0 x10_1).f0) [.string ((rd_T31 l0 x10_1).f0)] (fun _ => True) (fun _ => False) rfl (by first|(go_simp;done)|(go_simp;rfl)) ?aP (fun _ hk => hk.elim) ?aF ?aO ?aB ?aS ?aL ?_;(case aP => exact rfl);(case aB => exact (by repeat (first|(with_reducible first|exact HB.out|apply below_alloc|apply pw_below_drewN|apply below_drew1|refine below_set ?_ GE2.out)|exact HB.out)));(case aF => exact (fun _ _ => trivial));(case aO => exact (by (with_reducible repeat (first|apply Kd.R_alloc|apply Kd.R_drewN|apply Kd.R_drew));exact Kd.R_mono (Kd.R_far (p := ⟨gb2, 11, none⟩) (Kd.R_far (p := ⟨gb2, 10, none⟩) (Kd.R_far (p := ⟨gb2, 9, none⟩) (Kd.R_far (p := ⟨gb2, 8, none⟩) (Kd.R_far (p := ⟨gb2, 7, none⟩) (Kd.R_far (p := ⟨gb2, 6, none⟩) (Kd.R_far (p := ⟨gb2, 5, none⟩) (Kd.R_far (p := ⟨gb2, 4, none⟩) (Kd.R_far (p := ⟨gb2, 3, none⟩) (Kd.R_far (p := ⟨gb2, 2, none⟩) (Kd.R_far (p := ⟨gb2, 1, none⟩) (Kd.R_far (p := ⟨gb2, 0, none⟩) (Kd.R_types HO_5.out BK2.out (by decide)) (fun _ hk => hk.2) (.string ((rd_T31 l0 x10_1).f0))) (fun _ hk => hk.2) (.string ((rd_T31 l0 x10_1).f1))) (fun _ hk => hk.2) (.int .i64 ((rd_T31 l0 x10_1).f2.f0))) (fun _ hk => hk.2) (.int .i64 ((rd_T31 l0 x10_1).f2.f1))) (fun _ hk => hk.2) (.int .i64 ((rd_T31 l0 x10_1).f2.f2))) (fun _ hk => hk.2) (.int .i64 ((rd_T31 l0 x10_1).f3.f0))) (fun _ hk => hk.2) (.int .i64 ((rd_T31 l0 x10_1).f3.f1))) (fun _ hk => hk.2) (.int .i64 ((rd_T31 l0 x10_1).f3.f2))) (fun _ hk => hk.2) (.int .i64 ((rd_T31 l0 x10_1).f4.f0))) (fun _ hk => hk.2) (.int .i64 ((rd_T31 l0 x10_1).f4.f1))) (fun _ hk => hk.2) (.int .i64 ((rd_T31 l0 x10_1).f4.f2))) (fun _ hk => hk.2) (.int .i64 ((rd_T31 l0 x10_1).f5))) (fun _ hk => trivial)));(case aS => exact (below_size (by repeat (first|(with_reducible first|exact HB.out|apply below_alloc|apply pw_below_drewN|apply below_drew1|refine below_set ?_ GE2.out)|exact HB.out))));(case aL => have := LMc7.out;omega);intro v4 w10 ho hb hg hat;rw [← Ny3.out] at ho;have n0_ := Aside0.mk (blk_grown (g := gb2) (o := .cells #[.string ((rd_T31 l0 x10_1).f0), .string ((rd_T31 l0 x10_1).f1), .int .i64 ((rd_T31 l0 x10_1).f2.f0), .int .i64 ((rd_T31 l0 x10_1).f2.f1), .int .i64 ((rd_T31 l0 x10_1).f2.f2), .int .i64 ((rd_T31 l0 x10_1).f3.f0), .int .i64 ((rd_T31 l0 x10_1).f3.f1), .int .i64 ((rd_T31 l0 x10_1).f3.f2), .int .i64 ((rd_T31 l0 x10_1).f4.f0), .int .i64 ((rd_T31 l0 x10_1).f4.f1), .int .i64 ((rd_T31 l0 x10_1).f4.f2), .int .i64 ((rd_T31 l0 x10_1).f5)] 31 (0, 0)) (by (with_reducible repeat (first|refine blk_drewN ?_ _|refine blk_drew ?_|refine blk_alloc ?_ _));refine blk_put (cs := #[.string ((rd_T31 l0 x10_1).f0), .string ((rd_T31 l0 x10_1).f1), .int .i64 ((rd_T31 l0 x10_1).f2.f0), .int .i64 ((rd_T31 l0 x10_1).f2.f1), .int .i64 ((rd_T31 l0 x10_1).f2.f2), .int .i64 ((rd_T31 l0 x10_1).f3.f0), .int .i64 ((rd_T31 l0 x10_1).f3.f1), .int .i64 ((rd_T31 l0 x10_1).f3.f2), .int .i64 ((rd_T31 l0 x10_1).f4.f0), .int .i64 ((rd_T31 l0 x10_1).f4.f1), .int .i64 ((rd_T31 l0 x10_1).f4.f2), .int .i64 0]) ?_ 11 _ rfl;(with_reducible repeat (first|refine blk_drewN ?_ _|refine blk_drew ?_|refine blk_alloc ?_ _));refine blk_put (cs := #[.string ((rd_T31 l0 x10_1).f0), .string ((rd_T31 l0 x10_1).f1), .int .i64 ((rd_T31 l0 x10_1).f2.f0), .int .i64 ((rd_T31 l0 x10_1).f2.f1), .int .i64 ((rd_T31 l0 x10_1).f2.f2), .int .i64 ((rd_T31 l0 x10_1).f3.f0), .int .i64 ((rd_T31 l0 x10_1).f3.f1), .int .i64 ((rd_T31 l0 x10_1).f3.f2), .int .i64 ((rd_T31 l0 x10_1).f4.f0), .int .i64 ((rd_T31 l0 x10_1).f4.f1), .int .i64 0, .int .i64 0]) ?_ 10 _ rfl;(with_reducible repeat (first|refine blk_drewN ?_ _|refine blk_drew ?_|refine blk_alloc ?_ _));refine blk_put (cs := #[.string ((rd_T31 l0 x10_1).f0), .string ((rd_T31 l0 x10_1).f1), .int .i64 ((rd_T31 l0 x10_1).f2.f0), .int .i64 ((rd_T31 l0 x10_1).f2.f1), .int .i64 ((rd_T31 l0 x10_1).f2.f2), .int .i64 ((rd_T31 l0 x10_1).f3.f0), .int .i64 ((rd_T31 l0 x10_1).f3.f1), .int .i64 ((rd_T31 l0 x10_1).f3.f2), .int .i64 ((rd_T31 l0 x10_1).f4.f0), .int .i64 0, .int .i64 0, .int .i64 0]) ?_ 9 _ rfl;(with_reducible repeat (first|refine blk_drewN ?_ _|refine blk_drew ?_|refine blk_alloc ?_ _));refine blk_put (cs := #[.string ((rd_T31 l0 x10_1).f0), .string ((rd_T31 l0 x10_1).f1), .int .i64 ((rd_T31 l0 x10_1).f2.f0), .int .i64 ((rd_T31 l0 x10_1).f2.f1), .int .i64 ((rd_T31 l0 x10_1).f2.f2), .int .i64 ((rd_T31 l0 x10_1).f3.f0), .int .i64 ((rd_T31 l0 x10_1).f3.f1), .int .i64 ((rd_T31 l0 x10_1).f3.f2), .int .i64 0, .int .i64 0, .int .i64 0, .int .i64 0]) ?_ 8 _ rfl;(with_reducible repeat (first|refine blk_drewN ?_ _|refine blk_drew ?_|refine blk_alloc ?_ _));refine blk_put (cs := #[.string ((rd_T31 l0 x10_1).f0), .string ((rd_T31 l0 x10_1).f1), .int .i64 ((rd_T31 l0 x10_1).f2.f0), .int .i64 ((rd_T31 l0 x10_1).f2.f1), .int .i64 ((rd_T31 l0 x10_1).f2.f2), .int .i64 ((rd_T31 l0 x10_1).f3.f0), .int .i64 ((rd_T31 l0 x10_1).f3.f1), .int .i64 0, .int .i64 0, .int .i64 0, .int .i64 0, .int .i64 0]) ?_ 7 _ rfl;(with_reducible repeat (first|refine blk_drewN ?_ _|refine blk_drew ?_|refine blk_alloc ?_ _));refine blk_put (cs := #[.string ((rd_T31 l0 x10_1).f0), .string ((rd_T31 l0 x10_1).f1), .int .i64 ((rd_T31 l0 x10_1).f2.f0), .int .i64 ((rd_T31 l0 x10_1).f2.f1), .int .i64 ((rd_T31 l0 x10_1).f2.f2), .int .i64 ((rd_T31 l0 x10_1).f3.f0), .int .i64 0, .int .i64 0, .int .i64 0, .int .i64 0, .int .i64 0, .int .i64 0]) ?_ 6 _ rfl;(with_reducible repeat (first|refine blk_drewN ?_ _|refine blk_drew ?_|refine blk_alloc ?_ _));refine blk_put (cs := #[.string ((rd_T31 l0 x10_1).f0), .string ((rd_T31 l0 x10_1).f1), .int .i64 ((rd_T31 l0 x10_1).f2.f0), .int .i64 ((rd_T31 l0 x10_1).f2.f1), .int .i64 ((rd_T31 l0 x10_1).f2.f2), .int .i64 0, .int .i64 0, .int .i64 0, .int .i64 0, .int .i64 0, .int .i64 0, .int .i64 0]) ?_ 5 _ rfl;(with_reducible repeat (first|refine blk_drewN ?_ _|refine blk_drew ?_|refine blk_alloc ?_ _));refine blk_put (cs := #[.string ((rd_T31 l0 x10_1).f0), .string ((rd_T31 l0 x10_1).f1), .int .i64 ((rd_T31 l0 x10_1).f2.f0), .int .i64 ((rd_T31 l0 x10_1).f2.f1), .int .i64 0, .int .i64 0, .int .i64 0, .int .i64 0, .int .i64 0, .int .i64 0, .int .i64 0, .int .i64 0]) ?_ 4 _ rfl;(with_reducible repeat (first|refine blk_drewN ?_ _|refine blk_drew ?_|refine blk_alloc ?_ _));refine blk_put (cs := #[.string ((rd_T31 l0 x10_1).f0), .string ((rd_T31 l0 x10_1).f1), .int .i64 ((rd_T31 l0 x10_1).f2.f0), .int .i64 0, .int .i64 0, .int .i64 0, .int .i64 0, .int .i64 0, .int .i64 0, .int .i64 0, .int .i64 0, .int .i64 0]) ?_ 3 _ rfl;(with_reducible repeat (first|refine blk_drewN ?_ _|refine blk_drew ?_|refine blk_alloc ?_ _));refine blk_put (cs := #[.string ((rd_T31 l0 x10_1).f0), .string ((rd_T31 l0 x10_1).f1), .int .i64 0, .int .i64 0, .int .i64 0, .int .i64 0, .int .i64 0, .int .i64 0, .int .i64 0, .int .i64 0, .int .i64 0, .int .i64 0]) ?_ 2 _ rfl;(with_reducible repeat (first|refine blk_drewN ?_ _|refine blk_drew ?_|refine blk_alloc ?_ _));refine blk_put (cs := #[.string ((rd_T31 l0 x10_1).f0), .string (⟨#[]⟩ : ByteArray), .int .i64 0, .int .i64 0, .int .i64 0, .int .i64 0, .int .i64 0, .int .i64 0, .int .i64 0, .int .i64 0, .int .i64 0, .int .i64 0]) ?_ 1 _ rfl;(with_reducible repeat (first|refine blk_drewN ?_ _|refine blk_drew ?_|refine blk_alloc ?_ _));refine blk_put (cs := #[.string (⟨#[]⟩ : ByteArray), .string (⟨#[]⟩ : ByteArray), .int .i64 0, .int .i64 0, .int .i64 0, .int .i64 0, .int .i64 0, .int .i64 0, .int .i64 0, .int .i64 0, .int .i64 0, .int .i64 0]) ?_ 0 _ rfl;(with_reducible repeat (first|refine blk_drewN ?_ _|refine blk_drew ?_|refine blk_alloc ?_ _));exact BK2.out) hg (Kd.R_ne HO_5.out BK2.out (by decide)));have n1_ := Aside0.mk (hb);have n2_ := Aside0.mk (ho);clear BK2;clear HB;clear HO_5;have BK2 := n0_;have HB := n1_;have HO5 := n2_;clear n0_ n1_ n2_;clear ho hb hg hat))
        go_roundg k1
        case measure => have := HK1.out; omega
        case rel => exact ⟨(y3), (wrap64 (x10_1 + 1)), (by first|rfl|(simp;done)|(simp [*];done)), H', ⟨by have := HK1.out;omega⟩, ⟨by (with_reducible repeat (first|apply Kd.R_alloc|apply Kd.R_drewN|apply Kd.R_drew));exact HO5.out⟩, ⟨by repeat (first|(with_reducible first|exact HB.out|apply below_alloc|apply pw_below_drewN|apply below_drew1|refine below_set ?_ GE2.out)|exact HB.out)⟩⟩
       ·rw [if_neg c7] at H
        exact absurd H (by simp)
      ·rw [if_neg c6] at H
       have c6b0 : (((rd_T31 l0 x10_1).f1).toList == a1.toList) = false := beq_eq_false_iff_ne.mpr c6
       have c6b1 : (((rd_T31 l0 x10_1).f1).toList != a1.toList) = true := bne_iff_ne.mpr c6
       have H' := Aside0.mk H
       clear H
       have p1 : 0 ≤ (x10_1 : Int) := of_decide_eq_true (by first|(with_reducible assumption)|assumption)
       have q1 : x10_1 < (l0.length : Int) := of_decide_eq_true (by first|(with_reducible assumption)|assumption)
       obtain ⟨ad1, e1, hx1_0, hx1_1, hx1_2, hx1_3, hx1_4, hx1_5, hx1_6, hx1_7, hx1_8, hx1_9, hx1_10, hx1_11⟩ := at_T31 HR0.out x10_1 p1 q1
       cases e1
       replace hx1_0 := (HB.out.cell (World.block_lt_of_cell? w _ hx1_0)).trans hx1_0
       replace hx1_1 := (HB.out.cell (World.block_lt_of_cell? w _ hx1_1)).trans hx1_1
       replace hx1_2 := (HB.out.cell (World.block_lt_of_cell? w _ hx1_2)).trans hx1_2
       replace hx1_3 := (HB.out.cell (World.block_lt_of_cell? w _ hx1_3)).trans hx1_3
       replace hx1_4 := (HB.out.cell (World.block_lt_of_cell? w _ hx1_4)).trans hx1_4
       replace hx1_5 := (HB.out.cell (World.block_lt_of_cell? w _ hx1_5)).trans hx1_5
       replace hx1_6 := (HB.out.cell (World.block_lt_of_cell? w _ hx1_6)).trans hx1_6
       replace hx1_7 := (HB.out.cell (World.block_lt_of_cell? w _ hx1_7)).trans hx1_7
       replace hx1_8 := (HB.out.cell (World.block_lt_of_cell? w _ hx1_8)).trans hx1_8
       replace hx1_9 := (HB.out.cell (World.block_lt_of_cell? w _ hx1_9)).trans hx1_9
       replace hx1_10 := (HB.out.cell (World.block_lt_of_cell? w _ hx1_10)).trans hx1_10
       replace hx1_11 := (HB.out.cell (World.block_lt_of_cell? w _ hx1_11)).trans hx1_11
       replace p1 := eq_true p1
       replace q1 := eq_true q1
       go_wp2_with (first|((with_reducible refine gate_dst (N := 7) rfl ?_);refine box_event ?hg (N := 7) ?hd (cs := #[.string (⟨#[]⟩ : ByteArray), .string (⟨#[]⟩ : ByteArray), .int .i64 0, .int .i64 0, .int .i64 0, .int .i64 0, .int .i64 0, .int .i64 0, .int .i64 0, .int .i64 0, .int .i64 0, .int .i64 0]) (t := 31) ?hr ?_;(case hd => rfl);(case hg => rfl);(case hr => first|(go_simp;done)|(go_simp;rfl));intro gb2 hg w11 hbox hb;have n0_ := Aside0.mk (Kd.R_below (by (with_reducible repeat (first|apply Kd.R_alloc|apply Kd.R_drewN|apply Kd.R_drew));exact HO_5.out) hb);have n1_ := Aside0.mk (below_step (by repeat (first|(with_reducible first|exact HB.out|apply below_alloc|apply pw_below_drewN|apply below_drew1)|exact HB.out)) hb);have n2_ := Aside0.mk (hbox);have n3_ := Aside0.mk ((by rw [hg];exact (below_size (by repeat (first|(with_reducible first|exact HB.out|apply below_alloc|apply pw_below_drewN|apply below_drew1)|exact HB.out))) : w.heap.size ≤ gb2));have n4_ := Aside0.mk ((by rw [hg];exact (below_size (by repeat (first|(with_reducible first|exact HB.out|apply below_alloc|apply pw_below_drewN|apply below_drew1)|exact HB.out))) : w.heap.size ≤ gb2));clear HO_5;clear HB;have HO_5 := n0_;have HB := n1_;have BK2 := n2_;have GW2 := n3_;have GE2 := n4_;clear n0_ n1_ n2_ n3_ n4_;clear hb hbox hg;have hcz12_0 : w11.cell? ⟨gb2, 0, none⟩ = some (.string (⟨#[]⟩ : ByteArray)) := (blk_cell BK2.out 0).trans rfl;have hcz12_1 : w11.cell? ⟨gb2, 1, none⟩ = some (.string (⟨#[]⟩ : ByteArray)) := (blk_cell BK2.out 1).trans rfl;have hcz12_2 : w11.cell? ⟨gb2, 2, none⟩ = some (.int .i64 0) := (blk_cell BK2.out 2).trans rfl;have hcz12_3 : w11.cell? ⟨gb2, 3, none⟩ = some (.int .i64 0) := (blk_cell BK2.out 3).trans rfl;have hcz12_4 : w11.cell? ⟨gb2, 4, none⟩ = some (.int .i64 0) := (blk_cell BK2.out 4).trans rfl;have hcz12_5 : w11.cell? ⟨gb2, 5, none⟩ = some (.int .i64 0) := (blk_cell BK2.out 5).trans rfl;have hcz12_6 : w11.cell? ⟨gb2, 6, none⟩ = some (.int .i64 0) := (blk_cell BK2.out 6).trans rfl;have hcz12_7 : w11.cell? ⟨gb2, 7, none⟩ = some (.int .i64 0) := (blk_cell BK2.out 7).trans rfl;have hcz12_8 : w11.cell? ⟨gb2, 8, none⟩ = some (.int .i64 0) := (blk_cell BK2.out 8).trans rfl;have hcz12_9 : w11.cell? ⟨gb2, 9, none⟩ = some (.int .i64 0) := (blk_cell BK2.out 9).trans rfl;have hcz12_10 : w11.cell? ⟨gb2, 10, none⟩ = some (.int .i64 0) := (blk_cell BK2.out 10).trans rfl;have hcz12_11 : w11.cell? ⟨gb2, 11, none⟩ = some (.int .i64 0) := (blk_cell BK2.out 11).trans rfl;have hfz12_0 := blk_frozen BK2.out 0;have hfz12_1 := blk_frozen BK2.out 1;have hfz12_2 := blk_frozen BK2.out 2;have hfz12_3 := blk_frozen BK2.out 3;have hfz12_4 := blk_frozen BK2.out 4;have hfz12_5 := blk_frozen BK2.out 5;have hfz12_6 := blk_frozen BK2.out 6;have hfz12_7 := blk_frozen BK2.out 7;have hfz12_8 := blk_frozen BK2.out 8;have hfz12_9 := blk_frozen BK2.out 9;have hfz12_10 := blk_frozen BK2.out 10;have hfz12_11 := blk_frozen BK2.out 11))
       go_roundg k1
       case measure => have := HK1.out; omega
       case rel => exact ⟨(x5_1), (wrap64 (x10_1 + 1)), (by first|rfl|(simp;done)|(simp [*];done)), H', ⟨by have := HK1.out;omega⟩, ⟨by (with_reducible repeat (first|apply Kd.R_alloc|apply Kd.R_drewN|apply Kd.R_drew));exact Kd.R_mono (Kd.R_far (p := ⟨gb2, 11, none⟩) (Kd.R_far (p := ⟨gb2, 10, none⟩) (Kd.R_far (p := ⟨gb2, 9, none⟩) (Kd.R_far (p := ⟨gb2, 8, none⟩) (Kd.R_far (p := ⟨gb2, 7, none⟩) (Kd.R_far (p := ⟨gb2, 6, none⟩) (Kd.R_far (p := ⟨gb2, 5, none⟩) (Kd.R_far (p := ⟨gb2, 4, none⟩) (Kd.R_far (p := ⟨gb2, 3, none⟩) (Kd.R_far (p := ⟨gb2, 2, none⟩) (Kd.R_far (p := ⟨gb2, 1, none⟩) (Kd.R_far (p := ⟨gb2, 0, none⟩) (Kd.R_types HO_5.out BK2.out (by decide)) (fun _ hk => hk.2) (.string ((rd_T31 l0 x10_1).f0))) (fun _ hk => hk.2) (.string ((rd_T31 l0 x10_1).f1))) (fun _ hk => hk.2) (.int .i64 ((rd_T31 l0 x10_1).f2.f0))) (fun _ hk => hk.2) (.int .i64 ((rd_T31 l0 x10_1).f2.f1))) (fun _ hk => hk.2) (.int .i64 ((rd_T31 l0 x10_1).f2.f2))) (fun _ hk => hk.2) (.int .i64 ((rd_T31 l0 x10_1).f3.f0))) (fun _ hk => hk.2) (.int .i64 ((rd_T31 l0 x10_1).f3.f1))) (fun _ hk => hk.2) (.int .i64 ((rd_T31 l0 x10_1).f3.f2))) (fun _ hk => hk.2) (.int .i64 ((rd_T31 l0 x10_1).f4.f0))) (fun _ hk => hk.2) (.int .i64 ((rd_T31 l0 x10_1).f4.f1))) (fun _ hk => hk.2) (.int .i64 ((rd_T31 l0 x10_1).f4.f2))) (fun _ hk => hk.2) (.int .i64 ((rd_T31 l0 x10_1).f5))) (fun _ hk => trivial)⟩, ⟨by repeat (first|(with_reducible first|exact HB.out|apply below_alloc|apply pw_below_drewN|apply below_drew1|refine below_set ?_ GE2.out)|exact HB.out)⟩⟩
     ·rw [if_neg c5] at H
      exact absurd H (by simp)
    ·rw [if_neg c4] at H
     exact absurd H (by simp)
   ·rw [if_neg c3] at H
    have c3b0 : decide (x10_1 < (l0.length : Int)) = false := decide_eq_false c3
    clear c3
    obtain rfl := Option.some.inj H
    go_wp2
    go_ret
    exact ⟨_, by first|rfl|(simp [errW_none, errW_some] <;> rfl)|(simp [*, errW_none, errW_some] <;> rfl), by (with_reducible repeat (first|apply Kd.R_alloc|apply Kd.R_drewN|apply Kd.R_drew));exact HO_5.out, by repeat (first|(with_reducible first|exact HB.out|apply below_alloc|apply pw_below_drewN|apply below_drew1)|exact HB.out)⟩
end Go.Proofs.Ytcgefpklljclgaa.Print

namespace Go.Proofs.Ytcgefpklljclgaa.Print
open Go.RowKit Go.Proofs.YtcgefpklljclgaaW.PrintWords Go.Proofs.YtcgefpklljclgaaW.PrintLast Go.Proofs.YtcgefpklljclgaaW.PrintMore
attribute [local go_sem] max2_int min2_int max_two min_two max_three min_three max_four min_four   -- for this text's walks alone
set_option linter.unusedVariables false
set_option linter.unusedSimpArgs false
/-! ### law12_awake: function 67 -/
def law12_awake.f (k : Nat)  : Option (Bool) := (some (([(⟨(⟨#[97]⟩ : ByteArray), (⟨#[]⟩ : ByteArray), (⟨0, 0, 0⟩ : S27), (⟨0, 0, 0⟩ : S27), (⟨0, 0, 0⟩ : S27), 1⟩ : S31)] : List (S31)) : List (S31))).bind fun y1 => ((tree_Right.f k ([] : List (S31))).bind fun t4 => (if t4 = true then ((tree_Right.f k y1).bind fun t5 => (if t5 = true then ((tree_Find.f y1 (⟨#[97]⟩ : ByteArray)).bind fun t6 => (if t6 = 0 then ((tree_Depth.f k y1 (⟨#[97]⟩ : ByteArray)).bind fun t7 => (if t7 = 1 then ((tree_Below.f k y1 (⟨#[]⟩ : ByteArray)).bind fun t8 => (some ((t8.length : Int) == 1))) else (some false))) else (some false))) else (some false))) else (some false)))
theorem law12_awake.mono : ∀ k, LeO (law12_awake.f k ) (law12_awake.f (k + 1) ) := by
 intro  k
 unfold law12_awake.f
 repeat' first
   | (with_reducible exact tree_Below.mono _ _ _)
   | (with_reducible exact tree_Depth.mono _ _ _)
   | (with_reducible exact tree_Right.mono _ _)
   | (with_reducible exact LeO.refl _)
   | (with_reducible exact LeO.none _)
   | (with_reducible refine LeO.ite ?_ ?_)
   | (with_reducible refine LeO.bind ?_ (fun _ => ?_))
   | exact tree_Below.mono _ _ _
   | exact tree_Depth.mono _ _ _
   | exact tree_Right.mono _ _
   | exact LeO.none _
   | refine LeO.ite ?_ ?_
   | refine LeO.bind ?_ (fun _ => ?_)
set_option maxHeartbeats 8000000 in
set_option maxRecDepth 100000 in
theorem law12_awake.calls (k : Nat)  (r : Bool) (w : World) (h : law12_awake.f k  = some r) :
  Calls Try.prog 67 #[] w fun e w' => e = .returned (.bool r) ∧ Below w.heap.size w w' := by
 have hu31 := Try.underlying31
 have HB := Aside0.mk (Below.refl w.heap.size w)
 have H : ((some (([(⟨(⟨#[97]⟩ : ByteArray), (⟨#[]⟩ : ByteArray), (⟨0, 0, 0⟩ : S27), (⟨0, 0, 0⟩ : S27), (⟨0, 0, 0⟩ : S27), 1⟩ : S31)] : List (S31)) : List (S31))).bind fun y1 => ((tree_Right.f k ([] : List (S31))).bind fun t4 => (if t4 = true then ((tree_Right.f k y1).bind fun t5 => (if t5 = true then ((tree_Find.f y1 (⟨#[97]⟩ : ByteArray)).bind fun t6 => (if t6 = 0 then ((tree_Depth.f k y1 (⟨#[97]⟩ : ByteArray)).bind fun t7 => (if t7 = 1 then ((tree_Below.f k y1 (⟨#[]⟩ : ByteArray)).bind fun t8 => (some ((t8.length : Int) == 1))) else (some false))) else (some false))) else (some false))) else (some false)))) = some r := h
 clear h
 obtain ⟨y1, hy1⟩ : ∃ y_ : List (S31), y_ = (([(⟨(⟨#[97]⟩ : ByteArray), (⟨#[]⟩ : ByteArray), (⟨0, 0, 0⟩ : S27), (⟨0, 0, 0⟩ : S27), (⟨0, 0, 0⟩ : S27), 1⟩ : S31)] : List (S31))) := ⟨_, rfl⟩
 replace H : ((tree_Right.f k ([] : List (S31))).bind fun t4 => (if t4 = true then ((tree_Right.f k y1).bind fun t5 => (if t5 = true then ((tree_Find.f y1 (⟨#[97]⟩ : ByteArray)).bind fun t6 => (if t6 = 0 then ((tree_Depth.f k y1 (⟨#[97]⟩ : ByteArray)).bind fun t7 => (if t7 = 1 then ((tree_Below.f k y1 (⟨#[]⟩ : ByteArray)).bind fun t8 => (some ((t8.length : Int) == 1))) else (some false))) else (some false))) else (some false))) else (some false))) = some r := by first|(rw [hy1];with_reducible exact H)|(have H2_ := (Option.bind_some _ _).symm.trans H;rw [hy1];with_reducible exact H2_)|(have H2_ := (Option.bind_some _ _).symm.trans H;with_reducible exact H2_)|with_reducible exact H|(rw [hy1];exact H)|exact H
 have Ny1 := Aside0.mk hy1
 clear hy1
 replace H := Option.bind_eq_some_iff.mp H
 obtain ⟨t4, A10, H⟩ := H
 replace H : (if t4 = true then ((tree_Right.f k y1).bind fun t5 => (if t5 = true then ((tree_Find.f y1 (⟨#[97]⟩ : ByteArray)).bind fun t6 => (if t6 = 0 then ((tree_Depth.f k y1 (⟨#[97]⟩ : ByteArray)).bind fun t7 => (if t7 = 1 then ((tree_Below.f k y1 (⟨#[]⟩ : ByteArray)).bind fun t8 => (some ((t8.length : Int) == 1))) else (some false))) else (some false))) else (some false))) else (some false)) = some r := H
 have A1 := Aside0.mk A10
 clear A10
 by_cases c2 : t4 = true
 ·subst c2
  have H1 : ((tree_Right.f k y1).bind fun t5 => (if t5 = true then ((tree_Find.f y1 (⟨#[97]⟩ : ByteArray)).bind fun t6 => (if t6 = 0 then ((tree_Depth.f k y1 (⟨#[97]⟩ : ByteArray)).bind fun t7 => (if t7 = 1 then ((tree_Below.f k y1 (⟨#[]⟩ : ByteArray)).bind fun t8 => (some ((t8.length : Int) == 1))) else (some false))) else (some false))) else (some false))) = some r := by rw [if_pos rfl] at H; exact H
  clear H
  have H := H1
  clear H1
  replace H := Option.bind_eq_some_iff.mp H
  obtain ⟨t5, A30, H⟩ := H
  replace H : (if t5 = true then ((tree_Find.f y1 (⟨#[97]⟩ : ByteArray)).bind fun t6 => (if t6 = 0 then ((tree_Depth.f k y1 (⟨#[97]⟩ : ByteArray)).bind fun t7 => (if t7 = 1 then ((tree_Below.f k y1 (⟨#[]⟩ : ByteArray)).bind fun t8 => (some ((t8.length : Int) == 1))) else (some false))) else (some false))) else (some false)) = some r := H
  have A3 := Aside0.mk A30
  clear A30
  by_cases c4 : t5 = true
  ·subst c4
   have H1 : ((tree_Find.f y1 (⟨#[97]⟩ : ByteArray)).bind fun t6 => (if t6 = 0 then ((tree_Depth.f k y1 (⟨#[97]⟩ : ByteArray)).bind fun t7 => (if t7 = 1 then ((tree_Below.f k y1 (⟨#[]⟩ : ByteArray)).bind fun t8 => (some ((t8.length : Int) == 1))) else (some false))) else (some false))) = some r := by rw [if_pos rfl] at H; exact H
   clear H
   have H := H1
   clear H1
   replace H := Option.bind_eq_some_iff.mp H
   obtain ⟨t6, A50, H⟩ := H
   replace H : (if t6 = 0 then ((tree_Depth.f k y1 (⟨#[97]⟩ : ByteArray)).bind fun t7 => (if t7 = 1 then ((tree_Below.f k y1 (⟨#[]⟩ : ByteArray)).bind fun t8 => (some ((t8.length : Int) == 1))) else (some false))) else (some false)) = some r := H
   have A5 := Aside0.mk A50
   clear A50
   by_cases c6 : t6 = 0
   ·rw [if_pos c6] at H
    have c6b0 : (t6 == 0) = true := beq_iff_eq.mpr c6
    have c6b1 : (t6 != 0) = false := bne_eq_false_iff_eq.mpr c6
    clear c6
    replace H := Option.bind_eq_some_iff.mp H
    obtain ⟨t7, A70, H⟩ := H
    replace H : (if t7 = 1 then ((tree_Below.f k y1 (⟨#[]⟩ : ByteArray)).bind fun t8 => (some ((t8.length : Int) == 1))) else (some false)) = some r := H
    have A7 := Aside0.mk A70
    clear A70
    by_cases c8 : t7 = 1
    ·rw [if_pos c8] at H
     have c8b0 : (t7 == 1) = true := beq_iff_eq.mpr c8
     have c8b1 : (t7 != 1) = false := bne_eq_false_iff_eq.mpr c8
     clear c8
     replace H := Option.bind_eq_some_iff.mp H
     obtain ⟨t8, A90, H⟩ := H
     replace H : (some ((t8.length : Int) == 1)) = some r := H
     have A9 := Aside0.mk A90
     clear A90
     obtain rfl := Option.some.inj H
     go_enter Try.func67, Try.ntmps67
     go_wp2_with (first|((with_reducible refine gate_dst (N := 3) rfl ?_);(try (refine gate_guard (by rfl) ?_;dsimp only));refine Kd.R_lit k31 _ 31 ?hg (N := 3) ?hd (xs := ([(⟨(⟨#[97]⟩ : ByteArray), (⟨#[]⟩ : ByteArray), (⟨0, 0, 0⟩ : S27), (⟨0, 0, 0⟩ : S27), (⟨0, 0, 0⟩ : S27), 1⟩ : S31)] : List (S31))) (inner := [.string (⟨#[97]⟩ : ByteArray), .string (⟨#[]⟩ : ByteArray), .int .i64 0, .int .i64 0, .int .i64 0, .int .i64 0, .int .i64 0, .int .i64 0, .int .i64 0, .int .i64 0, .int .i64 0, .int .i64 1]) (ok := fun _ => True) (okp := fun _ => True) ?hr ?hp (fun _ hk => hk) trivial (Below.refl _ _) (Nat.le_refl _) (by simp) ?_;(case hd => rfl);(case hg => rfl);(case hr => first|(go_simp;done)|(go_simp;rfl));(case hp => exact (Reps.front (show Kd.M k31 _ _ _ (⟨(⟨#[97]⟩ : ByteArray), (⟨#[]⟩ : ByteArray), (⟨0, 0, 0⟩ : S27), (⟨0, 0, 0⟩ : S27), (⟨0, 0, 0⟩ : S27), 1⟩ : S31) [.string (⟨#[97]⟩ : ByteArray), .string (⟨#[]⟩ : ByteArray), .int .i64 0, .int .i64 0, .int .i64 0, .int .i64 0, .int .i64 0, .int .i64 0, .int .i64 0, .int .i64 0, .int .i64 0, .int .i64 1] from (k31_mkM _ _ _ (⟨(⟨#[97]⟩ : ByteArray), (⟨#[]⟩ : ByteArray), (⟨0, 0, 0⟩ : S27), (⟨0, 0, 0⟩ : S27), (⟨0, 0, 0⟩ : S27), 1⟩ : S31) )) rfl (Reps.none _ _) rfl));intro v2 w10 ho11 hb hg_ hnew_;clear hg_ hnew_;(first|rw [← Ny1.out] at ho11|(simp only [Int.reduceToNat] at ho11;rw [← Ny1.out] at ho11));have n0_ := Aside0.mk (Kd.R_lower ho11 (below_size (by repeat (first|(with_reducible first|exact HB.out|apply below_alloc|apply pw_below_drewN|apply below_drew1)|exact HB.out))));have n1_ := Aside0.mk (below_step (by repeat (first|(with_reducible first|exact HB.out|apply below_alloc|apply pw_below_drewN|apply below_drew1)|exact HB.out)) hb);clear HB;have HO3 := n0_;have HB := n1_;clear n0_ n1_;clear hb ho11)|((with_reducible refine gate_callee (f := 68) rfl ?_);refine goesL_ (some 4) rfl rfl Try.func68 (by kernel_rfl) rfl #[.slice none 0 0] rfl (by (try simp only [List.map_toArray, List.map_cons, List.map_nil]);first|done|rfl|(simp only [List.length_drop, List.length_take];rfl)) ?_;(refine (tree_Right.calls k _ _ ([] : List (S31)) true _ ?side1 ?side2 A1.out).mono ?_);(case side1 => exact Kd.C_nil _ _);(case side2 => exact Nat.le_refl _);rintro e w12 ⟨rfl, hb⟩;refine ⟨_, rfl, ?_⟩;have n0_ := Aside0.mk (Kd.R_below (by (with_reducible repeat (first|apply Kd.R_alloc|apply Kd.R_drewN|apply Kd.R_drew));exact HO3.out) hb);have n1_ := Aside0.mk (below_step (by repeat (first|(with_reducible first|exact HB.out|apply below_alloc|apply pw_below_drewN|apply below_drew1)|exact HB.out)) hb);clear HO3;clear HB;have HO3 := n0_;have HB := n1_;clear n0_ n1_;(try clear hb);(try clear hb2);(try clear hk);(try clear hi);obtain ⟨Ao13, co13, eo13⟩ := Kd.R_slice HO3.out;subst eo13)|(go_at_call 68;(with_reducible refine (tree_Right.calls k _ _ y1 true _ ?side1 ?side2 A3.out).mono ?_);(case side1 => repeat (first|exact (Kd.R_reads' HO3.out).2.2|(with_reducible refine Kd.C_alloc ?_ _)|(with_reducible refine Kd.C_drewN ?_ _)|(with_reducible refine Kd.C_drew ?_)));(case side2 => exact (Kd.R_reads' HO3.out).2.1);rintro e w14 ⟨rfl, hb⟩;have n0_ := Aside0.mk (Kd.R_below (by (with_reducible repeat (first|apply Kd.R_alloc|apply Kd.R_drewN|apply Kd.R_drew));exact HO3.out) hb);have n1_ := Aside0.mk (below_step (by repeat (first|(with_reducible first|exact HB.out|apply below_alloc|apply pw_below_drewN|apply below_drew1)|exact HB.out)) hb);clear HO3;clear HB;have HO3 := n0_;have HB := n1_;clear n0_ n1_;(try clear hb);(try clear hb2);(try clear hk);(try clear hi))|(go_at_call 71;(with_reducible refine (tree_Find.calls _ _ y1 (⟨#[97]⟩ : ByteArray) t6 _ ?side1 ?side2 A5.out).mono ?_);(case side1 => repeat (first|exact (Kd.R_reads' HO3.out).2.2|(with_reducible refine Kd.C_alloc ?_ _)|(with_reducible refine Kd.C_drewN ?_ _)|(with_reducible refine Kd.C_drew ?_)));(case side2 => exact (Kd.R_reads' HO3.out).2.1);rintro e w15 ⟨rfl, hb⟩;have n0_ := Aside0.mk (Kd.R_below (by (with_reducible repeat (first|apply Kd.R_alloc|apply Kd.R_drewN|apply Kd.R_drew));exact HO3.out) hb);have n1_ := Aside0.mk (below_step (by repeat (first|(with_reducible first|exact HB.out|apply below_alloc|apply pw_below_drewN|apply below_drew1)|exact HB.out)) hb);clear HO3;clear HB;have HO3 := n0_;have HB := n1_;clear n0_ n1_;(try clear hb);(try clear hb2);(try clear hk);(try clear hi))|(go_at_call 72;(with_reducible refine (tree_Depth.calls k _ _ y1 (⟨#[97]⟩ : ByteArray) t7 _ ?side1 ?side2 A7.out).mono ?_);(case side1 => repeat (first|exact (Kd.R_reads' HO3.out).2.2|(with_reducible refine Kd.C_alloc ?_ _)|(with_reducible refine Kd.C_drewN ?_ _)|(with_reducible refine Kd.C_drew ?_)));(case side2 => exact (Kd.R_reads' HO3.out).2.1);rintro e w16 ⟨rfl, hb⟩;have n0_ := Aside0.mk (Kd.R_below (by (with_reducible repeat (first|apply Kd.R_alloc|apply Kd.R_drewN|apply Kd.R_drew));exact HO3.out) hb);have n1_ := Aside0.mk (below_step (by repeat (first|(with_reducible first|exact HB.out|apply below_alloc|apply pw_below_drewN|apply below_drew1)|exact HB.out)) hb);clear HO3;clear HB;have HO3 := n0_;have HB := n1_;clear n0_ n1_;(try clear hb);(try clear hb2);(try clear hk);(try clear hi))|(go_at_call 73;(with_reducible refine (tree_Below.calls k _ _ y1 (⟨#[]⟩ : ByteArray) t8 _ ?side1 ?side2 A9.out).mono ?_);(case side1 => repeat (first|exact (Kd.R_reads' HO3.out).2.2|(with_reducible refine Kd.C_alloc ?_ _)|(with_reducible refine Kd.C_drewN ?_ _)|(with_reducible refine Kd.C_drew ?_)));(case side2 => exact (Kd.R_reads' HO3.out).2.1);rintro e w17 ⟨v9, rfl, ho0, hb⟩;have n0_ := Aside0.mk (Kd.R_below (by (with_reducible repeat (first|apply Kd.R_alloc|apply Kd.R_drewN|apply Kd.R_drew));exact HO3.out) hb);have n1_ := Aside0.mk (Kd.R_lower ho0 (below_size (by repeat (first|(with_reducible first|exact HB.out|apply below_alloc|apply pw_below_drewN|apply below_drew1)|exact HB.out))));have n2_ := Aside0.mk (below_step (by repeat (first|(with_reducible first|exact HB.out|apply below_alloc|apply pw_below_drewN|apply below_drew1)|exact HB.out)) hb);clear HO3;clear HB;have HO3 := n0_;have HO10 := n1_;have HB := n2_;clear n0_ n1_ n2_;(try clear hb);(try clear hb2);(try clear hk);(try clear hi);(try clear ho0);obtain ⟨Ao18, co18, eo18⟩ := Kd.R_slice HO10.out;subst eo18))
     go_ret
     exact ⟨by first|rfl|(simp [errW_none, errW_some] <;> rfl)|(simp [*, errW_none, errW_some] <;> rfl), by repeat (first|(with_reducible first|exact HB.out|apply below_alloc|apply pw_below_drewN|apply below_drew1)|exact HB.out)⟩
    ·rw [if_neg c8] at H
     have c8b0 : (t7 == 1) = false := beq_eq_false_iff_ne.mpr c8
     have c8b1 : (t7 != 1) = true := bne_iff_ne.mpr c8
     obtain rfl := Option.some.inj H
     go_enter Try.func67, Try.ntmps67
     go_wp2_with (first|((with_reducible refine gate_dst (N := 3) rfl ?_);(try (refine gate_guard (by rfl) ?_;dsimp only));refine Kd.R_lit k31 _ 31 ?hg (N := 3) ?hd (xs := ([(⟨(⟨#[97]⟩ : ByteArray), (⟨#[]⟩ : ByteArray), (⟨0, 0, 0⟩ : S27), (⟨0, 0, 0⟩ : S27), (⟨0, 0, 0⟩ : S27), 1⟩ : S31)] : List (S31))) (inner := [.string (⟨#[97]⟩ : ByteArray), .string (⟨#[]⟩ : ByteArray), .int .i64 0, .int .i64 0, .int .i64 0, .int .i64 0, .int .i64 0, .int .i64 0, .int .i64 0, .int .i64 0, .int .i64 0, .int .i64 1]) (ok := fun _ => True) (okp := fun _ => True) ?hr ?hp (fun _ hk => hk) trivial (Below.refl _ _) (Nat.le_refl _) (by simp) ?_;(case hd => rfl);(case hg => rfl);(case hr => first|(go_simp;done)|(go_simp;rfl));(case hp => exact (Reps.front (show Kd.M k31 _ _ _ (⟨(⟨#[97]⟩ : ByteArray), (⟨#[]⟩ : ByteArray), (⟨0, 0, 0⟩ : S27), (⟨0, 0, 0⟩ : S27), (⟨0, 0, 0⟩ : S27), 1⟩ : S31) [.string (⟨#[97]⟩ : ByteArray), .string (⟨#[]⟩ : ByteArray), .int .i64 0, .int .i64 0, .int .i64 0, .int .i64 0, .int .i64 0, .int .i64 0, .int .i64 0, .int .i64 0, .int .i64 0, .int .i64 1] from (k31_mkM _ _ _ (⟨(⟨#[97]⟩ : ByteArray), (⟨#[]⟩ : ByteArray), (⟨0, 0, 0⟩ : S27), (⟨0, 0, 0⟩ : S27), (⟨0, 0, 0⟩ : S27), 1⟩ : S31) )) rfl (Reps.none _ _) rfl));intro v2 w19 ho20 hb hg_ hnew_;clear hg_ hnew_;(first|rw [← Ny1.out] at ho20|(simp only [Int.reduceToNat] at ho20;rw [← Ny1.out] at ho20));have n0_ := Aside0.mk (Kd.R_lower ho20 (below_size (by repeat (first|(with_reducible first|exact HB.out|apply below_alloc|apply pw_below_drewN|apply below_drew1)|exact HB.out))));have n1_ := Aside0.mk (below_step (by repeat (first|(with_reducible first|exact HB.out|apply below_alloc|apply pw_below_drewN|apply below_drew1)|exact HB.out)) hb);clear HB;have HO3 := n0_;have HB := n1_;clear n0_ n1_;clear hb ho20)|((with_reducible refine gate_callee (f := 68) rfl ?_);refine goesL_ (some 4) rfl rfl Try.func68 (by kernel_rfl) rfl #[.slice none 0 0] rfl (by (try simp only [List.map_toArray, List.map_cons, List.map_nil]);first|done|rfl|(simp only [List.length_drop, List.length_take];rfl)) ?_;(refine (tree_Right.calls k _ _ ([] : List (S31)) true _ ?side1 ?side2 A1.out).mono ?_);(case side1 => exact Kd.C_nil _ _);(case side2 => exact Nat.le_refl _);rintro e w21 ⟨rfl, hb⟩;refine ⟨_, rfl, ?_⟩;have n0_ := Aside0.mk (Kd.R_below (by (with_reducible repeat (first|apply Kd.R_alloc|apply Kd.R_drewN|apply Kd.R_drew));exact HO3.out) hb);have n1_ := Aside0.mk (below_step (by repeat (first|(with_reducible first|exact HB.out|apply below_alloc|apply pw_below_drewN|apply below_drew1)|exact HB.out)) hb);clear HO3;clear HB;have HO3 := n0_;have HB := n1_;clear n0_ n1_;(try clear hb);(try clear hb2);(try clear hk);(try clear hi);obtain ⟨Ao22, co22, eo22⟩ := Kd.R_slice HO3.out;subst eo22)|(go_at_call 68;(with_reducible refine (tree_Right.calls k _ _ y1 true _ ?side1 ?side2 A3.out).mono ?_);(case side1 => repeat (first|exact (Kd.R_reads' HO3.out).2.2|(with_reducible refine Kd.C_alloc ?_ _)|(with_reducible refine Kd.C_drewN ?_ _)|(with_reducible refine Kd.C_drew ?_)));(case side2 => exact (Kd.R_reads' HO3.out).2.1);rintro e w23 ⟨rfl, hb⟩;have n0_ := Aside0.mk (Kd.R_below (by (with_reducible repeat (first|apply Kd.R_alloc|apply Kd.R_drewN|apply Kd.R_drew));exact HO3.out) hb);have n1_ := Aside0.mk (below_step (by repeat (first|(with_reducible first|exact HB.out|apply below_alloc|apply pw_below_drewN|apply below_drew1)|exact HB.out)) hb);clear HO3;clear HB;have HO3 := n0_;have HB := n1_;clear n0_ n1_;(try clear hb);(try clear hb2);(try clear hk);(try clear hi))|(go_at_call 71;(with_reducible refine (tree_Find.calls _ _ y1 (⟨#[97]⟩ : ByteArray) t6 _ ?side1 ?side2 A5.out).mono ?_);(case side1 => repeat (first|exact (Kd.R_reads' HO3.out).2.2|(with_reducible refine Kd.C_alloc ?_ _)|(with_reducible refine Kd.C_drewN ?_ _)|(with_reducible refine Kd.C_drew ?_)));(case side2 => exact (Kd.R_reads' HO3.out).2.1);rintro e w24 ⟨rfl, hb⟩;have n0_ := Aside0.mk (Kd.R_below (by (with_reducible repeat (first|apply Kd.R_alloc|apply Kd.R_drewN|apply Kd.R_drew));exact HO3.out) hb);have n1_ := Aside0.mk (below_step (by repeat (first|(with_reducible first|exact HB.out|apply below_alloc|apply pw_below_drewN|apply below_drew1)|exact HB.out)) hb);clear HO3;clear HB;have HO3 := n0_;have HB := n1_;clear n0_ n1_;(try clear hb);(try clear hb2);(try clear hk);(try clear hi))|(go_at_call 72;(with_reducible refine (tree_Depth.calls k _ _ y1 (⟨#[97]⟩ : ByteArray) t7 _ ?side1 ?side2 A7.out).mono ?_);(case side1 => repeat (first|exact (Kd.R_reads' HO3.out).2.2|(with_reducible refine Kd.C_alloc ?_ _)|(with_reducible refine Kd.C_drewN ?_ _)|(with_reducible refine Kd.C_drew ?_)));(case side2 => exact (Kd.R_reads' HO3.out).2.1);rintro e w25 ⟨rfl, hb⟩;have n0_ := Aside0.mk (Kd.R_below (by (with_reducible repeat (first|apply Kd.R_alloc|apply Kd.R_drewN|apply Kd.R_drew));exact HO3.out) hb);have n1_ := Aside0.mk (below_step (by repeat (first|(with_reducible first|exact HB.out|apply below_alloc|apply pw_below_drewN|apply below_drew1)|exact HB.out)) hb);clear HO3;clear HB;have HO3 := n0_;have HB := n1_;clear n0_ n1_;(try clear hb);(try clear hb2);(try clear hk);(try clear hi)))
     go_ret
     exact ⟨by first|rfl|(simp [errW_none, errW_some] <;> rfl)|(simp [*, errW_none, errW_some] <;> rfl), by repeat (first|(with_reducible first|exact HB.out|apply below_alloc|apply pw_below_drewN|apply below_drew1)|exact HB.out)⟩
   ·rw [if_neg c6] at H
    have c6b0 : (t6 == 0) = false := beq_eq_false_iff_ne.mpr c6
    have c6b1 : (t6 != 0) = true := bne_iff_ne.mpr c6
    obtain rfl := Option.some.inj H
    go_enter Try.func67, Try.ntmps67
    go_wp2_with (first|((with_reducible refine gate_dst (N := 3) rfl ?_);(try (refine gate_guard (by rfl) ?_;dsimp only));refine Kd.R_lit k31 _ 31 ?hg (N := 3) ?hd (xs := ([(⟨(⟨#[97]⟩ : ByteArray), (⟨#[]⟩ : ByteArray), (⟨0, 0, 0⟩ : S27), (⟨0, 0, 0⟩ : S27), (⟨0, 0, 0⟩ : S27), 1⟩ : S31)] : List (S31))) (inner := [.string (⟨#[97]⟩ : ByteArray), .string (⟨#[]⟩ : ByteArray), .int .i64 0, .int .i64 0, .int .i64 0, .int .i64 0, .int .i64 0, .int .i64 0, .int .i64 0, .int .i64 0, .int .i64 0, .int .i64 1]) (ok := fun _ => True) (okp := fun _ => True) ?hr ?hp (fun _ hk => hk) trivial (Below.refl _ _) (Nat.le_refl _) (by simp) ?_;(case hd => rfl);(case hg => rfl);(case hr => first|(go_simp;done)|(go_simp;rfl));(case hp => exact (Reps.front (show Kd.M k31 _ _ _ (⟨(⟨#[97]⟩ : ByteArray), (⟨#[]⟩ : ByteArray), (⟨0, 0, 0⟩ : S27), (⟨0, 0, 0⟩ : S27), (⟨0, 0, 0⟩ : S27), 1⟩ : S31) [.string (⟨#[97]⟩ : ByteArray), .string (⟨#[]⟩ : ByteArray), .int .i64 0, .int .i64 0, .int .i64 0, .int .i64 0, .int .i64 0, .int .i64 0, .int .i64 0, .int .i64 0, .int .i64 0, .int .i64 1] from (k31_mkM _ _ _ (⟨(⟨#[97]⟩ : ByteArray), (⟨#[]⟩ : ByteArray), (⟨0, 0, 0⟩ : S27), (⟨0, 0, 0⟩ : S27), (⟨0, 0, 0⟩ : S27), 1⟩ : S31) )) rfl (Reps.none _ _) rfl));intro v2 w26 ho27 hb hg_ hnew_;clear hg_ hnew_;(first|rw [← Ny1.out] at ho27|(simp only [Int.reduceToNat] at ho27;rw [← Ny1.out] at ho27));have n0_ := Aside0.mk (Kd.R_lower ho27 (below_size (by repeat (first|(with_reducible first|exact HB.out|apply below_alloc|apply pw_below_drewN|apply below_drew1)|exact HB.out))));have n1_ := Aside0.mk (below_step (by repeat (first|(with_reducible first|exact HB.out|apply below_alloc|apply pw_below_drewN|apply below_drew1)|exact HB.out)) hb);clear HB;have HO3 := n0_;have HB := n1_;clear n0_ n1_;clear hb ho27)|((with_reducible refine gate_callee (f := 68) rfl ?_);refine goesL_ (some 4) rfl rfl Try.func68 (by kernel_rfl) rfl #[.slice none 0 0] rfl (by (try simp only [List.map_toArray, List.map_cons, List.map_nil]);first|done|rfl|(simp only [List.length_drop, List.length_take];rfl)) ?_;(refine (tree_Right.calls k _ _ ([] : List (S31)) true _ ?side1 ?side2 A1.out).mono ?_);(case side1 => exact Kd.C_nil _ _);(case side2 => exact Nat.le_refl _);rintro e w28 ⟨rfl, hb⟩;refine ⟨_, rfl, ?_⟩;have n0_ := Aside0.mk (Kd.R_below (by (with_reducible repeat (first|apply Kd.R_alloc|apply Kd.R_drewN|apply Kd.R_drew));exact HO3.out) hb);have n1_ := Aside0.mk (below_step (by repeat (first|(with_reducible first|exact HB.out|apply below_alloc|apply pw_below_drewN|apply below_drew1)|exact HB.out)) hb);clear HO3;clear HB;have HO3 := n0_;have HB := n1_;clear n0_ n1_;(try clear hb);(try clear hb2);(try clear hk);(try clear hi);obtain ⟨Ao29, co29, eo29⟩ := Kd.R_slice HO3.out;subst eo29)|(go_at_call 68;(with_reducible refine (tree_Right.calls k _ _ y1 true _ ?side1 ?side2 A3.out).mono ?_);(case side1 => repeat (first|exact (Kd.R_reads' HO3.out).2.2|(with_reducible refine Kd.C_alloc ?_ _)|(with_reducible refine Kd.C_drewN ?_ _)|(with_reducible refine Kd.C_drew ?_)));(case side2 => exact (Kd.R_reads' HO3.out).2.1);rintro e w30 ⟨rfl, hb⟩;have n0_ := Aside0.mk (Kd.R_below (by (with_reducible repeat (first|apply Kd.R_alloc|apply Kd.R_drewN|apply Kd.R_drew));exact HO3.out) hb);have n1_ := Aside0.mk (below_step (by repeat (first|(with_reducible first|exact HB.out|apply below_alloc|apply pw_below_drewN|apply below_drew1)|exact HB.out)) hb);clear HO3;clear HB;have HO3 := n0_;have HB := n1_;clear n0_ n1_;(try clear hb);(try clear hb2);(try clear hk);(try clear hi))|(go_at_call 71;(with_reducible refine (tree_Find.calls _ _ y1 (⟨#[97]⟩ : ByteArray) t6 _ ?side1 ?side2 A5.out).mono ?_);(case side1 => repeat (first|exact (Kd.R_reads' HO3.out).2.2|(with_reducible refine Kd.C_alloc ?_ _)|(with_reducible refine Kd.C_drewN ?_ _)|(with_reducible refine Kd.C_drew ?_)));(case side2 => exact (Kd.R_reads' HO3.out).2.1);rintro e w31 ⟨rfl, hb⟩;have n0_ := Aside0.mk (Kd.R_below (by (with_reducible repeat (first|apply Kd.R_alloc|apply Kd.R_drewN|apply Kd.R_drew));exact HO3.out) hb);have n1_ := Aside0.mk (below_step (by repeat (first|(with_reducible first|exact HB.out|apply below_alloc|apply pw_below_drewN|apply below_drew1)|exact HB.out)) hb);clear HO3;clear HB;have HO3 := n0_;have HB := n1_;clear n0_ n1_;(try clear hb);(try clear hb2);(try clear hk);(try clear hi)))
    go_ret
    exact ⟨by first|rfl|(simp [errW_none, errW_some] <;> rfl)|(simp [*, errW_none, errW_some] <;> rfl), by repeat (first|(with_reducible first|exact HB.out|apply below_alloc|apply pw_below_drewN|apply below_drew1)|exact HB.out)⟩
  ·replace c4 := Bool.eq_false_iff.mpr c4
   subst c4
   have H1 : (some false) = some r := by rw [if_neg (show ¬ (false = true) by decide)] at H; exact H
   clear H
   have H := H1
   clear H1
   obtain rfl := Option.some.inj H
   go_enter Try.func67, Try.ntmps67
   go_wp2_with (first|((with_reducible refine gate_dst (N := 3) rfl ?_);(try (refine gate_guard (by rfl) ?_;dsimp only));refine Kd.R_lit k31 _ 31 ?hg (N := 3) ?hd (xs := ([(⟨(⟨#[97]⟩ : ByteArray), (⟨#[]⟩ : ByteArray), (⟨0, 0, 0⟩ : S27), (⟨0, 0, 0⟩ : S27), (⟨0, 0, 0⟩ : S27), 1⟩ : S31)] : List (S31))) (inner := [.string (⟨#[97]⟩ : ByteArray), .string (⟨#[]⟩ : ByteArray), .int .i64 0, .int .i64 0, .int .i64 0, .int .i64 0, .int .i64 0, .int .i64 0, .int .i64 0, .int .i64 0, .int .i64 0, .int .i64 1]) (ok := fun _ => True) (okp := fun _ => True) ?hr ?hp (fun _ hk => hk) trivial (Below.refl _ _) (Nat.le_refl _) (by simp) ?_;(case hd => rfl);(case hg => rfl);(case hr => first|(go_simp;done)|(go_simp;rfl));(case hp => exact (Reps.front (show Kd.M k31 _ _ _ (⟨(⟨#[97]⟩ : ByteArray), (⟨#[]⟩ : ByteArray), (⟨0, 0, 0⟩ : S27), (⟨0, 0, 0⟩ : S27), (⟨0, 0, 0⟩ : S27), 1⟩ : S31) [.string (⟨#[97]⟩ : ByteArray), .string (⟨#[]⟩ : ByteArray), .int .i64 0, .int .i64 0, .int .i64 0, .int .i64 0, .int .i64 0, .int .i64 0, .int .i64 0, .int .i64 0, .int .i64 0, .int .i64 1] from (k31_mkM _ _ _ (⟨(⟨#[97]⟩ : ByteArray), (⟨#[]⟩ : ByteArray), (⟨0, 0, 0⟩ : S27), (⟨0, 0, 0⟩ : S27), (⟨0, 0, 0⟩ : S27), 1⟩ : S31) )) rfl (Reps.none _ _) rfl));intro v2 w32 ho33 hb hg_ hnew_;clear hg_ hnew_;(first|rw [← Ny1.out] at ho33|(simp only [Int.reduceToNat] at ho33;rw [← Ny1.out] at ho33));have n0_ := Aside0.mk (Kd.R_lower ho33 (below_size (by repeat (first|(with_reducible first|exact HB.out|apply below_alloc|apply pw_below_drewN|apply below_drew1)|exact HB.out))));have n1_ := Aside0.mk (below_step (by repeat (first|(with_reducible first|exact HB.out|apply below_alloc|apply pw_below_drewN|apply below_drew1)|exact HB.out)) hb);clear HB;have HO3 := n0_;have HB := n1_;clear n0_ n1_;clear hb ho33)|((with_reducible refine gate_callee (f := 68) rfl ?_);refine goesL_ (some 4) rfl rfl Try.func68 (by kernel_rfl) rfl #[.slice none 0 0] rfl (by (try simp only [List.map_toArray, List.map_cons, List.map_nil]);first|done|rfl|(simp only [List.length_drop, List.length_take];rfl)) ?_;(refine (tree_Right.calls k _ _ ([] : List (S31)) true _ ?side1 ?side2 A1.out).mono ?_);(case side1 => exact Kd.C_nil _ _);(case side2 => exact Nat.le_refl _);rintro e w34 ⟨rfl, hb⟩;refine ⟨_, rfl, ?_⟩;have n0_ := Aside0.mk (Kd.R_below (by (with_reducible repeat (first|apply Kd.R_alloc|apply Kd.R_drewN|apply Kd.R_drew));exact HO3.out) hb);have n1_ := Aside0.mk (below_step (by repeat (first|(with_reducible first|exact HB.out|apply below_alloc|apply pw_below_drewN|apply below_drew1)|exact HB.out)) hb);clear HO3;clear HB;have HO3 := n0_;have HB := n1_;clear n0_ n1_;(try clear hb);(try clear hb2);(try clear hk);(try clear hi);obtain ⟨Ao35, co35, eo35⟩ := Kd.R_slice HO3.out;subst eo35)|(go_at_call 68;(with_reducible refine (tree_Right.calls k _ _ y1 false _ ?side1 ?side2 A3.out).mono ?_);(case side1 => repeat (first|exact (Kd.R_reads' HO3.out).2.2|(with_reducible refine Kd.C_alloc ?_ _)|(with_reducible refine Kd.C_drewN ?_ _)|(with_reducible refine Kd.C_drew ?_)));(case side2 => exact (Kd.R_reads' HO3.out).2.1);rintro e w36 ⟨rfl, hb⟩;have n0_ := Aside0.mk (Kd.R_below (by (with_reducible repeat (first|apply Kd.R_alloc|apply Kd.R_drewN|apply Kd.R_drew));exact HO3.out) hb);have n1_ := Aside0.mk (below_step (by repeat (first|(with_reducible first|exact HB.out|apply below_alloc|apply pw_below_drewN|apply below_drew1)|exact HB.out)) hb);clear HO3;clear HB;have HO3 := n0_;have HB := n1_;clear n0_ n1_;(try clear hb);(try clear hb2);(try clear hk);(try clear hi)))
   go_ret
   exact ⟨by first|rfl|(simp [errW_none, errW_some] <;> rfl)|(simp [*, errW_none, errW_some] <;> rfl), by repeat (first|(with_reducible first|exact HB.out|apply below_alloc|apply pw_below_drewN|apply below_drew1)|exact HB.out)⟩
 ·replace c2 := Bool.eq_false_iff.mpr c2
  subst c2
  have H1 : (some false) = some r := by rw [if_neg (show ¬ (false = true) by decide)] at H; exact H
  clear H
  have H := H1
  clear H1
  obtain rfl := Option.some.inj H
  go_enter Try.func67, Try.ntmps67
  go_wp2_with (first|((with_reducible refine gate_dst (N := 3) rfl ?_);(try (refine gate_guard (by rfl) ?_;dsimp only));refine Kd.R_lit k31 _ 31 ?hg (N := 3) ?hd (xs := ([(⟨(⟨#[97]⟩ : ByteArray), (⟨#[]⟩ : ByteArray), (⟨0, 0, 0⟩ : S27), (⟨0, 0, 0⟩ : S27), (⟨0, 0, 0⟩ : S27), 1⟩ : S31)] : List (S31))) (inner := [.string (⟨#[97]⟩ : ByteArray), .string (⟨#[]⟩ : ByteArray), .int .i64 0, .int .i64 0, .int .i64 0, .int .i64 0, .int .i64 0, .int .i64 0, .int .i64 0, .int .i64 0, .int .i64 0, .int .i64 1]) (ok := fun _ => True) (okp := fun _ => True) ?hr ?hp (fun _ hk => hk) trivial (Below.refl _ _) (Nat.le_refl _) (by simp) ?_;(case hd => rfl);(case hg => rfl);(case hr => first|(go_simp;done)|(go_simp;rfl));(case hp => exact (Reps.front (show Kd.M k31 _ _ _ (⟨(⟨#[97]⟩ : ByteArray), (⟨#[]⟩ : ByteArray), (⟨0, 0, 0⟩ : S27), (⟨0, 0, 0⟩ : S27), (⟨0, 0, 0⟩ : S27), 1⟩ : S31) [.string (⟨#[97]⟩ : ByteArray), .string (⟨#[]⟩ : ByteArray), .int .i64 0, .int .i64 0, .int .i64 0, .int .i64 0, .int .i64 0, .int .i64 0, .int .i64 0, .int .i64 0, .int .i64 0, .int .i64 1] from (k31_mkM _ _ _ (⟨(⟨#[97]⟩ : ByteArray), (⟨#[]⟩ : ByteArray), (⟨0, 0, 0⟩ : S27), (⟨0, 0, 0⟩ : S27), (⟨0, 0, 0⟩ : S27), 1⟩ : S31) )) rfl (Reps.none _ _) rfl));intro v2 w37 ho38 hb hg_ hnew_;clear hg_ hnew_;(first|rw [← Ny1.out] at ho38|(simp only [Int.reduceToNat] at ho38;rw [← Ny1.out] at ho38));have n0_ := Aside0.mk (Kd.R_lower ho38 (below_size (by repeat (first|(with_reducible first|exact HB.out|apply below_alloc|apply pw_below_drewN|apply below_drew1)|exact HB.out))));have n1_ := Aside0.mk (below_step (by repeat (first|(with_reducible first|exact HB.out|apply below_alloc|apply pw_below_drewN|apply below_drew1)|exact HB.out)) hb);clear HB;have HO3 := n0_;have HB := n1_;clear n0_ n1_;clear hb ho38)|((with_reducible refine gate_callee (f := 68) rfl ?_);refine goesL_ (some 4) rfl rfl Try.func68 (by kernel_rfl) rfl #[.slice none 0 0] rfl (by (try simp only [List.map_toArray, List.map_cons, List.map_nil]);first|done|rfl|(simp only [List.length_drop, List.length_take];rfl)) ?_;(refine (tree_Right.calls k _ _ ([] : List (S31)) false _ ?side1 ?side2 A1.out).mono ?_);(case side1 => exact Kd.C_nil _ _);(case side2 => exact Nat.le_refl _);rintro e w39 ⟨rfl, hb⟩;refine ⟨_, rfl, ?_⟩;have n0_ := Aside0.mk (Kd.R_below (by (with_reducible repeat (first|apply Kd.R_alloc|apply Kd.R_drewN|apply Kd.R_drew));exact HO3.out) hb);have n1_ := Aside0.mk (below_step (by repeat (first|(with_reducible first|exact HB.out|apply below_alloc|apply pw_below_drewN|apply below_drew1)|exact HB.out)) hb);clear HO3;clear HB;have HO3 := n0_;have HB := n1_;clear n0_ n1_;(try clear hb);(try clear hb2);(try clear hk);(try clear hi)))
  go_ret
  exact ⟨by first|rfl|(simp [errW_none, errW_some] <;> rfl)|(simp [*, errW_none, errW_some] <;> rfl), by repeat (first|(with_reducible first|exact HB.out|apply below_alloc|apply pw_below_drewN|apply below_drew1)|exact HB.out)⟩
end Go.Proofs.Ytcgefpklljclgaa.Print

namespace Go.Proofs.Ytcgefpklljclgaa.Print
open Go.RowKit Go.Proofs.YtcgefpklljclgaaW.PrintWords Go.Proofs.YtcgefpklljclgaaW.PrintLast Go.Proofs.YtcgefpklljclgaaW.PrintMore
attribute [local go_sem] max2_int min2_int max_two min_two max_three min_three max_four min_four   -- for this text's walks alone
set_option linter.unusedVariables false
set_option linter.unusedSimpArgs false
/-! ### r10_Below: function 75 -/
def r10_Below.l0 : Nat → List (S31) → ByteArray → List ByteArray → Int → Option (List ByteArray)
 | 0, _, _, _, _ => none
 | k + 1, x0, x1, x5, x6 => if x6 < (x0.length : Int) then (if 0 ≤ x6 then (if ((rd_T31 x0 x6).f1).toList = x1.toList then (if x5.length < 8796093022208 then (r10_Below.l0 k x0 x1 (x5 ++ [(rd_T31 x0 x6).f0]) (wrap64 (x6 + 1))) else (none)) else (r10_Below.l0 k x0 x1 x5 (wrap64 (x6 + 1)))) else (none)) else (some x5)
def r10_Below.f (k : Nat) (l0 : List (S31)) (a1 : ByteArray) : Option (List ByteArray) := r10_Below.l0 k l0 a1 ([] : List ByteArray) 0
theorem r10_Below.mono_l : ∀ k, (∀ y0 y1 y2 y3, LeO (r10_Below.l0 k y0 y1 y2 y3) (r10_Below.l0 (k + 1) y0 y1 y2 y3))
 | 0 => fun _ _ _ _ r h => by simp [r10_Below.l0] at h
 | k + 1 => by
  have ih0 := r10_Below.mono_l k
  ·intro y0 y1 y2 y3
   unfold r10_Below.l0
   repeat' first
   | (with_reducible exact ih0 _ _ _ _)
   | (with_reducible exact LeO.refl _)
   | (with_reducible exact LeO.none _)
   | (with_reducible refine LeO.ite ?_ ?_)
   | (with_reducible refine LeO.bind ?_ (fun _ => ?_))
   | exact ih0 _ _ _ _
   | exact LeO.none _
   | refine LeO.ite ?_ ?_
   | refine LeO.bind ?_ (fun _ => ?_)
theorem r10_Below.mono : ∀ a0 a1 k, LeO (r10_Below.f k a0 a1) (r10_Below.f (k + 1) a0 a1) := by
 intro a0 a1 k
 have ih0 := r10_Below.mono_l k
 unfold r10_Below.f
 repeat' first
   | (with_reducible exact ih0 _ _ _ _)
   | (with_reducible exact LeO.refl _)
   | (with_reducible exact LeO.none _)
   | (with_reducible refine LeO.ite ?_ ?_)
   | (with_reducible refine LeO.bind ?_ (fun _ => ?_))
   | exact ih0 _ _ _ _
   | exact LeO.none _
   | refine LeO.ite ?_ ?_
   | refine LeO.bind ?_ (fun _ => ?_)
set_option maxHeartbeats 8000000 in
set_option maxRecDepth 100000 in
theorem r10_Below.calls (k : Nat) (A0 : Option Addr) (c0 : Nat) (l0 : List (S31)) (a1 : ByteArray) (r : List ByteArray) (w : World) (hr0 : Kd.C k31 w A0 l0.length l0) (hc0 : l0.length ≤ c0) (h : r10_Below.f k l0 a1 = some r) :
  Calls Try.prog 75 #[.slice A0 l0.length c0, .string a1] w fun e w' => ∃ v0_ : Value, e = .returned (v0_) ∧ Kd.R Kd.string 9 w' w.heap.size (fun _ => True) v0_ r ∧ Below w.heap.size w w' := by
 have HR0 := Aside0.mk hr0
 have HC0 := Aside0.mk hc0
 clear hr0 hc0
 have HB := Aside0.mk (Below.refl w.heap.size w)
 have H : (r10_Below.l0 k l0 a1 ([] : List ByteArray) 0) = some r := h
 clear h
 have H' := Aside0.mk H
 clear H
 go_enter Try.func75, Try.ntmps75
 go_wp2
 go_loopg [5, 6] k (fun kq v5 v6 w' => ∃ (x5_1 : List ByteArray) (x6_1 : Int), v6 = .int .i64 x6_1 ∧ Aside0 (r10_Below.l0 kq l0 a1 x5_1 x6_1 = some r) ∧ Aside0 (kq ≤ k) ∧ Aside0 (Kd.R Kd.string 9 w' w.heap.size (fun _ => True) v5 x5_1) ∧ Aside0 (Below w.heap.size w w'))
 case atStart => exact ⟨(([] : List ByteArray)), (0), (by first|rfl|(simp;done)|(simp [*];done)), H', ⟨Nat.le_refl _⟩, ⟨by first|exact Kd.R_nil _ _ _ _ _|exact Kd.N_nil _ _ _ _ _|exact Kd.V_nil _ _ _ _ _|exact Kd.Q_nil _ _ _ _ _|exact Kd.S_nil _ _ _ _ _⟩, ⟨by repeat (first|(with_reducible first|exact HB.out|apply below_alloc|apply pw_below_drewN|apply below_drew1)|exact HB.out)⟩⟩
 case round =>
  clear H'
  try clear p2
  obtain ⟨x5_1, x6_1, rfl, HA, HK1, HO_5, HB⟩ := hrel
  cases gk with
  | zero => exact absurd HA.out (by simp [r10_Below.l0])
  | succ k1 =>
   have H := HA.out
   clear HA
   simp only [r10_Below.l0] at H
   by_cases c3 : x6_1 < (l0.length : Int)
   ·rw [if_pos c3] at H
    have c3b0 : decide (x6_1 < (l0.length : Int)) = true := decide_eq_true c3
    clear c3
    by_cases c4 : 0 ≤ x6_1
    ·rw [if_pos c4] at H
     have c4b0 : decide (0 ≤ x6_1) = true := decide_eq_true c4
     clear c4
     by_cases c5 : ((rd_T31 l0 x6_1).f1).toList = a1.toList
     ·rw [if_pos c5] at H
      have c5b0 : (((rd_T31 l0 x6_1).f1).toList == a1.toList) = true := beq_iff_eq.mpr c5
      have c5b1 : (((rd_T31 l0 x6_1).f1).toList != a1.toList) = false := bne_eq_false_iff_eq.mpr c5
      clear c5
      by_cases c6 : x5_1.length < 8796093022208
      ·rw [if_pos c6] at H
       have LMc6 := Aside0.mk c6
       clear c6
       obtain ⟨y3, hy3⟩ : ∃ y_ : List ByteArray, y_ = (x5_1 ++ [(rd_T31 l0 x6_1).f0]) := ⟨_, rfl⟩
       replace H : (r10_Below.l0 k1 l0 a1 y3 (wrap64 (x6_1 + 1))) = some r := by first|(rw [hy3];with_reducible exact H)|(have H2_ := (Option.bind_some _ _).symm.trans H;rw [hy3];with_reducible exact H2_)|(have H2_ := (Option.bind_some _ _).symm.trans H;with_reducible exact H2_)|with_reducible exact H|(rw [hy3];exact H)|exact H
       have Ny3 := Aside0.mk hy3
       clear hy3
       have H' := Aside0.mk H
       clear H
       have p1 : 0 ≤ (x6_1 : Int) := of_decide_eq_true (by first|(with_reducible assumption)|assumption)
       have q1 : x6_1 < (l0.length : Int) := of_decide_eq_true (by first|(with_reducible assumption)|assumption)
       obtain ⟨ad1, e1, hx1_0, hx1_1, hx1_2, hx1_3, hx1_4, hx1_5, hx1_6, hx1_7, hx1_8, hx1_9, hx1_10, hx1_11⟩ := at_T31 HR0.out x6_1 p1 q1
       cases e1
       replace hx1_0 := (HB.out.cell (World.block_lt_of_cell? w _ hx1_0)).trans hx1_0
       replace hx1_1 := (HB.out.cell (World.block_lt_of_cell? w _ hx1_1)).trans hx1_1
       replace hx1_2 := (HB.out.cell (World.block_lt_of_cell? w _ hx1_2)).trans hx1_2
       replace hx1_3 := (HB.out.cell (World.block_lt_of_cell? w _ hx1_3)).trans hx1_3
       replace hx1_4 := (HB.out.cell (World.block_lt_of_cell? w _ hx1_4)).trans hx1_4
       replace hx1_5 := (HB.out.cell (World.block_lt_of_cell? w _ hx1_5)).trans hx1_5
       replace hx1_6 := (HB.out.cell (World.block_lt_of_cell? w _ hx1_6)).trans hx1_6
       replace hx1_7 := (HB.out.cell (World.block_lt_of_cell? w _ hx1_7)).trans hx1_7
       replace hx1_8 := (HB.out.cell (World.block_lt_of_cell? w _ hx1_8)).trans hx1_8
       replace hx1_9 := (HB.out.cell (World.block_lt_of_cell? w _ hx1_9)).trans hx1_9
       replace hx1_10 := (HB.out.cell (World.block_lt_of_cell? w _ hx1_10)).trans hx1_10
       replace hx1_11 := (HB.out.cell (World.block_lt_of_cell? w _ hx1_11)).trans hx1_11
       replace p1 := eq_true p1
       replace q1 := eq_true q1
       have p2 : 0 ≤ (x6_1 : Int) := of_decide_eq_true (by first|(with_reducible assumption)|assumption)
       have q2 : x6_1 < (l0.length : Int) := of_decide_eq_true (by first|(with_reducible assumption)|assumption)
       obtain ⟨ad2, e2, hx2_0, hx2_1, hx2_2, hx2_3, hx2_4, hx2_5, hx2_6, hx2_7, hx2_8, hx2_9, hx2_10, hx2_11⟩ := at_T31 HR0.out x6_1 p2 q2
       obtain rfl : ad1 = ad2 := (by injection e2)
       replace hx2_0 := (HB.out.cell (World.block_lt_of_cell? w _ hx2_0)).trans hx2_0
       replace hx2_1 := (HB.out.cell (World.block_lt_of_cell? w _ hx2_1)).trans hx2_1
       replace hx2_2 := (HB.out.cell (World.block_lt_of_cell? w _ hx2_2)).trans hx2_2
       replace hx2_3 := (HB.out.cell (World.block_lt_of_cell? w _ hx2_3)).trans hx2_3
       replace hx2_4 := (HB.out.cell (World.block_lt_of_cell? w _ hx2_4)).trans hx2_4
       replace hx2_5 := (HB.out.cell (World.block_lt_of_cell? w _ hx2_5)).trans hx2_5
       replace hx2_6 := (HB.out.cell (World.block_lt_of_cell? w _ hx2_6)).trans hx2_6
       replace hx2_7 := (HB.out.cell (World.block_lt_of_cell? w _ hx2_7)).trans hx2_7
       replace hx2_8 := (HB.out.cell (World.block_lt_of_cell? w _ hx2_8)).trans hx2_8
       replace hx2_9 := (HB.out.cell (World.block_lt_of_cell? w _ hx2_9)).trans hx2_9
       replace hx2_10 := (HB.out.cell (World.block_lt_of_cell? w _ hx2_10)).trans hx2_10
       replace hx2_11 := (HB.out.cell (World.block_lt_of_cell? w _ hx2_11)).trans hx2_11
       replace p2 := eq_true p2
       replace q2 := eq_true q2
       go_wp2_with (first|((with_reducible refine gate_builtin (b := .append) (xs := #[.tmp 20, .tmp 26]) rfl ?_);at_builtin;refine Kd.R_append Kd.string (w0 := w) w.heap.size rfl (.tmp 20) (.tmp 26) 74 9 (.string ⟨#[]⟩) 16 rfl Try.underlying74 info9 rfl (by decide) (by omega) u5 x5_1 ((rd_T31 l0 x6_1).f0) [.string ((rd_T31 l0 x6_1).f0)] (fun _ => True) (fun _ => False) rfl rfl ?aP (fun _ hk => hk.elim) ?aF ?aO ?aB ?aS ?aL ?_;(case aP => exact rfl);(case aB => exact (by repeat (first|(with_reducible first|exact HB.out|apply below_alloc|apply pw_below_drewN|apply below_drew1)|exact HB.out)));(case aF => exact (fun _ _ => trivial));(case aO => exact (by (with_reducible repeat (first|apply Kd.R_alloc|apply Kd.R_drewN|apply Kd.R_drew));exact HO_5.out));(case aS => exact (below_size (by repeat (first|(with_reducible first|exact HB.out|apply below_alloc|apply pw_below_drewN|apply below_drew1)|exact HB.out))));(case aL => have := LMc6.out;omega);intro v4 w7 ho hb hg hat;rw [← Ny3.out] at ho;have n0_ := Aside0.mk (hb);have n1_ := Aside0.mk (ho);clear HB;clear HO_5;have HB := n0_;have HO5 := n1_;clear n0_ n1_;clear ho hb hg hat))
       go_roundg k1
       case measure => have := HK1.out; omega
       case rel => exact ⟨(y3), (wrap64 (x6_1 + 1)), (by first|rfl|(simp;done)|(simp [*];done)), H', ⟨by have := HK1.out;omega⟩, ⟨by (with_reducible repeat (first|apply Kd.R_alloc|apply Kd.R_drewN|apply Kd.R_drew));exact HO5.out⟩, ⟨by repeat (first|(with_reducible first|exact HB.out|apply below_alloc|apply pw_below_drewN|apply below_drew1)|exact HB.out)⟩⟩
      ·rw [if_neg c6] at H
       exact absurd H (by simp)
     ·rw [if_neg c5] at H
      have c5b0 : (((rd_T31 l0 x6_1).f1).toList == a1.toList) = false := beq_eq_false_iff_ne.mpr c5
      have c5b1 : (((rd_T31 l0 x6_1).f1).toList != a1.toList) = true := bne_iff_ne.mpr c5
      have H' := Aside0.mk H
      clear H
      have p1 : 0 ≤ (x6_1 : Int) := of_decide_eq_true (by first|(with_reducible assumption)|assumption)
      have q1 : x6_1 < (l0.length : Int) := of_decide_eq_true (by first|(with_reducible assumption)|assumption)
      obtain ⟨ad1, e1, hx1_0, hx1_1, hx1_2, hx1_3, hx1_4, hx1_5, hx1_6, hx1_7, hx1_8, hx1_9, hx1_10, hx1_11⟩ := at_T31 HR0.out x6_1 p1 q1
      cases e1
      replace hx1_0 := (HB.out.cell (World.block_lt_of_cell? w _ hx1_0)).trans hx1_0
      replace hx1_1 := (HB.out.cell (World.block_lt_of_cell? w _ hx1_1)).trans hx1_1
      replace hx1_2 := (HB.out.cell (World.block_lt_of_cell? w _ hx1_2)).trans hx1_2
      replace hx1_3 := (HB.out.cell (World.block_lt_of_cell? w _ hx1_3)).trans hx1_3
      replace hx1_4 := (HB.out.cell (World.block_lt_of_cell? w _ hx1_4)).trans hx1_4
      replace hx1_5 := (HB.out.cell (World.block_lt_of_cell? w _ hx1_5)).trans hx1_5
      replace hx1_6 := (HB.out.cell (World.block_lt_of_cell? w _ hx1_6)).trans hx1_6
      replace hx1_7 := (HB.out.cell (World.block_lt_of_cell? w _ hx1_7)).trans hx1_7
      replace hx1_8 := (HB.out.cell (World.block_lt_of_cell? w _ hx1_8)).trans hx1_8
      replace hx1_9 := (HB.out.cell (World.block_lt_of_cell? w _ hx1_9)).trans hx1_9
      replace hx1_10 := (HB.out.cell (World.block_lt_of_cell? w _ hx1_10)).trans hx1_10
      replace hx1_11 := (HB.out.cell (World.block_lt_of_cell? w _ hx1_11)).trans hx1_11
      replace p1 := eq_true p1
      replace q1 := eq_true q1
      go_wp2
      go_roundg k1
      case measure => have := HK1.out; omega
      case rel => exact ⟨(x5_1), (wrap64 (x6_1 + 1)), (by first|rfl|(simp;done)|(simp [*];done)), H', ⟨by have := HK1.out;omega⟩, ⟨by (with_reducible repeat (first|apply Kd.R_alloc|apply Kd.R_drewN|apply Kd.R_drew));exact HO_5.out⟩, ⟨by repeat (first|(with_reducible first|exact HB.out|apply below_alloc|apply pw_below_drewN|apply below_drew1)|exact HB.out)⟩⟩
    ·rw [if_neg c4] at H
     exact absurd H (by simp)
   ·rw [if_neg c3] at H
    have c3b0 : decide (x6_1 < (l0.length : Int)) = false := decide_eq_false c3
    clear c3
    obtain rfl := Option.some.inj H
    go_wp2
    go_ret
    exact ⟨_, by first|rfl|(simp [errW_none, errW_some] <;> rfl)|(simp [*, errW_none, errW_some] <;> rfl), by (with_reducible repeat (first|apply Kd.R_alloc|apply Kd.R_drewN|apply Kd.R_drew));exact HO_5.out, by repeat (first|(with_reducible first|exact HB.out|apply below_alloc|apply pw_below_drewN|apply below_drew1)|exact HB.out)⟩
end Go.Proofs.Ytcgefpklljclgaa.Print

namespace Go.Proofs.Ytcgefpklljclgaa.Print
open Go.RowKit Go.Proofs.YtcgefpklljclgaaW.PrintWords Go.Proofs.YtcgefpklljclgaaW.PrintLast Go.Proofs.YtcgefpklljclgaaW.PrintMore
attribute [local go_sem] max2_int min2_int max_two min_two max_three min_three max_four min_four   -- for this text's walks alone
set_option linter.unusedVariables false
set_option linter.unusedSimpArgs false
/-! ### r1_Texts: function 79 -/
def r1_Texts.l0 : Nat → List ByteArray → List ByteArray → Int → Option (Bool)
 | 0, _, _, _ => none
 | k + 1, x0, x1, x5 => if x5 < (x0.length : Int) then (if 0 ≤ x5 then (if x5 < (x1.length : Int) then (if (rdOf ByteArray.empty x0 x5).toList = (rdOf ByteArray.empty x1 x5).toList then (r1_Texts.l0 k x0 x1 (wrap64 (x5 + 1))) else (some false)) else (none)) else (none)) else (some true)
def r1_Texts.f (k : Nat) (l0 : List ByteArray) (l1 : List ByteArray) : Option (Bool) := if (l0.length : Int) = (l1.length : Int) then (r1_Texts.l0 k l0 l1 0) else (some false)
theorem r1_Texts.mono_l : ∀ k, (∀ y0 y1 y2, LeO (r1_Texts.l0 k y0 y1 y2) (r1_Texts.l0 (k + 1) y0 y1 y2))
 | 0 => fun _ _ _ r h => by simp [r1_Texts.l0] at h
 | k + 1 => by
  have ih0 := r1_Texts.mono_l k
  ·intro y0 y1 y2
   unfold r1_Texts.l0
   repeat' first
   | (with_reducible exact ih0 _ _ _)
   | (with_reducible exact LeO.refl _)
   | (with_reducible exact LeO.none _)
   | (with_reducible refine LeO.ite ?_ ?_)
   | (with_reducible refine LeO.bind ?_ (fun _ => ?_))
   | exact ih0 _ _ _
   | exact LeO.none _
   | refine LeO.ite ?_ ?_
   | refine LeO.bind ?_ (fun _ => ?_)
theorem r1_Texts.mono : ∀ a0 a1 k, LeO (r1_Texts.f k a0 a1) (r1_Texts.f (k + 1) a0 a1) := by
 intro a0 a1 k
 have ih0 := r1_Texts.mono_l k
 unfold r1_Texts.f
 repeat' first
   | (with_reducible exact ih0 _ _ _)
   | (with_reducible exact LeO.refl _)
   | (with_reducible exact LeO.none _)
   | (with_reducible refine LeO.ite ?_ ?_)
   | (with_reducible refine LeO.bind ?_ (fun _ => ?_))
   | exact ih0 _ _ _
   | exact LeO.none _
   | refine LeO.ite ?_ ?_
   | refine LeO.bind ?_ (fun _ => ?_)
set_option maxHeartbeats 8000000 in
set_option maxRecDepth 100000 in
theorem r1_Texts.calls (k : Nat) (A0 : Option Addr) (c0 : Nat) (l0 : List ByteArray) (A1 : Option Addr) (c1 : Nat) (l1 : List ByteArray) (r : Bool) (w : World) (hr0 : Kd.C Kd.string w A0 l0.length l0) (hc0 : l0.length ≤ c0) (hr1 : Kd.C Kd.string w A1 l1.length l1) (hc1 : l1.length ≤ c1) (h : r1_Texts.f k l0 l1 = some r) :
  Calls Try.prog 79 #[.slice A0 l0.length c0, .slice A1 l1.length c1] w fun e w' => e = .returned (.bool r) ∧ Drawn0 w w' := by
 have HR0 := Aside0.mk hr0
 have HC0 := Aside0.mk hc0
 clear hr0 hc0
 have HR1 := Aside0.mk hr1
 have HC1 := Aside0.mk hc1
 clear hr1 hc1
 have H : (if (l0.length : Int) = (l1.length : Int) then (r1_Texts.l0 k l0 l1 0) else (some false)) = some r := h
 clear h
 by_cases c3 : (l0.length : Int) = (l1.length : Int)
 ·rw [if_pos c3] at H
  have c3b0 : ((l0.length : Int) == (l1.length : Int)) = true := beq_iff_eq.mpr c3
  have c3b1 : ((l0.length : Int) != (l1.length : Int)) = false := bne_eq_false_iff_eq.mpr c3
  have c3b2 : (l0.length == l1.length) = true := by first | simpa using c3 | (simp at c3 ⊢; omega)
  clear c3
  have H' := Aside0.mk H
  clear H
  go_enter Try.func79, Try.ntmps79
  go_wp2
  repeat (go_quiet (fail); try go_wp2)
  go_loopg [5] k (fun kq v5 w' => ∃ (x5_1 : Int), v5 = .int .i64 x5_1 ∧ Aside0 (r1_Texts.l0 kq l0 l1 x5_1 = some r) ∧ Aside0 (kq ≤ k) ∧ Drawn0 w w')
  case atStart => exact ⟨(0), (by first | rfl | (simp; done) | (simp [*]; done)), H', ⟨Nat.le_refl _⟩, by repeat (first | exact Drawn0.refl _ | apply Drawn0.step)⟩
  case round =>
   clear H'
   try clear c1
   try clear p2
   try clear c3
   try clear c3b0
   try clear c3b1
   try clear c3b2
   obtain ⟨x5_1, rfl, HA, HK1, ⟨m1, rfl⟩⟩ := hrel
   cases gk with
   | zero => exact absurd HA.out (by simp [r1_Texts.l0])
   | succ k1 =>
    have H := HA.out
    clear HA
    simp only [r1_Texts.l0] at H
    by_cases c4 : x5_1 < (l0.length : Int)
    ·rw [if_pos c4] at H
     have c4b0 : decide (x5_1 < (l0.length : Int)) = true := decide_eq_true c4
     clear c4
     by_cases c5 : 0 ≤ x5_1
     ·rw [if_pos c5] at H
      have c5b0 : decide (0 ≤ x5_1) = true := decide_eq_true c5
      clear c5
      by_cases c6 : x5_1 < (l1.length : Int)
      ·rw [if_pos c6] at H
       have c6b0 : decide (x5_1 < (l1.length : Int)) = true := decide_eq_true c6
       clear c6
       by_cases c7 : (rdOf ByteArray.empty l0 x5_1).toList = (rdOf ByteArray.empty l1 x5_1).toList
       ·rw [if_pos c7] at H
        have c7b0 : ((rdOf ByteArray.empty l0 x5_1).toList == (rdOf ByteArray.empty l1 x5_1).toList) = true := beq_iff_eq.mpr c7
        have c7b1 : ((rdOf ByteArray.empty l0 x5_1).toList != (rdOf ByteArray.empty l1 x5_1).toList) = false := bne_eq_false_iff_eq.mpr c7
        clear c7
        have H' := Aside0.mk H
        clear H
        have p1 : 0 ≤ (x5_1 : Int) := of_decide_eq_true (by first|(with_reducible assumption)|assumption)
        have q1 : x5_1 < (l0.length : Int) := of_decide_eq_true (by first|(with_reducible assumption)|assumption)
        obtain ⟨ad1, e1, hx1_0⟩ := Kd.at_string HR0.out x5_1 p1 q1
        cases e1
        replace p1 := eq_true p1
        replace q1 := eq_true q1
        have p2 : 0 ≤ (x5_1 : Int) := of_decide_eq_true (by first|(with_reducible assumption)|assumption)
        have q2 : x5_1 < (l1.length : Int) := of_decide_eq_true (by first|(with_reducible assumption)|assumption)
        obtain ⟨ad2, e2, hx2_0⟩ := Kd.at_string HR1.out x5_1 p2 q2
        cases e2
        replace p2 := eq_true p2
        replace q2 := eq_true q2
        go_wp2
        repeat (go_quiet (fail); try go_wp2)
        go_roundg k1
        case measure => have := HK1.out; omega
        case rel => exact ⟨(wrap64 (x5_1 + 1)), (by first|rfl|(simp;done)|(simp [*];done)), H', ⟨by have := HK1.out;omega⟩, by repeat (first|exact Drawn0.refl _|apply Drawn0.step)⟩
       ·rw [if_neg c7] at H
        have c7b0 : ((rdOf ByteArray.empty l0 x5_1).toList == (rdOf ByteArray.empty l1 x5_1).toList) = false := beq_eq_false_iff_ne.mpr c7
        have c7b1 : ((rdOf ByteArray.empty l0 x5_1).toList != (rdOf ByteArray.empty l1 x5_1).toList) = true := bne_iff_ne.mpr c7
        obtain rfl := Option.some.inj H
        have p1 : 0 ≤ (x5_1 : Int) := of_decide_eq_true (by first|(with_reducible assumption)|assumption)
        have q1 : x5_1 < (l0.length : Int) := of_decide_eq_true (by first|(with_reducible assumption)|assumption)
        obtain ⟨ad1, e1, hx1_0⟩ := Kd.at_string HR0.out x5_1 p1 q1
        cases e1
        replace p1 := eq_true p1
        replace q1 := eq_true q1
        have p2 : 0 ≤ (x5_1 : Int) := of_decide_eq_true (by first|(with_reducible assumption)|assumption)
        have q2 : x5_1 < (l1.length : Int) := of_decide_eq_true (by first|(with_reducible assumption)|assumption)
        obtain ⟨ad2, e2, hx2_0⟩ := Kd.at_string HR1.out x5_1 p2 q2
        cases e2
        replace p2 := eq_true p2
        replace q2 := eq_true q2
        go_wp2
        repeat (go_quiet (fail); try go_wp2)
        go_ret
        exact ⟨by first | rfl | (simp; done) | (simp [*]; done), by repeat (first | exact Drawn0.refl _ | apply Drawn0.step)⟩
      ·rw [if_neg c6] at H
       exact absurd H (by simp)
     ·rw [if_neg c5] at H
      exact absurd H (by simp)
    ·rw [if_neg c4] at H
     have c4b0 : decide (x5_1 < (l0.length : Int)) = false := decide_eq_false c4
     clear c4
     obtain rfl := Option.some.inj H
     go_wp2
     repeat (go_quiet (fail); try go_wp2)
     go_ret
     exact ⟨by first | rfl | (simp; done) | (simp [*]; done), by repeat (first | exact Drawn0.refl _ | apply Drawn0.step)⟩
 ·rw [if_neg c3] at H
  have c3b0 : ((l0.length : Int) == (l1.length : Int)) = false := beq_eq_false_iff_ne.mpr c3
  have c3b1 : ((l0.length : Int) != (l1.length : Int)) = true := bne_iff_ne.mpr c3
  have c3b2 : (l0.length == l1.length) = false := by first | simpa using c3 | (simp at c3 ⊢; omega)
  obtain rfl := Option.some.inj H
  go_enter Try.func79, Try.ntmps79
  go_wp2
  repeat (go_quiet (fail); try go_wp2)
  go_ret
  exact ⟨by first | rfl | (simp; done) | (simp [*]; done), by repeat (first | exact Drawn0.refl _ | apply Drawn0.step)⟩
end Go.Proofs.Ytcgefpklljclgaa.Print

namespace Go.Proofs.Ytcgefpklljclgaa.Print
open Go.RowKit Go.Proofs.YtcgefpklljclgaaW.PrintWords Go.Proofs.YtcgefpklljclgaaW.PrintLast Go.Proofs.YtcgefpklljclgaaW.PrintMore
attribute [local go_sem] max2_int min2_int max_two min_two max_three min_three max_four min_four   -- for this text's walks alone
set_option linter.unusedVariables false
set_option linter.unusedSimpArgs false
/-! ### law12_same: function 69 -/
def law12_same.f (k : Nat) (l0 : List (S31)) (a1 : ByteArray) : Option (Bool) := (tree_Find.f l0 a1).bind fun t1 => ((r10_Find.f k l0 a1).bind fun t2 => (if t1 = t2 then ((tree_Up.f k l0 a1).bind fun t3 => ((r10_Up.f k l0 a1).bind fun t6 => ((r1_Texts.f k t3 t6).bind fun t9 => (if t9 = true then ((tree_Below.f k l0 a1).bind fun t10 => ((r10_Below.f k l0 a1).bind fun t13 => ((r1_Texts.f k t10 t13).bind fun t16 => (if t16 = true then ((tree_Depth.f k l0 a1).bind fun t17 => ((r10_Up.f k l0 a1).bind fun t18 => (some (t17 == (t18.length : Int))))) else (some false))))) else (some false))))) else (some false)))
theorem law12_same.mono : ∀ a0 a1 k, LeO (law12_same.f k a0 a1) (law12_same.f (k + 1) a0 a1) := by
 intro a0 a1 k
 unfold law12_same.f
 repeat' first
   | (with_reducible exact r10_Below.mono _ _ _)
   | (with_reducible exact r10_Find.mono _ _ _)
   | (with_reducible exact r10_Up.mono _ _ _)
   | (with_reducible exact r1_Texts.mono _ _ _)
   | (with_reducible exact tree_Below.mono _ _ _)
   | (with_reducible exact tree_Depth.mono _ _ _)
   | (with_reducible exact tree_Up.mono _ _ _)
   | (with_reducible exact LeO.refl _)
   | (with_reducible exact LeO.none _)
   | (with_reducible refine LeO.ite ?_ ?_)
   | (with_reducible refine LeO.bind ?_ (fun _ => ?_))
   | exact r10_Below.mono _ _ _
   | exact r10_Find.mono _ _ _
   | exact r10_Up.mono _ _ _
   | exact r1_Texts.mono _ _ _
   | exact tree_Below.mono _ _ _
   | exact tree_Depth.mono _ _ _
   | exact tree_Up.mono _ _ _
   | exact LeO.none _
   | refine LeO.ite ?_ ?_
   | refine LeO.bind ?_ (fun _ => ?_)
set_option maxHeartbeats 8000000 in
set_option maxRecDepth 100000 in
theorem law12_same.calls (k : Nat) (A0 : Option Addr) (c0 : Nat) (l0 : List (S31)) (a1 : ByteArray) (r : Bool) (w : World) (hr0 : Kd.C k31 w A0 l0.length l0) (hc0 : l0.length ≤ c0) (h : law12_same.f k l0 a1 = some r) :
  Calls Try.prog 69 #[.slice A0 l0.length c0, .string a1] w fun e w' => e = .returned (.bool r) ∧ Below w.heap.size w w' := by
 have HR0 := Aside0.mk hr0
 have HC0 := Aside0.mk hc0
 clear hr0 hc0
 have HB := Aside0.mk (Below.refl w.heap.size w)
 have H : ((tree_Find.f l0 a1).bind fun t1 => ((r10_Find.f k l0 a1).bind fun t2 => (if t1 = t2 then ((tree_Up.f k l0 a1).bind fun t3 => ((r10_Up.f k l0 a1).bind fun t6 => ((r1_Texts.f k t3 t6).bind fun t9 => (if t9 = true then ((tree_Below.f k l0 a1).bind fun t10 => ((r10_Below.f k l0 a1).bind fun t13 => ((r1_Texts.f k t10 t13).bind fun t16 => (if t16 = true then ((tree_Depth.f k l0 a1).bind fun t17 => ((r10_Up.f k l0 a1).bind fun t18 => (some (t17 == (t18.length : Int))))) else (some false))))) else (some false))))) else (some false)))) = some r := h
 clear h
 replace H := Option.bind_eq_some_iff.mp H
 obtain ⟨t1, A30, H⟩ := H
 replace H : ((r10_Find.f k l0 a1).bind fun t2 => (if t1 = t2 then ((tree_Up.f k l0 a1).bind fun t3 => ((r10_Up.f k l0 a1).bind fun t6 => ((r1_Texts.f k t3 t6).bind fun t9 => (if t9 = true then ((tree_Below.f k l0 a1).bind fun t10 => ((r10_Below.f k l0 a1).bind fun t13 => ((r1_Texts.f k t10 t13).bind fun t16 => (if t16 = true then ((tree_Depth.f k l0 a1).bind fun t17 => ((r10_Up.f k l0 a1).bind fun t18 => (some (t17 == (t18.length : Int))))) else (some false))))) else (some false))))) else (some false))) = some r := H
 have A3 := Aside0.mk A30
 clear A30
 replace H := Option.bind_eq_some_iff.mp H
 obtain ⟨t2, A40, H⟩ := H
 replace H : (if t1 = t2 then ((tree_Up.f k l0 a1).bind fun t3 => ((r10_Up.f k l0 a1).bind fun t6 => ((r1_Texts.f k t3 t6).bind fun t9 => (if t9 = true then ((tree_Below.f k l0 a1).bind fun t10 => ((r10_Below.f k l0 a1).bind fun t13 => ((r1_Texts.f k t10 t13).bind fun t16 => (if t16 = true then ((tree_Depth.f k l0 a1).bind fun t17 => ((r10_Up.f k l0 a1).bind fun t18 => (some (t17 == (t18.length : Int))))) else (some false))))) else (some false))))) else (some false)) = some r := H
 have A4 := Aside0.mk A40
 clear A40
 by_cases c5 : t1 = t2
 ·rw [if_pos c5] at H
  have c5b0 : (t1 == t2) = true := beq_iff_eq.mpr c5
  have c5b1 : (t1 != t2) = false := bne_eq_false_iff_eq.mpr c5
  clear c5
  replace H := Option.bind_eq_some_iff.mp H
  obtain ⟨t3, A60, H⟩ := H
  replace H : ((r10_Up.f k l0 a1).bind fun t6 => ((r1_Texts.f k t3 t6).bind fun t9 => (if t9 = true then ((tree_Below.f k l0 a1).bind fun t10 => ((r10_Below.f k l0 a1).bind fun t13 => ((r1_Texts.f k t10 t13).bind fun t16 => (if t16 = true then ((tree_Depth.f k l0 a1).bind fun t17 => ((r10_Up.f k l0 a1).bind fun t18 => (some (t17 == (t18.length : Int))))) else (some false))))) else (some false)))) = some r := H
  have A6 := Aside0.mk A60
  clear A60
  replace H := Option.bind_eq_some_iff.mp H
  obtain ⟨t6, A70, H⟩ := H
  replace H : ((r1_Texts.f k t3 t6).bind fun t9 => (if t9 = true then ((tree_Below.f k l0 a1).bind fun t10 => ((r10_Below.f k l0 a1).bind fun t13 => ((r1_Texts.f k t10 t13).bind fun t16 => (if t16 = true then ((tree_Depth.f k l0 a1).bind fun t17 => ((r10_Up.f k l0 a1).bind fun t18 => (some (t17 == (t18.length : Int))))) else (some false))))) else (some false))) = some r := H
  have A7 := Aside0.mk A70
  clear A70
  replace H := Option.bind_eq_some_iff.mp H
  obtain ⟨t9, A80, H⟩ := H
  replace H : (if t9 = true then ((tree_Below.f k l0 a1).bind fun t10 => ((r10_Below.f k l0 a1).bind fun t13 => ((r1_Texts.f k t10 t13).bind fun t16 => (if t16 = true then ((tree_Depth.f k l0 a1).bind fun t17 => ((r10_Up.f k l0 a1).bind fun t18 => (some (t17 == (t18.length : Int))))) else (some false))))) else (some false)) = some r := H
  have A8 := Aside0.mk A80
  clear A80
  by_cases c9 : t9 = true
  ·subst c9
   have H1 : ((tree_Below.f k l0 a1).bind fun t10 => ((r10_Below.f k l0 a1).bind fun t13 => ((r1_Texts.f k t10 t13).bind fun t16 => (if t16 = true then ((tree_Depth.f k l0 a1).bind fun t17 => ((r10_Up.f k l0 a1).bind fun t18 => (some (t17 == (t18.length : Int))))) else (some false))))) = some r := by rw [if_pos rfl] at H; exact H
   clear H
   have H := H1
   clear H1
   replace H := Option.bind_eq_some_iff.mp H
   obtain ⟨t10, A100, H⟩ := H
   replace H : ((r10_Below.f k l0 a1).bind fun t13 => ((r1_Texts.f k t10 t13).bind fun t16 => (if t16 = true then ((tree_Depth.f k l0 a1).bind fun t17 => ((r10_Up.f k l0 a1).bind fun t18 => (some (t17 == (t18.length : Int))))) else (some false)))) = some r := H
   have A10 := Aside0.mk A100
   clear A100
   replace H := Option.bind_eq_some_iff.mp H
   obtain ⟨t13, A110, H⟩ := H
   replace H : ((r1_Texts.f k t10 t13).bind fun t16 => (if t16 = true then ((tree_Depth.f k l0 a1).bind fun t17 => ((r10_Up.f k l0 a1).bind fun t18 => (some (t17 == (t18.length : Int))))) else (some false))) = some r := H
   have A11 := Aside0.mk A110
   clear A110
   replace H := Option.bind_eq_some_iff.mp H
   obtain ⟨t16, A120, H⟩ := H
   replace H : (if t16 = true then ((tree_Depth.f k l0 a1).bind fun t17 => ((r10_Up.f k l0 a1).bind fun t18 => (some (t17 == (t18.length : Int))))) else (some false)) = some r := H
   have A12 := Aside0.mk A120
   clear A120
   by_cases c13 : t16 = true
   ·subst c13
    have H1 : ((tree_Depth.f k l0 a1).bind fun t17 => ((r10_Up.f k l0 a1).bind fun t18 => (some (t17 == (t18.length : Int))))) = some r := by rw [if_pos rfl] at H; exact H
    clear H
    have H := H1
    clear H1
    replace H := Option.bind_eq_some_iff.mp H
    obtain ⟨t17, A140, H⟩ := H
    replace H : ((r10_Up.f k l0 a1).bind fun t18 => (some (t17 == (t18.length : Int)))) = some r := H
    have A14 := Aside0.mk A140
    clear A140
    replace H := Option.bind_eq_some_iff.mp H
    obtain ⟨t18, A150, H⟩ := H
    replace H : (some (t17 == (t18.length : Int))) = some r := H
    have A15 := Aside0.mk A150
    clear A150
    obtain rfl : t6 = t18 := Option.some.inj (A7.out.symm.trans A15.out)
    obtain rfl := Option.some.inj H
    go_enter Try.func69, Try.ntmps69
    go_wp2_with (first|((with_reducible refine gate_callee (f := 71) rfl ?_);refine goesL_ (some 7) rfl rfl Try.func71 (by kernel_rfl) rfl #[.slice A0 l0.length c0, .string a1] rfl (by (try simp only [List.map_toArray, List.map_cons, List.map_nil]);first|done|rfl|(simp only [List.length_drop, List.length_take];rfl)) ?_;(with_reducible refine (tree_Find.calls _ _ l0 a1 t1 _ ?side1 ?side2 A3.out).mono ?_);(case side1 => repeat (first|exact HR0.out|(with_reducible refine Kd.C_alloc ?_ _)|(with_reducible refine Kd.C_drewN ?_ _)|(with_reducible refine Kd.C_drew ?_)));(case side2 => exact HC0.out);rintro e w16 ⟨rfl, hb⟩;refine ⟨_, rfl, ?_⟩;have n0_ := Aside0.mk (below_step (by repeat (first|(with_reducible first|exact HB.out|apply below_alloc|apply pw_below_drewN|apply below_drew1)|exact HB.out)) hb);clear HB;have HB := n0_;clear n0_;(try clear hb);(try clear hb2);(try clear hk);(try clear hi))|((with_reducible refine gate_callee (f := 50) rfl ?_);refine goesL_ (some 10) rfl rfl Try.func50 (by kernel_rfl) rfl #[.slice A0 l0.length c0, .string a1] rfl (by (try simp only [List.map_toArray, List.map_cons, List.map_nil]);first|done|rfl|(simp only [List.length_drop, List.length_take];rfl)) ?_;(with_reducible refine (r10_Find.calls k _ _ l0 a1 t2 _ ?side1 ?side2 A4.out).mono ?_);(case side1 => repeat (first|exact (Kd.C_below HR0.out HB.out)|(with_reducible refine Kd.C_alloc ?_ _)|(with_reducible refine Kd.C_drewN ?_ _)|(with_reducible refine Kd.C_drew ?_)));(case side2 => exact HC0.out);rintro e w' ⟨rfl, ⟨nd, rfl⟩⟩;refine ⟨_, rfl, ?_⟩)|(go_at_call 70;(with_reducible refine (tree_Up.calls k _ _ l0 a1 t3 _ ?side1 ?side2 A6.out).mono ?_);(case side1 => repeat (first|exact (Kd.C_below HR0.out (by repeat (first|(with_reducible first|exact HB.out|apply below_alloc|apply pw_below_drewN|apply below_drew1)|exact HB.out)))|(with_reducible refine Kd.C_alloc ?_ _)|(with_reducible refine Kd.C_drewN ?_ _)|(with_reducible refine Kd.C_drew ?_)));(case side2 => exact HC0.out);rintro e w17 ⟨v4, rfl, ho0, hb⟩;have n0_ := Aside0.mk (Kd.R_lower ho0 (below_size (by repeat (first|(with_reducible first|exact HB.out|apply below_alloc|apply pw_below_drewN|apply below_drew1)|exact HB.out))));have n1_ := Aside0.mk (below_step (by repeat (first|(with_reducible first|exact HB.out|apply below_alloc|apply pw_below_drewN|apply below_drew1)|exact HB.out)) hb);clear HB;have HO5 := n0_;have HB := n1_;clear n0_ n1_;(try clear hb);(try clear hb2);(try clear hk);(try clear hi);(try clear ho0))|(have hg_ := HO5.out;clear hg_;go_at_call 106;(with_reducible refine (r10_Up.calls k _ _ l0 a1 t6 _ ?side1 ?side2 A15.out).mono ?_);(case side1 => repeat (first|exact (Kd.C_below HR0.out HB.out)|(with_reducible refine Kd.C_alloc ?_ _)|(with_reducible refine Kd.C_drewN ?_ _)|(with_reducible refine Kd.C_drew ?_)));(case side2 => exact HC0.out);rintro e w26 ⟨v19, rfl, ho0, hb⟩;have n0_ := Aside0.mk (Kd.R_elder' (by (with_reducible repeat (first|apply Kd.R_alloc|apply Kd.R_drewN|apply Kd.R_drew));exact HO5.out) (Kd.R_base ho0) hb);have n1_ := Aside0.mk (Kd.R_elder' (by (with_reducible repeat (first|apply Kd.R_alloc|apply Kd.R_drewN|apply Kd.R_drew));exact HO8.out) (Kd.R_base ho0) hb);have n2_ := Aside0.mk (Kd.R_elder' (by (with_reducible repeat (first|apply Kd.R_alloc|apply Kd.R_drewN|apply Kd.R_drew));exact HO12.out) (Kd.R_base ho0) hb);have n3_ := Aside0.mk (Kd.R_elder' (by (with_reducible repeat (first|apply Kd.R_alloc|apply Kd.R_drewN|apply Kd.R_drew));exact HO15.out) (Kd.R_base ho0) hb);have n4_ := Aside0.mk (Kd.R_lower (Kd.R_new' (Kd.R_new' (Kd.R_new' (Kd.R_new' ho0 (Kd.R_lt (by (with_reducible repeat (first|apply Kd.R_alloc|apply Kd.R_drewN|apply Kd.R_drew));exact HO5.out))) (Kd.R_lt (by (with_reducible repeat (first|apply Kd.R_alloc|apply Kd.R_drewN|apply Kd.R_drew));exact HO8.out))) (Kd.R_lt (by (with_reducible repeat (first|apply Kd.R_alloc|apply Kd.R_drewN|apply Kd.R_drew));exact HO12.out))) (Kd.R_lt (by (with_reducible repeat (first|apply Kd.R_alloc|apply Kd.R_drewN|apply Kd.R_drew));exact HO15.out))) (below_size (by repeat (first|(with_reducible first|exact HB.out|apply below_alloc|apply pw_below_drewN|apply below_drew1)|exact HB.out))));have n5_ := Aside0.mk (below_step (by repeat (first|(with_reducible first|exact HB.out|apply below_alloc|apply pw_below_drewN|apply below_drew1)|exact HB.out)) hb);clear HO5;clear HO8;clear HO12;clear HO15;clear HB;have HO5 := n0_;have HO8 := n1_;have HO12 := n2_;have HO15 := n3_;have HO20 := n4_;have HB := n5_;clear n0_ n1_ n2_ n3_ n4_ n5_;(try clear hb);(try clear hb2);(try clear hk);(try clear hi);(try clear ho0);obtain ⟨Ao27, co27, eo27⟩ := Kd.R_slice HO20.out;subst eo27)|(go_at_call 106;(with_reducible refine (r10_Up.calls k _ _ l0 a1 t6 _ ?side1 ?side2 A7.out).mono ?_);(case side1 => repeat (first|exact (Kd.C_below HR0.out HB.out)|(with_reducible refine Kd.C_alloc ?_ _)|(with_reducible refine Kd.C_drewN ?_ _)|(with_reducible refine Kd.C_drew ?_)));(case side2 => exact HC0.out);rintro e w18 ⟨v7, rfl, ho0, hb⟩;have n0_ := Aside0.mk (Kd.R_elder' (by (with_reducible repeat (first|apply Kd.R_alloc|apply Kd.R_drewN|apply Kd.R_drew));exact HO5.out) (Kd.R_base ho0) hb);have n1_ := Aside0.mk (Kd.R_lower (Kd.R_new' ho0 (Kd.R_lt (by (with_reducible repeat (first|apply Kd.R_alloc|apply Kd.R_drewN|apply Kd.R_drew));exact HO5.out))) (below_size (by repeat (first|(with_reducible first|exact HB.out|apply below_alloc|apply pw_below_drewN|apply below_drew1)|exact HB.out))));have n2_ := Aside0.mk (below_step (by repeat (first|(with_reducible first|exact HB.out|apply below_alloc|apply pw_below_drewN|apply below_drew1)|exact HB.out)) hb);clear HO5;clear HB;have HO5 := n0_;have HO8 := n1_;have HB := n2_;clear n0_ n1_ n2_;(try clear hb);(try clear hb2);(try clear hk);(try clear hi);(try clear ho0);obtain ⟨Ao19, co19, eo19⟩ := Kd.R_slice HO5.out;subst eo19;obtain ⟨Ao20, co20, eo20⟩ := Kd.R_slice HO8.out;subst eo20)|(go_at_call 79;(with_reducible refine (r1_Texts.calls k _ _ t3 _ _ t6 true _ ?side1 ?side2 ?side3 ?side4 A8.out).mono ?_);(case side1 => repeat (first|exact (Kd.R_reads' HO5.out).2.2|(with_reducible refine Kd.C_alloc ?_ _)|(with_reducible refine Kd.C_drewN ?_ _)|(with_reducible refine Kd.C_drew ?_)));(case side2 => exact (Kd.R_reads' HO5.out).2.1);(case side3 => repeat (first|exact (Kd.R_reads' HO8.out).2.2|(with_reducible refine Kd.C_alloc ?_ _)|(with_reducible refine Kd.C_drewN ?_ _)|(with_reducible refine Kd.C_drew ?_)));(case side4 => exact (Kd.R_reads' HO8.out).2.1);rintro e w' ⟨rfl, ⟨nd, rfl⟩⟩)|(go_at_call 73;(with_reducible refine (tree_Below.calls k _ _ l0 a1 t10 _ ?side1 ?side2 A10.out).mono ?_);(case side1 => repeat (first|exact (Kd.C_below HR0.out (by repeat (first|(with_reducible first|exact HB.out|apply below_alloc|apply pw_below_drewN|apply below_drew1)|exact HB.out)))|(with_reducible refine Kd.C_alloc ?_ _)|(with_reducible refine Kd.C_drewN ?_ _)|(with_reducible refine Kd.C_drew ?_)));(case side2 => exact HC0.out);rintro e w21 ⟨v11, rfl, ho0, hb⟩;have n0_ := Aside0.mk (Kd.R_elder' (by (with_reducible repeat (first|apply Kd.R_alloc|apply Kd.R_drewN|apply Kd.R_drew));exact HO5.out) (Kd.R_base ho0) hb);have n1_ := Aside0.mk (Kd.R_elder' (by (with_reducible repeat (first|apply Kd.R_alloc|apply Kd.R_drewN|apply Kd.R_drew));exact HO8.out) (Kd.R_base ho0) hb);have n2_ := Aside0.mk (Kd.R_lower (Kd.R_new' (Kd.R_new' ho0 (Kd.R_lt (by (with_reducible repeat (first|apply Kd.R_alloc|apply Kd.R_drewN|apply Kd.R_drew));exact HO5.out))) (Kd.R_lt (by (with_reducible repeat (first|apply Kd.R_alloc|apply Kd.R_drewN|apply Kd.R_drew));exact HO8.out))) (below_size (by repeat (first|(with_reducible first|exact HB.out|apply below_alloc|apply pw_below_drewN|apply below_drew1)|exact HB.out))));have n3_ := Aside0.mk (below_step (by repeat (first|(with_reducible first|exact HB.out|apply below_alloc|apply pw_below_drewN|apply below_drew1)|exact HB.out)) hb);clear HO5;clear HO8;clear HB;have HO5 := n0_;have HO8 := n1_;have HO12 := n2_;have HB := n3_;clear n0_ n1_ n2_ n3_;(try clear hb);(try clear hb2);(try clear hk);(try clear hi);(try clear ho0))|(go_at_call 75;(with_reducible refine (r10_Below.calls k _ _ l0 a1 t13 _ ?side1 ?side2 A11.out).mono ?_);(case side1 => repeat (first|exact (Kd.C_below HR0.out HB.out)|(with_reducible refine Kd.C_alloc ?_ _)|(with_reducible refine Kd.C_drewN ?_ _)|(with_reducible refine Kd.C_drew ?_)));(case side2 => exact HC0.out);rintro e w22 ⟨v14, rfl, ho0, hb⟩;have n0_ := Aside0.mk (Kd.R_elder' (by (with_reducible repeat (first|apply Kd.R_alloc|apply Kd.R_drewN|apply Kd.R_drew));exact HO5.out) (Kd.R_base ho0) hb);have n1_ := Aside0.mk (Kd.R_elder' (by (with_reducible repeat (first|apply Kd.R_alloc|apply Kd.R_drewN|apply Kd.R_drew));exact HO8.out) (Kd.R_base ho0) hb);have n2_ := Aside0.mk (Kd.R_elder' (by (with_reducible repeat (first|apply Kd.R_alloc|apply Kd.R_drewN|apply Kd.R_drew));exact HO12.out) (Kd.R_base ho0) hb);have n3_ := Aside0.mk (Kd.R_lower (Kd.R_new' (Kd.R_new' (Kd.R_new' ho0 (Kd.R_lt (by (with_reducible repeat (first|apply Kd.R_alloc|apply Kd.R_drewN|apply Kd.R_drew));exact HO5.out))) (Kd.R_lt (by (with_reducible repeat (first|apply Kd.R_alloc|apply Kd.R_drewN|apply Kd.R_drew));exact HO8.out))) (Kd.R_lt (by (with_reducible repeat (first|apply Kd.R_alloc|apply Kd.R_drewN|apply Kd.R_drew));exact HO12.out))) (below_size (by repeat (first|(with_reducible first|exact HB.out|apply below_alloc|apply pw_below_drewN|apply below_drew1)|exact HB.out))));have n4_ := Aside0.mk (below_step (by repeat (first|(with_reducible first|exact HB.out|apply below_alloc|apply pw_below_drewN|apply below_drew1)|exact HB.out)) hb);clear HO5;clear HO8;clear HO12;clear HB;have HO5 := n0_;have HO8 := n1_;have HO12 := n2_;have HO15 := n3_;have HB := n4_;clear n0_ n1_ n2_ n3_ n4_;(try clear hb);(try clear hb2);(try clear hk);(try clear hi);(try clear ho0);obtain ⟨Ao23, co23, eo23⟩ := Kd.R_slice HO12.out;subst eo23;obtain ⟨Ao24, co24, eo24⟩ := Kd.R_slice HO15.out;subst eo24)|(go_at_call 79;(with_reducible refine (r1_Texts.calls k _ _ t10 _ _ t13 true _ ?side1 ?side2 ?side3 ?side4 A12.out).mono ?_);(case side1 => repeat (first|exact (Kd.R_reads' HO12.out).2.2|(with_reducible refine Kd.C_alloc ?_ _)|(with_reducible refine Kd.C_drewN ?_ _)|(with_reducible refine Kd.C_drew ?_)));(case side2 => exact (Kd.R_reads' HO12.out).2.1);(case side3 => repeat (first|exact (Kd.R_reads' HO15.out).2.2|(with_reducible refine Kd.C_alloc ?_ _)|(with_reducible refine Kd.C_drewN ?_ _)|(with_reducible refine Kd.C_drew ?_)));(case side4 => exact (Kd.R_reads' HO15.out).2.1);rintro e w' ⟨rfl, ⟨nd, rfl⟩⟩)|(go_at_call 72;(with_reducible refine (tree_Depth.calls k _ _ l0 a1 t17 _ ?side1 ?side2 A14.out).mono ?_);(case side1 => repeat (first|exact (Kd.C_below HR0.out (by repeat (first|(with_reducible first|exact HB.out|apply below_alloc|apply pw_below_drewN|apply below_drew1)|exact HB.out)))|(with_reducible refine Kd.C_alloc ?_ _)|(with_reducible refine Kd.C_drewN ?_ _)|(with_reducible refine Kd.C_drew ?_)));(case side2 => exact HC0.out);rintro e w25 ⟨rfl, hb⟩;have n0_ := Aside0.mk (Kd.R_below (by (with_reducible repeat (first|apply Kd.R_alloc|apply Kd.R_drewN|apply Kd.R_drew));exact HO5.out) hb);have n1_ := Aside0.mk (Kd.R_below (by (with_reducible repeat (first|apply Kd.R_alloc|apply Kd.R_drewN|apply Kd.R_drew));exact HO8.out) hb);have n2_ := Aside0.mk (Kd.R_below (by (with_reducible repeat (first|apply Kd.R_alloc|apply Kd.R_drewN|apply Kd.R_drew));exact HO12.out) hb);have n3_ := Aside0.mk (Kd.R_below (by (with_reducible repeat (first|apply Kd.R_alloc|apply Kd.R_drewN|apply Kd.R_drew));exact HO15.out) hb);have n4_ := Aside0.mk (below_step (by repeat (first|(with_reducible first|exact HB.out|apply below_alloc|apply pw_below_drewN|apply below_drew1)|exact HB.out)) hb);clear HO5;clear HO8;clear HO12;clear HO15;clear HB;have HO5 := n0_;have HO8 := n1_;have HO12 := n2_;have HO15 := n3_;have HB := n4_;clear n0_ n1_ n2_ n3_ n4_;(try clear hb);(try clear hb2);(try clear hk);(try clear hi)))
    go_ret
    exact ⟨by first|rfl|(simp [errW_none, errW_some] <;> rfl)|(simp [*, errW_none, errW_some] <;> rfl), by repeat (first|(with_reducible first|exact HB.out|apply below_alloc|apply pw_below_drewN|apply below_drew1)|exact HB.out)⟩
   ·replace c13 := Bool.eq_false_iff.mpr c13
    subst c13
    have H1 : (some false) = some r := by rw [if_neg (show ¬ (false = true) by decide)] at H; exact H
    clear H
    have H := H1
    clear H1
    obtain rfl := Option.some.inj H
    go_enter Try.func69, Try.ntmps69
    go_wp2_with (first|((with_reducible refine gate_callee (f := 71) rfl ?_);refine goesL_ (some 7) rfl rfl Try.func71 (by kernel_rfl) rfl #[.slice A0 l0.length c0, .string a1] rfl (by (try simp only [List.map_toArray, List.map_cons, List.map_nil]);first|done|rfl|(simp only [List.length_drop, List.length_take];rfl)) ?_;(with_reducible refine (tree_Find.calls _ _ l0 a1 t1 _ ?side1 ?side2 A3.out).mono ?_);(case side1 => repeat (first|exact HR0.out|(with_reducible refine Kd.C_alloc ?_ _)|(with_reducible refine Kd.C_drewN ?_ _)|(with_reducible refine Kd.C_drew ?_)));(case side2 => exact HC0.out);rintro e w28 ⟨rfl, hb⟩;refine ⟨_, rfl, ?_⟩;have n0_ := Aside0.mk (below_step (by repeat (first|(with_reducible first|exact HB.out|apply below_alloc|apply pw_below_drewN|apply below_drew1)|exact HB.out)) hb);clear HB;have HB := n0_;clear n0_;(try clear hb);(try clear hb2);(try clear hk);(try clear hi))|((with_reducible refine gate_callee (f := 50) rfl ?_);refine goesL_ (some 10) rfl rfl Try.func50 (by kernel_rfl) rfl #[.slice A0 l0.length c0, .string a1] rfl (by (try simp only [List.map_toArray, List.map_cons, List.map_nil]);first|done|rfl|(simp only [List.length_drop, List.length_take];rfl)) ?_;(with_reducible refine (r10_Find.calls k _ _ l0 a1 t2 _ ?side1 ?side2 A4.out).mono ?_);(case side1 => repeat (first|exact (Kd.C_below HR0.out HB.out)|(with_reducible refine Kd.C_alloc ?_ _)|(with_reducible refine Kd.C_drewN ?_ _)|(with_reducible refine Kd.C_drew ?_)));(case side2 => exact HC0.out);rintro e w' ⟨rfl, ⟨nd, rfl⟩⟩;refine ⟨_, rfl, ?_⟩)|(go_at_call 70;(with_reducible refine (tree_Up.calls k _ _ l0 a1 t3 _ ?side1 ?side2 A6.out).mono ?_);(case side1 => repeat (first|exact (Kd.C_below HR0.out (by repeat (first|(with_reducible first|exact HB.out|apply below_alloc|apply pw_below_drewN|apply below_drew1)|exact HB.out)))|(with_reducible refine Kd.C_alloc ?_ _)|(with_reducible refine Kd.C_drewN ?_ _)|(with_reducible refine Kd.C_drew ?_)));(case side2 => exact HC0.out);rintro e w29 ⟨v4, rfl, ho0, hb⟩;have n0_ := Aside0.mk (Kd.R_lower ho0 (below_size (by repeat (first|(with_reducible first|exact HB.out|apply below_alloc|apply pw_below_drewN|apply below_drew1)|exact HB.out))));have n1_ := Aside0.mk (below_step (by repeat (first|(with_reducible first|exact HB.out|apply below_alloc|apply pw_below_drewN|apply below_drew1)|exact HB.out)) hb);clear HB;have HO5 := n0_;have HB := n1_;clear n0_ n1_;(try clear hb);(try clear hb2);(try clear hk);(try clear hi);(try clear ho0))|(go_at_call 106;(with_reducible refine (r10_Up.calls k _ _ l0 a1 t6 _ ?side1 ?side2 A7.out).mono ?_);(case side1 => repeat (first|exact (Kd.C_below HR0.out HB.out)|(with_reducible refine Kd.C_alloc ?_ _)|(with_reducible refine Kd.C_drewN ?_ _)|(with_reducible refine Kd.C_drew ?_)));(case side2 => exact HC0.out);rintro e w30 ⟨v7, rfl, ho0, hb⟩;have n0_ := Aside0.mk (Kd.R_elder' (by (with_reducible repeat (first|apply Kd.R_alloc|apply Kd.R_drewN|apply Kd.R_drew));exact HO5.out) (Kd.R_base ho0) hb);have n1_ := Aside0.mk (Kd.R_lower (Kd.R_new' ho0 (Kd.R_lt (by (with_reducible repeat (first|apply Kd.R_alloc|apply Kd.R_drewN|apply Kd.R_drew));exact HO5.out))) (below_size (by repeat (first|(with_reducible first|exact HB.out|apply below_alloc|apply pw_below_drewN|apply below_drew1)|exact HB.out))));have n2_ := Aside0.mk (below_step (by repeat (first|(with_reducible first|exact HB.out|apply below_alloc|apply pw_below_drewN|apply below_drew1)|exact HB.out)) hb);clear HO5;clear HB;have HO5 := n0_;have HO8 := n1_;have HB := n2_;clear n0_ n1_ n2_;(try clear hb);(try clear hb2);(try clear hk);(try clear hi);(try clear ho0);obtain ⟨Ao31, co31, eo31⟩ := Kd.R_slice HO5.out;subst eo31;obtain ⟨Ao32, co32, eo32⟩ := Kd.R_slice HO8.out;subst eo32)|(go_at_call 79;(with_reducible refine (r1_Texts.calls k _ _ t3 _ _ t6 true _ ?side1 ?side2 ?side3 ?side4 A8.out).mono ?_);(case side1 => repeat (first|exact (Kd.R_reads' HO5.out).2.2|(with_reducible refine Kd.C_alloc ?_ _)|(with_reducible refine Kd.C_drewN ?_ _)|(with_reducible refine Kd.C_drew ?_)));(case side2 => exact (Kd.R_reads' HO5.out).2.1);(case side3 => repeat (first|exact (Kd.R_reads' HO8.out).2.2|(with_reducible refine Kd.C_alloc ?_ _)|(with_reducible refine Kd.C_drewN ?_ _)|(with_reducible refine Kd.C_drew ?_)));(case side4 => exact (Kd.R_reads' HO8.out).2.1);rintro e w' ⟨rfl, ⟨nd, rfl⟩⟩)|(go_at_call 73;(with_reducible refine (tree_Below.calls k _ _ l0 a1 t10 _ ?side1 ?side2 A10.out).mono ?_);(case side1 => repeat (first|exact (Kd.C_below HR0.out (by repeat (first|(with_reducible first|exact HB.out|apply below_alloc|apply pw_below_drewN|apply below_drew1)|exact HB.out)))|(with_reducible refine Kd.C_alloc ?_ _)|(with_reducible refine Kd.C_drewN ?_ _)|(with_reducible refine Kd.C_drew ?_)));(case side2 => exact HC0.out);rintro e w33 ⟨v11, rfl, ho0, hb⟩;have n0_ := Aside0.mk (Kd.R_elder' (by (with_reducible repeat (first|apply Kd.R_alloc|apply Kd.R_drewN|apply Kd.R_drew));exact HO5.out) (Kd.R_base ho0) hb);have n1_ := Aside0.mk (Kd.R_elder' (by (with_reducible repeat (first|apply Kd.R_alloc|apply Kd.R_drewN|apply Kd.R_drew));exact HO8.out) (Kd.R_base ho0) hb);have n2_ := Aside0.mk (Kd.R_lower (Kd.R_new' (Kd.R_new' ho0 (Kd.R_lt (by (with_reducible repeat (first|apply Kd.R_alloc|apply Kd.R_drewN|apply Kd.R_drew));exact HO5.out))) (Kd.R_lt (by (with_reducible repeat (first|apply Kd.R_alloc|apply Kd.R_drewN|apply Kd.R_drew));exact HO8.out))) (below_size (by repeat (first|(with_reducible first|exact HB.out|apply below_alloc|apply pw_below_drewN|apply below_drew1)|exact HB.out))));have n3_ := Aside0.mk (below_step (by repeat (first|(with_reducible first|exact HB.out|apply below_alloc|apply pw_below_drewN|apply below_drew1)|exact HB.out)) hb);clear HO5;clear HO8;clear HB;have HO5 := n0_;have HO8 := n1_;have HO12 := n2_;have HB := n3_;clear n0_ n1_ n2_ n3_;(try clear hb);(try clear hb2);(try clear hk);(try clear hi);(try clear ho0))|(go_at_call 75;(with_reducible refine (r10_Below.calls k _ _ l0 a1 t13 _ ?side1 ?side2 A11.out).mono ?_);(case side1 => repeat (first|exact (Kd.C_below HR0.out HB.out)|(with_reducible refine Kd.C_alloc ?_ _)|(with_reducible refine Kd.C_drewN ?_ _)|(with_reducible refine Kd.C_drew ?_)));(case side2 => exact HC0.out);rintro e w34 ⟨v14, rfl, ho0, hb⟩;have n0_ := Aside0.mk (Kd.R_elder' (by (with_reducible repeat (first|apply Kd.R_alloc|apply Kd.R_drewN|apply Kd.R_drew));exact HO5.out) (Kd.R_base ho0) hb);have n1_ := Aside0.mk (Kd.R_elder' (by (with_reducible repeat (first|apply Kd.R_alloc|apply Kd.R_drewN|apply Kd.R_drew));exact HO8.out) (Kd.R_base ho0) hb);have n2_ := Aside0.mk (Kd.R_elder' (by (with_reducible repeat (first|apply Kd.R_alloc|apply Kd.R_drewN|apply Kd.R_drew));exact HO12.out) (Kd.R_base ho0) hb);have n3_ := Aside0.mk (Kd.R_lower (Kd.R_new' (Kd.R_new' (Kd.R_new' ho0 (Kd.R_lt (by (with_reducible repeat (first|apply Kd.R_alloc|apply Kd.R_drewN|apply Kd.R_drew));exact HO5.out))) (Kd.R_lt (by (with_reducible repeat (first|apply Kd.R_alloc|apply Kd.R_drewN|apply Kd.R_drew));exact HO8.out))) (Kd.R_lt (by (with_reducible repeat (first|apply Kd.R_alloc|apply Kd.R_drewN|apply Kd.R_drew));exact HO12.out))) (below_size (by repeat (first|(with_reducible first|exact HB.out|apply below_alloc|apply pw_below_drewN|apply below_drew1)|exact HB.out))));have n4_ := Aside0.mk (below_step (by repeat (first|(with_reducible first|exact HB.out|apply below_alloc|apply pw_below_drewN|apply below_drew1)|exact HB.out)) hb);clear HO5;clear HO8;clear HO12;clear HB;have HO5 := n0_;have HO8 := n1_;have HO12 := n2_;have HO15 := n3_;have HB := n4_;clear n0_ n1_ n2_ n3_ n4_;(try clear hb);(try clear hb2);(try clear hk);(try clear hi);(try clear ho0);obtain ⟨Ao35, co35, eo35⟩ := Kd.R_slice HO12.out;subst eo35;obtain ⟨Ao36, co36, eo36⟩ := Kd.R_slice HO15.out;subst eo36)|(go_at_call 79;(with_reducible refine (r1_Texts.calls k _ _ t10 _ _ t13 false _ ?side1 ?side2 ?side3 ?side4 A12.out).mono ?_);(case side1 => repeat (first|exact (Kd.R_reads' HO12.out).2.2|(with_reducible refine Kd.C_alloc ?_ _)|(with_reducible refine Kd.C_drewN ?_ _)|(with_reducible refine Kd.C_drew ?_)));(case side2 => exact (Kd.R_reads' HO12.out).2.1);(case side3 => repeat (first|exact (Kd.R_reads' HO15.out).2.2|(with_reducible refine Kd.C_alloc ?_ _)|(with_reducible refine Kd.C_drewN ?_ _)|(with_reducible refine Kd.C_drew ?_)));(case side4 => exact (Kd.R_reads' HO15.out).2.1);rintro e w' ⟨rfl, ⟨nd, rfl⟩⟩))
    go_ret
    exact ⟨by first|rfl|(simp [errW_none, errW_some] <;> rfl)|(simp [*, errW_none, errW_some] <;> rfl), by repeat (first|(with_reducible first|exact HB.out|apply below_alloc|apply pw_below_drewN|apply below_drew1)|exact HB.out)⟩
  ·replace c9 := Bool.eq_false_iff.mpr c9
   subst c9
   have H1 : (some false) = some r := by rw [if_neg (show ¬ (false = true) by decide)] at H; exact H
   clear H
   have H := H1
   clear H1
   obtain rfl := Option.some.inj H
   go_enter Try.func69, Try.ntmps69
   go_wp2_with (first|((with_reducible refine gate_callee (f := 71) rfl ?_);refine goesL_ (some 7) rfl rfl Try.func71 (by kernel_rfl) rfl #[.slice A0 l0.length c0, .string a1] rfl (by (try simp only [List.map_toArray, List.map_cons, List.map_nil]);first|done|rfl|(simp only [List.length_drop, List.length_take];rfl)) ?_;(with_reducible refine (tree_Find.calls _ _ l0 a1 t1 _ ?side1 ?side2 A3.out).mono ?_);(case side1 => repeat (first|exact HR0.out|(with_reducible refine Kd.C_alloc ?_ _)|(with_reducible refine Kd.C_drewN ?_ _)|(with_reducible refine Kd.C_drew ?_)));(case side2 => exact HC0.out);rintro e w37 ⟨rfl, hb⟩;refine ⟨_, rfl, ?_⟩;have n0_ := Aside0.mk (below_step (by repeat (first|(with_reducible first|exact HB.out|apply below_alloc|apply pw_below_drewN|apply below_drew1)|exact HB.out)) hb);clear HB;have HB := n0_;clear n0_;(try clear hb);(try clear hb2);(try clear hk);(try clear hi))|((with_reducible refine gate_callee (f := 50) rfl ?_);refine goesL_ (some 10) rfl rfl Try.func50 (by kernel_rfl) rfl #[.slice A0 l0.length c0, .string a1] rfl (by (try simp only [List.map_toArray, List.map_cons, List.map_nil]);first|done|rfl|(simp only [List.length_drop, List.length_take];rfl)) ?_;(with_reducible refine (r10_Find.calls k _ _ l0 a1 t2 _ ?side1 ?side2 A4.out).mono ?_);(case side1 => repeat (first|exact (Kd.C_below HR0.out HB.out)|(with_reducible refine Kd.C_alloc ?_ _)|(with_reducible refine Kd.C_drewN ?_ _)|(with_reducible refine Kd.C_drew ?_)));(case side2 => exact HC0.out);rintro e w' ⟨rfl, ⟨nd, rfl⟩⟩;refine ⟨_, rfl, ?_⟩)|(go_at_call 70;(with_reducible refine (tree_Up.calls k _ _ l0 a1 t3 _ ?side1 ?side2 A6.out).mono ?_);(case side1 => repeat (first|exact (Kd.C_below HR0.out (by repeat (first|(with_reducible first|exact HB.out|apply below_alloc|apply pw_below_drewN|apply below_drew1)|exact HB.out)))|(with_reducible refine Kd.C_alloc ?_ _)|(with_reducible refine Kd.C_drewN ?_ _)|(with_reducible refine Kd.C_drew ?_)));(case side2 => exact HC0.out);rintro e w38 ⟨v4, rfl, ho0, hb⟩;have n0_ := Aside0.mk (Kd.R_lower ho0 (below_size (by repeat (first|(with_reducible first|exact HB.out|apply below_alloc|apply pw_below_drewN|apply below_drew1)|exact HB.out))));have n1_ := Aside0.mk (below_step (by repeat (first|(with_reducible first|exact HB.out|apply below_alloc|apply pw_below_drewN|apply below_drew1)|exact HB.out)) hb);clear HB;have HO5 := n0_;have HB := n1_;clear n0_ n1_;(try clear hb);(try clear hb2);(try clear hk);(try clear hi);(try clear ho0))|(go_at_call 106;(with_reducible refine (r10_Up.calls k _ _ l0 a1 t6 _ ?side1 ?side2 A7.out).mono ?_);(case side1 => repeat (first|exact (Kd.C_below HR0.out HB.out)|(with_reducible refine Kd.C_alloc ?_ _)|(with_reducible refine Kd.C_drewN ?_ _)|(with_reducible refine Kd.C_drew ?_)));(case side2 => exact HC0.out);rintro e w39 ⟨v7, rfl, ho0, hb⟩;have n0_ := Aside0.mk (Kd.R_elder' (by (with_reducible repeat (first|apply Kd.R_alloc|apply Kd.R_drewN|apply Kd.R_drew));exact HO5.out) (Kd.R_base ho0) hb);have n1_ := Aside0.mk (Kd.R_lower (Kd.R_new' ho0 (Kd.R_lt (by (with_reducible repeat (first|apply Kd.R_alloc|apply Kd.R_drewN|apply Kd.R_drew));exact HO5.out))) (below_size (by repeat (first|(with_reducible first|exact HB.out|apply below_alloc|apply pw_below_drewN|apply below_drew1)|exact HB.out))));have n2_ := Aside0.mk (below_step (by repeat (first|(with_reducible first|exact HB.out|apply below_alloc|apply pw_below_drewN|apply below_drew1)|exact HB.out)) hb);clear HO5;clear HB;have HO5 := n0_;have HO8 := n1_;have HB := n2_;clear n0_ n1_ n2_;(try clear hb);(try clear hb2);(try clear hk);(try clear hi);(try clear ho0);obtain ⟨Ao40, co40, eo40⟩ := Kd.R_slice HO5.out;subst eo40;obtain ⟨Ao41, co41, eo41⟩ := Kd.R_slice HO8.out;subst eo41)|(go_at_call 79;(with_reducible refine (r1_Texts.calls k _ _ t3 _ _ t6 false _ ?side1 ?side2 ?side3 ?side4 A8.out).mono ?_);(case side1 => repeat (first|exact (Kd.R_reads' HO5.out).2.2|(with_reducible refine Kd.C_alloc ?_ _)|(with_reducible refine Kd.C_drewN ?_ _)|(with_reducible refine Kd.C_drew ?_)));(case side2 => exact (Kd.R_reads' HO5.out).2.1);(case side3 => repeat (first|exact (Kd.R_reads' HO8.out).2.2|(with_reducible refine Kd.C_alloc ?_ _)|(with_reducible refine Kd.C_drewN ?_ _)|(with_reducible refine Kd.C_drew ?_)));(case side4 => exact (Kd.R_reads' HO8.out).2.1);rintro e w' ⟨rfl, ⟨nd, rfl⟩⟩))
   go_ret
   exact ⟨by first|rfl|(simp [errW_none, errW_some] <;> rfl)|(simp [*, errW_none, errW_some] <;> rfl), by repeat (first|(with_reducible first|exact HB.out|apply below_alloc|apply pw_below_drewN|apply below_drew1)|exact HB.out)⟩
 ·rw [if_neg c5] at H
  have c5b0 : (t1 == t2) = false := beq_eq_false_iff_ne.mpr c5
  have c5b1 : (t1 != t2) = true := bne_iff_ne.mpr c5
  obtain rfl := Option.some.inj H
  go_enter Try.func69, Try.ntmps69
  go_wp2_with (first|((with_reducible refine gate_callee (f := 71) rfl ?_);refine goesL_ (some 7) rfl rfl Try.func71 (by kernel_rfl) rfl #[.slice A0 l0.length c0, .string a1] rfl (by (try simp only [List.map_toArray, List.map_cons, List.map_nil]);first|done|rfl|(simp only [List.length_drop, List.length_take];rfl)) ?_;(with_reducible refine (tree_Find.calls _ _ l0 a1 t1 _ ?side1 ?side2 A3.out).mono ?_);(case side1 => repeat (first|exact HR0.out|(with_reducible refine Kd.C_alloc ?_ _)|(with_reducible refine Kd.C_drewN ?_ _)|(with_reducible refine Kd.C_drew ?_)));(case side2 => exact HC0.out);rintro e w42 ⟨rfl, hb⟩;refine ⟨_, rfl, ?_⟩;have n0_ := Aside0.mk (below_step (by repeat (first|(with_reducible first|exact HB.out|apply below_alloc|apply pw_below_drewN|apply below_drew1)|exact HB.out)) hb);clear HB;have HB := n0_;clear n0_;(try clear hb);(try clear hb2);(try clear hk);(try clear hi))|((with_reducible refine gate_callee (f := 50) rfl ?_);refine goesL_ (some 10) rfl rfl Try.func50 (by kernel_rfl) rfl #[.slice A0 l0.length c0, .string a1] rfl (by (try simp only [List.map_toArray, List.map_cons, List.map_nil]);first|done|rfl|(simp only [List.length_drop, List.length_take];rfl)) ?_;(with_reducible refine (r10_Find.calls k _ _ l0 a1 t2 _ ?side1 ?side2 A4.out).mono ?_);(case side1 => repeat (first|exact (Kd.C_below HR0.out HB.out)|(with_reducible refine Kd.C_alloc ?_ _)|(with_reducible refine Kd.C_drewN ?_ _)|(with_reducible refine Kd.C_drew ?_)));(case side2 => exact HC0.out);rintro e w' ⟨rfl, ⟨nd, rfl⟩⟩;refine ⟨_, rfl, ?_⟩))
  go_ret
  exact ⟨by first|rfl|(simp [errW_none, errW_some] <;> rfl)|(simp [*, errW_none, errW_some] <;> rfl), by repeat (first|(with_reducible first|exact HB.out|apply below_alloc|apply pw_below_drewN|apply below_drew1)|exact HB.out)⟩
end Go.Proofs.Ytcgefpklljclgaa.Print

namespace Go.Proofs.Ytcgefpklljclgaa.Print
open Go.RowKit Go.Proofs.YtcgefpklljclgaaW.PrintWords Go.Proofs.YtcgefpklljclgaaW.PrintLast Go.Proofs.YtcgefpklljclgaaW.PrintMore
attribute [local go_sem] max2_int min2_int max_two min_two max_three min_three max_four min_four   -- for this text's walks alone
set_option linter.unusedVariables false
set_option linter.unusedSimpArgs false
/-! ### law12_TreeMade: function 12 -/
/-- one thing of an item turned -/
def turnI (how b : Int) (x : S31) : S31 :=
  if how = 0 then ⟨x.f0, x.f1, x.f2, x.f3, ⟨wrap64 (x.f4.f0 + wrap64 b), x.f4.f1, x.f4.f2⟩, x.f5⟩
  else if how = 1 then ⟨x.f0, x.f1, x.f2, ⟨x.f3.f0, wrap64 (x.f3.f1 + wrap64 b), x.f3.f2⟩, x.f4, x.f5⟩
  else if how = 2 then ⟨x.f0, x.f1, ⟨x.f2.f0, x.f2.f1, Int.tmod (wrap64 b) 4⟩, x.f3, x.f4, x.f5⟩
  else if how = 3 then ⟨x.f0, strOfNums [(97 + Int.tmod b 26) % 256], x.f2, x.f3, x.f4, x.f5⟩
  else if how = 4 then ⟨strOfNums [(97 + Int.tmod b 26) % 256], x.f1, x.f2, x.f3, x.f4, x.f5⟩
  else if how = 5 then ⟨x.f0, x.f1, x.f2, x.f3, x.f4, wrap64 (wrap64 b - 2)⟩
  else ⟨x.f0, x.f0, x.f2, x.f3, x.f4, x.f5⟩
/-- the law, where it answers true -/
def law12_TreeMade.f (k : Nat) (l0 : List Int) (a1 a2 a3 : Int) : Option Bool :=
  if (l0.length : Int) > 90 then law12_awake.f k else
  (law12_Make.f k l0).bind fun l => (tree_Right.f k l).bind fun t => if t = true then ((law12_same.f k l (strOfNums [(97 + Int.tmod a1 26) % 256])).bind fun s => if s = true then ((law12_same.f k l ⟨#[]⟩).bind fun s2 => if s2 = true then
    (if (l.length : Int) = 0 then law12_awake.f k else if 0 ≤ Int.tmod (wrap64 a1) (l.length : Int) ∧ Int.tmod (wrap64 a1) (l.length : Int) < (l.length : Int) ∧ 0 ≤ Int.tmod a2 7 ∧ Int.tmod a2 7 < 7 then
      ((tree_Right.f k (l.set (Int.tmod (wrap64 a1) (l.length : Int)).toNat (turnI (Int.tmod a2 7) a3 (rd_T31 l (Int.tmod (wrap64 a1) (l.length : Int)))))).bind fun p => (r10_Right.f k (l.set (Int.tmod (wrap64 a1) (l.length : Int)).toNat (turnI (Int.tmod a2 7) a3 (rd_T31 l (Int.tmod (wrap64 a1) (l.length : Int)))))).bind fun q => if p = q then law12_awake.f k else none) else none) else none) else none) else none
set_option maxHeartbeats 8000000 in
set_option maxRecDepth 100000 in
theorem law12_TreeMade.calls (k : Nat) (A0 : Option Addr) (c0 : Nat) (l0 : List Int) (a1 a2 a3 : Int) (w : World) (hr0 : Kd.C (Kd.int .u8) w A0 l0.length l0) (hc0 : l0.length ≤ c0) (h : law12_TreeMade.f k l0 a1 a2 a3 = some true) :
    Calls Try.prog 12 #[.slice A0 l0.length c0, .int .u8 a1, .int .u8 a2, .int .u8 a3] w fun e w' => e = .returned (.bool true) ∧ Below w.heap.size w w' := by
  have hu31 := Try.underlying31
  have hu27 := Try.underlying27
  have HR0 := Aside0.mk hr0
  have HC0 := Aside0.mk hc0
  have hB : Below w.heap.size w w := Below.refl _ _
  have HB := Aside0.mk hB
  clear hr0 hc0 hB
  unfold law12_TreeMade.f at h
  by_cases h90 : (l0.length : Int) > 90
  · rw [if_pos h90] at h
    have HA := Aside0.mk h
    have c0b : decide (90 < (l0.length : Int)) = true := decide_eq_true h90
    have c1b : decide (90 < l0.length) = true := decide_eq_true (by omega)
    clear h h90
    go_enter Try.func12, Try.ntmps12
    go_wp2_with (go_at_call 67;refine (law12_awake.calls k true _ HA.out).mono ?_;rintro e w1 ⟨rfl, hb⟩;have HB1 := Aside0.mk (below_step HB.out hb);clear hb)
    go_ret
    exact ⟨rfl, HB1.out⟩
  rw [if_neg h90] at h
  have c0b : decide (90 < (l0.length : Int)) = false := decide_eq_false h90
  have c1b : decide (90 < l0.length) = false := decide_eq_false (by omega)
  obtain ⟨l, hl, h⟩ := Option.bind_eq_some_iff.1 h
  obtain ⟨t, ht, h⟩ := Option.bind_eq_some_iff.1 h
  by_cases ht1 : t = true
  case neg => rw [if_neg ht1] at h; cases h
  rw [if_pos ht1] at h
  subst ht1
  obtain ⟨s, hs, h⟩ := Option.bind_eq_some_iff.1 h
  by_cases hs1 : s = true
  case neg => rw [if_neg hs1] at h; cases h
  rw [if_pos hs1] at h
  subst hs1
  obtain ⟨s2, hs2, h⟩ := Option.bind_eq_some_iff.1 h
  by_cases hs3 : s2 = true
  case neg => rw [if_neg hs3] at h; cases h
  rw [if_pos hs3] at h
  subst hs3
  have HL := Aside0.mk hl
  have HT := Aside0.mk ht
  have HS := Aside0.mk hs
  have HS2 := Aside0.mk hs2
  have HH := Aside0.mk h
  clear h90 hl ht hs hs2 h
  go_enter Try.func12, Try.ntmps12
  go_upto_if 36 with (first
    | (go_at_call 32; refine (law12_Make.calls k _ _ l0 l _ HR0.out HC0.out HL.out).mono ?_; rintro e w1 ⟨v, rfl, ho, hb⟩; have HB1 := Aside0.mk hb; have HO1 := Aside0.mk ho; clear ho hb; obtain ⟨Ao, co, eo⟩ := Kd.R_slice HO1.out; subst eo)
    | ((with_reducible refine gate_dst (N := 21) rfl ?_);(try (refine gate_guard (by rfl) ?_;dsimp only));refine Kd.R_lit (Kd.int .u8) _ 5 ?hg (N := 21) ?hd (xs := ([(97 + Int.tmod a1 26) % 256] : List Int)) (inner := [.int .u8 ((97 + Int.tmod a1 26) % 256)]) (ok := fun _ => True) (okp := fun _ => True) ?hr ?hp (fun _ hk => hk) trivial (Below.refl _ _) (Nat.le_refl _) (by simp) ?_;(case hd => rfl);(case hg => rfl);(case hr => first|(go_simp;done)|(go_simp;rfl));(case hp => exact (Reps.one (show Kd.M (Kd.int .u8) _ _ _ ((97 + Int.tmod a1 26) % 256) [.int .u8 ((97 + Int.tmod a1 26) % 256)] from rfl) (Reps.none _ _)));intro v6 w2 ho6 hb hg_ hnew_;clear hg_ hnew_;have HB2 := Aside0.mk (below_step HB1.out hb);have HO2 := Aside0.mk (Kd.R_below HO1.out hb);clear hb;have hcv := own_string (P := Try.prog) Try.underlying22 Try.underlying5 Try.underlying9 (Kd.own_of_R ho6);clear ho6)
    | (go_at_call 68; refine (tree_Right.calls k _ _ l true _ (Kd.R_reads' HO2.out).2.2 (Kd.R_reads' HO2.out).2.1 HT.out).mono ?_; rintro e w3 ⟨rfl, hb⟩; have HB3 := Aside0.mk (below_step HB2.out hb); have HO3 := Aside0.mk (Kd.R_below HO2.out hb); clear hb)
    | (go_at_call 69; refine (law12_same.calls k _ _ l _ true _ (Kd.R_reads' HO3.out).2.2 (Kd.R_reads' HO3.out).2.1 HS.out).mono ?_; rintro e w4 ⟨rfl, hb⟩; have HB4 := Aside0.mk (below_step HB3.out hb); have HO4 := Aside0.mk (Kd.R_below HO3.out hb); clear hb HS)
    | (go_at_call 69; refine (law12_same.calls k _ _ l _ true _ (Kd.R_reads' HO4.out).2.2 (Kd.R_reads' HO4.out).2.1 HS2.out).mono ?_; rintro e w5 ⟨rfl, hb⟩; have HB5 := Aside0.mk (below_step HB4.out hb); have HO5 := Aside0.mk (Kd.R_below HO4.out hb); clear hb))
  clear HB HB1 HB2 HB3 HB4 HO1 HO2 HO3 HO4 HL HT HS2 HR0 HC0
  have h := HH.out
  clear HH
  by_cases hz : (l.length : Int) = 0
  · rw [if_pos hz] at h
    have HA := Aside0.mk h
    have c9b0 : ((l.length : Int) == 0) = true := beq_iff_eq.mpr hz
    clear h hz
    go_wp2_with (go_at_call 67;refine (law12_awake.calls k true _ HA.out).mono ?_;rintro e w1 ⟨rfl, hb⟩;have HB6 := Aside0.mk (below_step HB5.out hb);clear hb)
    go_ret
    exact ⟨rfl, HB6.out⟩
  rw [if_neg hz] at h
  by_cases hj : 0 ≤ Int.tmod (wrap64 a1) (l.length : Int) ∧ Int.tmod (wrap64 a1) (l.length : Int) < (l.length : Int) ∧ 0 ≤ Int.tmod a2 7 ∧ Int.tmod a2 7 < 7
  case neg => rw [if_neg hj] at h; cases h
  rw [if_pos hj] at h
  obtain ⟨hj0, hj1, hh0, hh1⟩ := hj
  have c9b0 : ((l.length : Int) == 0) = false := beq_eq_false_iff_ne.mpr hz
  have c9b1 : ((l.length : Int) != 0) = true := bne_iff_ne.mpr hz
  have c9b2 : ¬ (l = []) := fun h_ => hz (by rw [h_]; rfl)
  obtain ⟨gb, cap, hv, hgb, hgl⟩ := row_head HO5.out (by omega)
  obtain ⟨rfl, -, rfl⟩ : Ao = some ⟨gb, 0, none⟩ ∧ l.length = l.length ∧ co = cap := by
    injection hv with e1 e2 e3
    exact ⟨e1, rfl, e3⟩
  obtain ⟨j, hje⟩ : ∃ j, Int.tmod (wrap64 a1) (l.length : Int) = j := ⟨_, rfl⟩
  rw [hje] at h hj0 hj1
  obtain ⟨ad2, cc, e3, hcl, hK, hcc0⟩ := Kd.C_get (Kd.R_reads' HO5.out).2.2 z31 j hj0 hj1
  cases e3
  have hcc : ∀ j' u, cc[j']? = some u → w5.cell? (Addr.add ⟨gb, 0, none⟩ (j.toNat * 12 + j')) = some u := hcc0
  obtain rfl := k31_open hK
  have hy0 : l.getD j.toNat z31 = rd_T31 l j := rfl
  rw [hy0] at hcc
  generalize hy : rd_T31 l j = y at hcc h
  have HCJ := Aside0.mk (show ∀ j' u, (itemCells y).toList[j']? = some u → w5.cell? ⟨gb, j.toNat * 12 + j', none⟩ = some u from fun j' u hu => by
    have := hcc j' u hu
    rwa [Addr.add_lit, Nat.zero_add] at this)
  have k0 : w5.cell? ⟨gb, j.toNat * 12, none⟩ = some (.string y.f0) := HCJ.out 0 _ rfl
  have k8 : w5.cell? ⟨gb, j.toNat * 12 + 8, none⟩ = some (.int .i64 y.f4.f0) := HCJ.out 8 _ rfl
  have k6 : w5.cell? ⟨gb, j.toNat * 12 + 5 + 1, none⟩ = some (.int .i64 y.f3.f1) := HCJ.out 6 _ rfl
  have HJ0 := Aside0.mk hj0
  have HJ1 := Aside0.mk hj1
  have q0 := eq_true hj0
  have q1 := eq_true hj1
  obtain ⟨p, hp, h⟩ := Option.bind_eq_some_iff.1 h
  obtain ⟨q, hq, h⟩ := Option.bind_eq_some_iff.1 h
  by_cases hpq : p = q
  case neg => rw [if_neg hpq] at h; cases h
  rw [if_pos hpq] at h
  subst hpq
  have HP := Aside0.mk hp
  have HQ := Aside0.mk hq
  have HA := Aside0.mk h
  clear hv hcl hK hcc0 hcc hy0 hy hp hq h hz hj0 hj1
  obtain ⟨hw, hhw⟩ : ∃ hw, Int.tmod a2 7 = hw := ⟨_, rfl⟩
  rw [hhw] at HP HQ hh0 hh1
  have hje' : Int.tmod (IntKind.i64.wrap a1) (l.length : Int) = j := by rw [i64_w]; exact hje
  have fin : ∀ (it : S31), turnI hw a3 y = it → ∀ wz : World, Kd.R k31 31 wz w.heap.size (fun _ => True) (.slice (some ⟨gb, 0, none⟩) l.length co) (l.set j.toNat it) →
      Aside0 (∀ W', Below wz.heap.size wz W' → Calls Try.prog 68 #[.slice (some ⟨gb, 0, none⟩) l.length co] W' fun e w' => e = .returned (.bool p) ∧ Below W'.heap.size W' w') ∧
      Aside0 (∀ W', Below wz.heap.size wz W' → Calls Try.prog 41 #[.slice (some ⟨gb, 0, none⟩) l.length co] W' fun e w' => e = .returned (.bool p) ∧ Below W'.heap.size W' w') := fun it e wz hoz => by
    subst e
    have hlen : (l.set j.toNat (turnI hw a3 y)).length = l.length := List.length_set
    have h3 := (Kd.R_reads' hoz).2.2
    have h2 : l.length ≤ co := (Kd.R_reads' hoz).2.1
    refine ⟨⟨fun W' hb => ?_⟩, ⟨fun W' hb => ?_⟩⟩
    · have := tree_Right.calls k (some ⟨gb, 0, none⟩) co (l.set j.toNat (turnI hw a3 y)) p W' (by rw [hlen]; rw [hlen] at h3; exact Kd.C_below h3 hb) (by rw [hlen]; exact h2) HP.out
      rw [hlen] at this
      exact this
    · have := r10_Right.calls k (some ⟨gb, 0, none⟩) co (l.set j.toNat (turnI hw a3 y)) p W' (by rw [hlen]; rw [hlen] at h3; exact Kd.C_below h3 hb) (by rw [hlen]; exact h2) HQ.out
      rw [hlen] at this
      exact this
  have FIN := Aside0.mk fin
  clear HP HQ fin
  go_upto_region 10 with (fail)
  clear c0b c1b c9b0 c9b1 c9b2 hje hje'
  have hcase : hw = 0 ∨ hw = 1 ∨ hw = 2 ∨ hw = 3 ∨ hw = 4 ∨ hw = 5 ∨ hw = 6 := by omega
  clear hh0 hh1
  rcases hcase with rfl | rfl | rfl | rfl | rfl | rfl | rfl
  · go_wp2_with (first
      | ((with_reducible refine gate_store (t := 3) (p := 70) (v := .tmp 67) rfl ?_);go_must (refine Kd.R_store k31 (w0 := w5) (w.heap.size) rfl rfl 3 (.tmp 70) (.tmp 67) rfl 31 (g := gb) (n := l.length) (cap := co) (o' := j.toNat * 12 + 8) j 8 l (⟨y.f0, y.f1, y.f2, y.f3, ⟨wrap64 (y.f4.f0 + wrap64 a3), y.f4.f1, y.f4.f2⟩, y.f5⟩) (.int .i64 (wrap64 (y.f4.f0 + wrap64 a3))) [.int .i64 (wrap64 (y.f4.f0 + wrap64 a3))] (itemCells y).toList (fun _ => True) (fun _ => False) rfl rfl rfl rfl ?ct ?c1 HO5.out ?c2 ?c3 rfl HCJ.out (by show 8 + 1 ≤ 12;omega) ?cM (fun _ h => h.elim) (Below.refl _ _) ?_);(case ct => kernel_rfl);(case c1 => intro q hq;simp only [List.mem_cons, List.not_mem_nil, or_false] at hq;subst hq;rfl);(case c2 => exact HJ0.out);(case c3 => exact HJ1.out);(case cM => exact k31_mkM _ _ _ (⟨y.f0, y.f1, y.f2, y.f3, ⟨wrap64 (y.f4.f0 + wrap64 a3), y.f4.f1, y.f4.f2⟩, y.f5⟩));intro w7 ho hb hg;have HB7 := Aside0.mk (pw_below_grown HB5.out (some gb) HB5.out.size hg (fun k e => by cases e;omega));obtain ⟨HT7, HQ7⟩ := FIN.out (⟨y.f0, y.f1, y.f2, y.f3, ⟨wrap64 (y.f4.f0 + wrap64 a3), y.f4.f1, y.f4.f2⟩, y.f5⟩) (by simp [turnI]) w7 ho;clear ho hb hg)
      | (go_at_call 68; refine (HT7.out _ (Below.refl _ _)).mono ?_; rintro e w8 ⟨rfl, hb⟩; have HB8 := Aside0.mk (below_step HB7.out hb); have HBQ := Aside0.mk hb; clear hb)
      | (go_at_call 41; refine (HQ7.out _ HBQ.out).mono ?_; rintro e w9 ⟨rfl, hb⟩; have HB9 := Aside0.mk (below_step HB8.out hb); clear hb)
      | (go_at_call 67; refine (law12_awake.calls k true _ HA.out).mono ?_; rintro e w10 ⟨rfl, hb⟩; have HB10 := Aside0.mk (below_step HB9.out hb); clear hb))
    go_ret
    exact ⟨rfl, HB10.out⟩
  · go_wp2_with (first
      | ((with_reducible refine gate_store (t := 3) (p := 84) (v := .tmp 81) rfl ?_);go_must (refine Kd.R_store k31 (w0 := w5) (w.heap.size) rfl rfl 3 (.tmp 84) (.tmp 81) rfl 31 (g := gb) (n := l.length) (cap := co) (o' := j.toNat * 12 + 5 + 1) j 6 l (⟨y.f0, y.f1, y.f2, ⟨y.f3.f0, wrap64 (y.f3.f1 + wrap64 a3), y.f3.f2⟩, y.f4, y.f5⟩) (.int .i64 (wrap64 (y.f3.f1 + wrap64 a3))) [.int .i64 (wrap64 (y.f3.f1 + wrap64 a3))] (itemCells y).toList (fun _ => True) (fun _ => False) rfl rfl rfl rfl ?ct ?c1 HO5.out ?c2 ?c3 rfl HCJ.out (by show 6 + 1 ≤ 12;omega) ?cM (fun _ h => h.elim) (Below.refl _ _) ?_);(case ct => kernel_rfl);(case c1 => intro q hq;simp only [List.mem_cons, List.not_mem_nil, or_false] at hq;subst hq;rfl);(case c2 => exact HJ0.out);(case c3 => exact HJ1.out);(case cM => exact k31_mkM _ _ _ (⟨y.f0, y.f1, y.f2, ⟨y.f3.f0, wrap64 (y.f3.f1 + wrap64 a3), y.f3.f2⟩, y.f4, y.f5⟩));intro w7 ho hb hg;have HB7 := Aside0.mk (pw_below_grown HB5.out (some gb) HB5.out.size hg (fun k e => by cases e;omega));obtain ⟨HT7, HQ7⟩ := FIN.out (⟨y.f0, y.f1, y.f2, ⟨y.f3.f0, wrap64 (y.f3.f1 + wrap64 a3), y.f3.f2⟩, y.f4, y.f5⟩) (by simp [turnI]) w7 ho;clear ho hb hg)
      | (go_at_call 68; refine (HT7.out _ (Below.refl _ _)).mono ?_; rintro e w8 ⟨rfl, hb⟩; have HB8 := Aside0.mk (below_step HB7.out hb); have HBQ := Aside0.mk hb; clear hb)
      | (go_at_call 41; refine (HQ7.out _ HBQ.out).mono ?_; rintro e w9 ⟨rfl, hb⟩; have HB9 := Aside0.mk (below_step HB8.out hb); clear hb)
      | (go_at_call 67; refine (law12_awake.calls k true _ HA.out).mono ?_; rintro e w10 ⟨rfl, hb⟩; have HB10 := Aside0.mk (below_step HB9.out hb); clear hb))
    go_ret
    exact ⟨rfl, HB10.out⟩
  · go_wp2_with (first
      | ((with_reducible refine gate_store (t := 3) (p := 93) (v := .tmp 90) rfl ?_);go_must (refine Kd.R_store k31 (w0 := w5) (w.heap.size) rfl rfl 3 (.tmp 93) (.tmp 90) rfl 31 (g := gb) (n := l.length) (cap := co) (o' := j.toNat * 12 + 2 + 2) j 4 l (⟨y.f0, y.f1, ⟨y.f2.f0, y.f2.f1, Int.tmod (wrap64 a3) 4⟩, y.f3, y.f4, y.f5⟩) (.int .i64 (Int.tmod (wrap64 a3) 4)) [.int .i64 (Int.tmod (wrap64 a3) 4)] (itemCells y).toList (fun _ => True) (fun _ => False) rfl rfl rfl rfl ?ct ?c1 HO5.out ?c2 ?c3 rfl HCJ.out (by show 4 + 1 ≤ 12;omega) ?cM (fun _ h => h.elim) (Below.refl _ _) ?_);(case ct => kernel_rfl);(case c1 => intro q hq;simp only [List.mem_cons, List.not_mem_nil, or_false] at hq;subst hq;rfl);(case c2 => exact HJ0.out);(case c3 => exact HJ1.out);(case cM => exact k31_mkM _ _ _ (⟨y.f0, y.f1, ⟨y.f2.f0, y.f2.f1, Int.tmod (wrap64 a3) 4⟩, y.f3, y.f4, y.f5⟩));intro w7 ho hb hg;have HB7 := Aside0.mk (pw_below_grown HB5.out (some gb) HB5.out.size hg (fun k e => by cases e;omega));obtain ⟨HT7, HQ7⟩ := FIN.out (⟨y.f0, y.f1, ⟨y.f2.f0, y.f2.f1, Int.tmod (wrap64 a3) 4⟩, y.f3, y.f4, y.f5⟩) (by simp [turnI]) w7 ho;clear ho hb hg)
      | (go_at_call 68; refine (HT7.out _ (Below.refl _ _)).mono ?_; rintro e w8 ⟨rfl, hb⟩; have HB8 := Aside0.mk (below_step HB7.out hb); have HBQ := Aside0.mk hb; clear hb)
      | (go_at_call 41; refine (HQ7.out _ HBQ.out).mono ?_; rintro e w9 ⟨rfl, hb⟩; have HB9 := Aside0.mk (below_step HB8.out hb); clear hb)
      | (go_at_call 67; refine (law12_awake.calls k true _ HA.out).mono ?_; rintro e w10 ⟨rfl, hb⟩; have HB10 := Aside0.mk (below_step HB9.out hb); clear hb))
    go_ret
    exact ⟨rfl, HB10.out⟩
  · go_wp2_with (first
      | ((with_reducible refine gate_dst (N := 100) rfl ?_);(try (refine gate_guard (by rfl) ?_;dsimp only));refine Kd.R_lit (Kd.int .u8) _ 5 ?hg (N := 100) ?hd (xs := ([(97 + Int.tmod a3 26) % 256] : List Int)) (inner := [.int .u8 ((97 + Int.tmod a3 26) % 256)]) (ok := fun _ => True) (okp := fun _ => True) ?hr ?hp (fun _ hk => hk) trivial (Below.refl _ _) (Nat.le_refl _) (by simp) ?_;(case hd => rfl);(case hg => rfl);(case hr => first|(go_simp;done)|(go_simp;rfl));(case hp => exact (Reps.one (show Kd.M (Kd.int .u8) _ _ _ ((97 + Int.tmod a3 26) % 256) [.int .u8 ((97 + Int.tmod a3 26) % 256)] from rfl) (Reps.none _ _)));intro v7 w6 ho6 hb hg_ hnew_;clear hg_ hnew_;have HB6 := Aside0.mk (below_step HB5.out hb);have HO6 := Aside0.mk (Kd.R_below HO5.out hb);have HC6 := Aside0.mk (fun j' u hu => (hb.cell (p := ⟨gb, j.toNat * 12 + j', none⟩) hgl).trans (HCJ.out j' u hu));have hgl6 : gb < w6.heap.size := Nat.lt_of_lt_of_le hgl hb.size;clear hb;have hcv := own_string (P := Try.prog) Try.underlying22 Try.underlying5 Try.underlying9 (Kd.own_of_R ho6);clear ho6)
      | ((with_reducible refine gate_store (t := 9) (p := 103) (v := .tmp 101) rfl ?_);go_must (refine Kd.R_store k31 (w0 := w6) (w.heap.size) rfl rfl 9 (.tmp 103) (.tmp 101) rfl 31 (g := gb) (n := l.length) (cap := co) (o' := j.toNat * 12 + 1) j 1 l (⟨y.f0, strOfNums [(97 + Int.tmod a3 26) % 256], y.f2, y.f3, y.f4, y.f5⟩) (.string (strOfNums [(97 + Int.tmod a3 26) % 256])) [.string (strOfNums [(97 + Int.tmod a3 26) % 256])] (itemCells y).toList (fun _ => True) (fun _ => False) rfl rfl rfl rfl ?ct ?c1 HO6.out ?c2 ?c3 rfl HC6.out (by show 1 + 1 ≤ 12;omega) ?cM (fun _ h => h.elim) (Below.refl _ _) ?_);(case ct => kernel_rfl);(case c1 => intro q hq;simp only [List.mem_cons, List.not_mem_nil, or_false] at hq;subst hq;rfl);(case c2 => exact HJ0.out);(case c3 => exact HJ1.out);(case cM => exact k31_mkM _ _ _ (⟨y.f0, strOfNums [(97 + Int.tmod a3 26) % 256], y.f2, y.f3, y.f4, y.f5⟩));intro w7 ho hb hg;have HB7 := Aside0.mk (pw_below_grown HB6.out (some gb) HB6.out.size hg (fun k e => by cases e;omega));obtain ⟨HT7, HQ7⟩ := FIN.out (⟨y.f0, strOfNums [(97 + Int.tmod a3 26) % 256], y.f2, y.f3, y.f4, y.f5⟩) (by simp [turnI]) w7 ho;clear ho hb hg)
      | (go_at_call 68; refine (HT7.out _ (Below.refl _ _)).mono ?_; rintro e w8 ⟨rfl, hb⟩; have HB8 := Aside0.mk (below_step HB7.out hb); have HBQ := Aside0.mk hb; clear hb)
      | (go_at_call 41; refine (HQ7.out _ HBQ.out).mono ?_; rintro e w9 ⟨rfl, hb⟩; have HB9 := Aside0.mk (below_step HB8.out hb); clear hb)
      | (go_at_call 67; refine (law12_awake.calls k true _ HA.out).mono ?_; rintro e w10 ⟨rfl, hb⟩; have HB10 := Aside0.mk (below_step HB9.out hb); clear hb))
    go_ret
    exact ⟨rfl, HB10.out⟩
  · go_wp2_with (first
      | ((with_reducible refine gate_dst (N := 110) rfl ?_);(try (refine gate_guard (by rfl) ?_;dsimp only));refine Kd.R_lit (Kd.int .u8) _ 5 ?hg (N := 110) ?hd (xs := ([(97 + Int.tmod a3 26) % 256] : List Int)) (inner := [.int .u8 ((97 + Int.tmod a3 26) % 256)]) (ok := fun _ => True) (okp := fun _ => True) ?hr ?hp (fun _ hk => hk) trivial (Below.refl _ _) (Nat.le_refl _) (by simp) ?_;(case hd => rfl);(case hg => rfl);(case hr => first|(go_simp;done)|(go_simp;rfl));(case hp => exact (Reps.one (show Kd.M (Kd.int .u8) _ _ _ ((97 + Int.tmod a3 26) % 256) [.int .u8 ((97 + Int.tmod a3 26) % 256)] from rfl) (Reps.none _ _)));intro v7 w6 ho6 hb hg_ hnew_;clear hg_ hnew_;have HB6 := Aside0.mk (below_step HB5.out hb);have HO6 := Aside0.mk (Kd.R_below HO5.out hb);have HC6 := Aside0.mk (fun j' u hu => (hb.cell (p := ⟨gb, j.toNat * 12 + j', none⟩) hgl).trans (HCJ.out j' u hu));have hgl6 : gb < w6.heap.size := Nat.lt_of_lt_of_le hgl hb.size;clear hb;have hcv := own_string (P := Try.prog) Try.underlying22 Try.underlying5 Try.underlying9 (Kd.own_of_R ho6);clear ho6)
      | ((with_reducible refine gate_store (t := 9) (p := 113) (v := .tmp 111) rfl ?_);go_must (refine Kd.R_store k31 (w0 := w6) (w.heap.size) rfl rfl 9 (.tmp 113) (.tmp 111) rfl 31 (g := gb) (n := l.length) (cap := co) (o' := j.toNat * 12) j 0 l (⟨strOfNums [(97 + Int.tmod a3 26) % 256], y.f1, y.f2, y.f3, y.f4, y.f5⟩) (.string (strOfNums [(97 + Int.tmod a3 26) % 256])) [.string (strOfNums [(97 + Int.tmod a3 26) % 256])] (itemCells y).toList (fun _ => True) (fun _ => False) rfl rfl rfl rfl ?ct ?c1 HO6.out ?c2 ?c3 rfl HC6.out (by show 0 + 1 ≤ 12;omega) ?cM (fun _ h => h.elim) (Below.refl _ _) ?_);(case ct => kernel_rfl);(case c1 => intro q hq;simp only [List.mem_cons, List.not_mem_nil, or_false] at hq;subst hq;rfl);(case c2 => exact HJ0.out);(case c3 => exact HJ1.out);(case cM => exact k31_mkM _ _ _ (⟨strOfNums [(97 + Int.tmod a3 26) % 256], y.f1, y.f2, y.f3, y.f4, y.f5⟩));intro w7 ho hb hg;have HB7 := Aside0.mk (pw_below_grown HB6.out (some gb) HB6.out.size hg (fun k e => by cases e;omega));obtain ⟨HT7, HQ7⟩ := FIN.out (⟨strOfNums [(97 + Int.tmod a3 26) % 256], y.f1, y.f2, y.f3, y.f4, y.f5⟩) (by simp [turnI]) w7 ho;clear ho hb hg)
      | (go_at_call 68; refine (HT7.out _ (Below.refl _ _)).mono ?_; rintro e w8 ⟨rfl, hb⟩; have HB8 := Aside0.mk (below_step HB7.out hb); have HBQ := Aside0.mk hb; clear hb)
      | (go_at_call 41; refine (HQ7.out _ HBQ.out).mono ?_; rintro e w9 ⟨rfl, hb⟩; have HB9 := Aside0.mk (below_step HB8.out hb); clear hb)
      | (go_at_call 67; refine (law12_awake.calls k true _ HA.out).mono ?_; rintro e w10 ⟨rfl, hb⟩; have HB10 := Aside0.mk (below_step HB9.out hb); clear hb))
    go_ret
    exact ⟨rfl, HB10.out⟩
  · go_wp2_with (first
      | ((with_reducible refine gate_store (t := 3) (p := 121) (v := .tmp 119) rfl ?_);go_must (refine Kd.R_store k31 (w0 := w5) (w.heap.size) rfl rfl 3 (.tmp 121) (.tmp 119) rfl 31 (g := gb) (n := l.length) (cap := co) (o' := j.toNat * 12 + 11) j 11 l (⟨y.f0, y.f1, y.f2, y.f3, y.f4, wrap64 (wrap64 a3 - 2)⟩) (.int .i64 (wrap64 (wrap64 a3 - 2))) [.int .i64 (wrap64 (wrap64 a3 - 2))] (itemCells y).toList (fun _ => True) (fun _ => False) rfl rfl rfl rfl ?ct ?c1 HO5.out ?c2 ?c3 rfl HCJ.out (by show 11 + 1 ≤ 12;omega) ?cM (fun _ h => h.elim) (Below.refl _ _) ?_);(case ct => kernel_rfl);(case c1 => intro q hq;simp only [List.mem_cons, List.not_mem_nil, or_false] at hq;subst hq;rfl);(case c2 => exact HJ0.out);(case c3 => exact HJ1.out);(case cM => exact k31_mkM _ _ _ (⟨y.f0, y.f1, y.f2, y.f3, y.f4, wrap64 (wrap64 a3 - 2)⟩));intro w7 ho hb hg;have HB7 := Aside0.mk (pw_below_grown HB5.out (some gb) HB5.out.size hg (fun k e => by cases e;omega));obtain ⟨HT7, HQ7⟩ := FIN.out (⟨y.f0, y.f1, y.f2, y.f3, y.f4, wrap64 (wrap64 a3 - 2)⟩) (by simp [turnI]) w7 ho;clear ho hb hg)
      | (go_at_call 68; refine (HT7.out _ (Below.refl _ _)).mono ?_; rintro e w8 ⟨rfl, hb⟩; have HB8 := Aside0.mk (below_step HB7.out hb); have HBQ := Aside0.mk hb; clear hb)
      | (go_at_call 41; refine (HQ7.out _ HBQ.out).mono ?_; rintro e w9 ⟨rfl, hb⟩; have HB9 := Aside0.mk (below_step HB8.out hb); clear hb)
      | (go_at_call 67; refine (law12_awake.calls k true _ HA.out).mono ?_; rintro e w10 ⟨rfl, hb⟩; have HB10 := Aside0.mk (below_step HB9.out hb); clear hb))
    go_ret
    exact ⟨rfl, HB10.out⟩
  · go_wp2_with (first
      | ((with_reducible refine gate_store (t := 9) (p := 56) (v := .tmp 54) rfl ?_);go_must (refine Kd.R_store k31 (w0 := w5) (w.heap.size) rfl rfl 9 (.tmp 56) (.tmp 54) rfl 31 (g := gb) (n := l.length) (cap := co) (o' := j.toNat * 12 + 1) j 1 l (⟨y.f0, y.f0, y.f2, y.f3, y.f4, y.f5⟩) (.string y.f0) [.string y.f0] (itemCells y).toList (fun _ => True) (fun _ => False) rfl rfl rfl rfl ?ct ?c1 HO5.out ?c2 ?c3 rfl HCJ.out (by show 1 + 1 ≤ 12;omega) ?cM (fun _ h => h.elim) (Below.refl _ _) ?_);(case ct => kernel_rfl);(case c1 => intro q hq;simp only [List.mem_cons, List.not_mem_nil, or_false] at hq;subst hq;rfl);(case c2 => exact HJ0.out);(case c3 => exact HJ1.out);(case cM => exact k31_mkM _ _ _ (⟨y.f0, y.f0, y.f2, y.f3, y.f4, y.f5⟩));intro w7 ho hb hg;have HB7 := Aside0.mk (pw_below_grown HB5.out (some gb) HB5.out.size hg (fun k e => by cases e;omega));obtain ⟨HT7, HQ7⟩ := FIN.out (⟨y.f0, y.f0, y.f2, y.f3, y.f4, y.f5⟩) (by simp [turnI]) w7 ho;clear ho hb hg)
      | (go_at_call 68; refine (HT7.out _ (Below.refl _ _)).mono ?_; rintro e w8 ⟨rfl, hb⟩; have HB8 := Aside0.mk (below_step HB7.out hb); have HBQ := Aside0.mk hb; clear hb)
      | (go_at_call 41; refine (HQ7.out _ HBQ.out).mono ?_; rintro e w9 ⟨rfl, hb⟩; have HB9 := Aside0.mk (below_step HB8.out hb); clear hb)
      | (go_at_call 67; refine (law12_awake.calls k true _ HA.out).mono ?_; rintro e w10 ⟨rfl, hb⟩; have HB10 := Aside0.mk (below_step HB9.out hb); clear hb))
    go_ret
    exact ⟨rfl, HB10.out⟩
def law12_TreeMade.Pure : Prop := ∀ (l0 : List Int) (a1 : Int) (a2 : Int) (a3 : Int), l0.length ≤ maxLen → l0.length * 1 ≤ 140737488351232 → (∀ x ∈ l0, (Lit.int .u8 x).wf = true) → (Lit.int .u8 a1).wf = true → (Lit.int .u8 a2).wf = true → (Lit.int .u8 a3).wf = true → ∃ k, law12_TreeMade.f k l0 a1 a2 a3 = some true
theorem law12_TreeMade.walk (P : law12_TreeMade.Pure) (a0 : Option Addr) (len0 cap0 : Nat) (z0 : List Int) (a1 : Int) (a2 : Int) (a3 : Int) (w : World) (w0 : (a0 = none ∧ len0 = 0 ∧ cap0 = 0 ∧ z0 = []) ∨ ∃ x, a0 = some x ∧ len0 ≤ cap0 ∧ cap0 ≤ maxLen ∧ z0.length = cap0 ∧ (∀ i, i < z0.length → w.cell? (x.add i) = some (.int .u8 (z0.getD i 0))) ∧ ∀ n ∈ z0, (Lit.int .u8 n).wf = true) (y0 : len0 * 1 ≤ 140737488351232) (w1 : (Lit.int .u8 a1).wf = true) (w2 : (Lit.int .u8 a2).wf = true) (w3 : (Lit.int .u8 a3).wf = true) :
    Calls Try.prog 12 #[.slice a0 len0 cap0, .int .u8 a1, .int .u8 a2, .int .u8 a3] w fun e w' => e = .returned (.bool true) ∧ Below w.heap.size w w' := by
  obtain ⟨l0, rfl, hr0, hm0, hw0, hc0⟩ := ReadsInt.ofRowC w0
  obtain ⟨k, h⟩ := P l0 a1 a2 a3 hm0 y0 hw0 w1 w2 w3
  refine (law12_TreeMade.calls k _ _ l0 a1 a2 a3 w (Kd.C_of_reads (d := (0 : Int)) (h1 := fun _ => rfl) hr0) hc0 h).mono ?_
  rintro e w' ⟨rfl, hd⟩
  exact ⟨rfl, hd⟩
end Go.Proofs.Ytcgefpklljclgaa.Print

namespace Go.Proofs.Ytcgefpklljclgaa.Print
open Go.RowKit Go.Proofs.YtcgefpklljclgaaW.PrintWords Go.Proofs.YtcgefpklljclgaaW.PrintLast
set_option linter.unusedVariables false
set_option linter.unusedSimpArgs false
abbrev Item := S31
abbrev Vec := S27
abbrev zItem : Item := z31
theorem rd_item (l : List Item) (i : Int) : rd_T31 l i = l.getD i.toNat zItem := rfl
instance baLawful : LawfulBEq ByteArray where
  eq_of_beq {a b} h := by
    obtain ⟨a⟩ := a
    obtain ⟨b⟩ := b
    have : (a == b) = true := h
    rw [eq_of_beq this]
  rfl {a} := by
    obtain ⟨a⟩ := a
    show (a == a) = true
    exact beq_self_eq_true a
/-- a name is its bytes -/
theorem nm_inj {a b : ByteArray} : a.toList = b.toList ↔ a = b := by
  constructor
  · intro h
    rw [ByteArray.toList_eq, ByteArray.toList_eq] at h
    exact ByteArray.ext (Array.toList_inj.1 h)
  · rintro rfl; rfl
theorem nm_beq (a b : ByteArray) : (a.toList == b.toList) = decide (a = b) := by
  rw [Bool.eq_iff_iff, beq_iff_eq, nm_inj, decide_eq_true_iff]
theorem nm_empty {a : ByteArray} : a.toList = ([] : List UInt8) ↔ a = ⟨#[]⟩ := by
  rw [← nm_inj]; rw [show (ByteArray.mk #[]).toList = [] from by rw [ByteArray.toList_eq]]
theorem w64 {n : Int} (h0 : -9223372036854775808 ≤ n) (h1 : n ≤ 9223372036854775807) : wrap64 n = n := by unfold wrap64; omega
/-! the place of a name -/
def look (l : List Item) (n : ByteArray) : Option Item := l.find? (fun x => x.f0 = n)
def fnd (l : List Item) (n : ByteArray) : Int := fidx (fun x : Item => x.f0.toList == n.toList) l 0
theorem fidx_none {α : Type} {p : α → Bool} : ∀ {l : List α} {i : Int}, (∀ x ∈ l, p x = false) → fidx p l i = -1
  | [], _, _ => rfl
  | x :: l, i, h => by
    unfold fidx
    rw [if_neg (by rw [h x (by simp)]; simp)]
    exact fidx_none (fun y hy => h y (by simp [hy]))
theorem fidx_some {α : Type} {p : α → Bool} (z : α) : ∀ {l : List α} {i : Int} {x : α}, l.find? p = some x → ∃ j : Nat, j < l.length ∧ fidx p l i = i + j ∧ l.getD j z = x ∧ p x = true ∧ ∀ m, m < j → p (l.getD m z) = false
  | [], _, _, h => by simp at h
  | y :: l, i, x, h => by
    unfold fidx
    by_cases hy : p y = true
    · rw [if_pos hy]
      simp only [List.find?_cons, hy] at h
      obtain rfl := Option.some.inj h
      exact ⟨0, by simp, by simp, by simp, hy, fun m hm => by omega⟩
    · rw [if_neg hy]
      have hy' : p y = false := by simpa using hy
      simp only [List.find?_cons, hy'] at h
      obtain ⟨j, hj, h1, h2, h3, h4⟩ := fidx_some z (i := i + 1) h
      refine ⟨j + 1, by simp; omega, by rw [h1]; omega, by simpa using h2, h3, fun m hm => ?_⟩
      cases m with
      | zero => simpa using hy'
      | succ m => simpa using h4 m (by omega)
theorem look_pred (n : ByteArray) : (fun x : Item => x.f0.toList == n.toList) = (fun x : Item => decide (x.f0 = n)) := by
  funext x; exact nm_beq _ _
theorem look_mem {l : List Item} {n : ByteArray} {x : Item} (h : look l n = some x) : x ∈ l ∧ x.f0 = n := by
  unfold look at h
  exact ⟨List.mem_of_find?_eq_some h, by simpa using List.find?_some h⟩
theorem look_none {l : List Item} {n : ByteArray} : look l n = none ↔ ∀ x ∈ l, x.f0 ≠ n := by
  unfold look
  simp
theorem fnd_none {l : List Item} {n : ByteArray} (h : look l n = none) : fnd l n = -1 := by
  unfold fnd
  refine fidx_none fun x hx => ?_
  rw [nm_beq]
  simpa using look_none.1 h x hx
theorem fnd_some {l : List Item} {n : ByteArray} {x : Item} (h : look l n = some x) : ∃ j : Nat, j < l.length ∧ fnd l n = j ∧ l.getD j zItem = x ∧ x.f0 = n ∧ ∀ m, m < j → (l.getD m zItem).f0 ≠ n := by
  have h' : l.find? (fun x : Item => x.f0.toList == n.toList) = some x := by rw [look_pred]; exact h
  obtain ⟨j, h1, h2, h3, h4, h5⟩ := fidx_some zItem (i := 0) h'
  refine ⟨j, h1, by unfold fnd; rw [h2]; omega, h3, by simpa [nm_beq] using h4, fun m hm => ?_⟩
  simpa [nm_beq] using h5 m hm
theorem fnd_lt (l : List Item) (n : ByteArray) : fnd l n < l.length := by
  cases h : look l n with
  | none => rw [fnd_none h]; omega
  | some x => obtain ⟨j, h1, h2, _⟩ := fnd_some h; omega
theorem fnd_neg {l : List Item} {n : ByteArray} : fnd l n < 0 ↔ look l n = none := by
  cases h : look l n with
  | none => rw [fnd_none h]; simp
  | some x => obtain ⟨j, h1, h2, _⟩ := fnd_some h; simp; omega
theorem fnd_ge {l : List Item} {n : ByteArray} : 0 ≤ fnd l n ↔ ∃ x, look l n = some x := by
  cases h : look l n with
  | none => rw [fnd_none h]; simp
  | some x => obtain ⟨j, h1, h2, _⟩ := fnd_some h; simp; omega
theorem fnd_rd {l : List Item} {n : ByteArray} {x : Item} (h : look l n = some x) : rd_T31 l (fnd l n) = x := by
  obtain ⟨j, h1, h2, h3, _⟩ := fnd_some h
  rw [rd_item, h2, Int.toNat_natCast]; exact h3
theorem tree_Find_eq (l : List Item) (n : ByteArray) : tree_Find.f l n = some (fnd l n) := rfl
/-! the way up -/
inductive Chain (l : List Item) : ByteArray → List ByteArray → Prop where
  | nil {n : ByteArray} : look l n = none → Chain l n []
  | cons {n : ByteArray} {x : Item} {us : List ByteArray} : look l n = some x → Chain l x.f1 us → Chain l n (n :: us)
def upGo (l : List Item) : Nat → ByteArray → List ByteArray
  | 0, _ => []
  | m + 1, n => match look l n with
    | none => []
    | some x => n :: upGo l m x.f1
def up (l : List Item) (n : ByteArray) : List ByteArray := upGo l (l.length + 1) n
theorem upGo_len (l : List Item) : ∀ (m : Nat) (n : ByteArray), (upGo l m n).length ≤ m
  | 0, _ => by simp [upGo]
  | m + 1, n => by
    unfold upGo
    cases look l n with
    | none => simp
    | some x => have := upGo_len l m x.f1; simp; omega
theorem up_len (l : List Item) (n : ByteArray) : (up l n).length ≤ l.length + 1 := upGo_len l _ n
theorem upGo_none {l : List Item} {n : ByteArray} (h : look l n = none) (m : Nat) : upGo l m n = [] := by
  cases m with
  | zero => rfl
  | succ m => unfold upGo; rw [h]
theorem upGo_some {l : List Item} {n : ByteArray} {x : Item} (h : look l n = some x) (m : Nat) : upGo l (m + 1) n = n :: upGo l m x.f1 := by
  rw [upGo.eq_2, h]
theorem Chain.det {l : List Item} {n : ByteArray} {us : List ByteArray} (h : Chain l n us) : ∀ {vs : List ByteArray}, Chain l n vs → us = vs := by
  induction h with
  | nil h =>
    intro vs k
    cases k with
    | nil _ => rfl
    | cons k _ => rw [h] at k; cases k
  | cons h _ ih =>
    intro vs k
    cases k with
    | nil k => rw [h] at k; cases k
    | cons k k2 =>
      rw [h] at k
      cases k
      rw [ih k2]
theorem Chain.upGo {l : List Item} {n : ByteArray} {us : List ByteArray} (h : Chain l n us) : ∀ m, us.length ≤ m → upGo l m n = us := by
  induction h with
  | nil h => intro m _; exact upGo_none h m
  | cons h _ ih =>
    intro m hm
    cases m with
    | zero => simp at hm
    | succ m =>
      rw [upGo_some h, ih m (by simpa using hm)]
theorem upGo_chain (l : List Item) : ∀ (m : Nat) (n : ByteArray), (upGo l m n).length < m → Chain l n (upGo l m n)
  | 0, _, h => by simp [upGo] at h
  | m + 1, n, h => by
    cases hl : look l n with
    | none => rw [upGo_none hl]; exact .nil hl
    | some x =>
      rw [upGo_some hl] at h ⊢
      exact .cons hl (upGo_chain l m x.f1 (by simpa using h))
theorem up_chain {l : List Item} {n : ByteArray} (h : (up l n).length ≤ l.length) : Chain l n (up l n) := upGo_chain l _ n (by unfold up at h; omega)
theorem Chain.suffix {l : List Item} {n : ByteArray} {us : List ByteArray} (h : Chain l n us) : ∀ {m : ByteArray}, m ∈ us → ∃ vs ws, us = ws ++ vs ∧ Chain l m vs ∧ ∃ vt, vs = m :: vt := by
  induction h with
  | nil _ => intro m hm; cases hm
  | @cons n x us h k ih =>
    intro m hm
    rcases List.mem_cons.1 hm with rfl | hm
    · exact ⟨_, [], rfl, .cons h k, _, rfl⟩
    · obtain ⟨vs, ws, e, hc, he⟩ := ih hm
      exact ⟨vs, n :: ws, by rw [e]; rfl, hc, he⟩
theorem Chain.mem_look {l : List Item} {n : ByteArray} {us : List ByteArray} (h : Chain l n us) {m : ByteArray} (hm : m ∈ us) : ∃ x, look l m = some x := by
  obtain ⟨vs, ws, _, hc, vt, rfl⟩ := h.suffix hm
  cases hc with
  | cons h _ => exact ⟨_, h⟩
theorem Chain.nodup {l : List Item} {n : ByteArray} {us : List ByteArray} (h : Chain l n us) : us.Nodup := by
  induction h with
  | nil _ => simp
  | @cons n x us h k ih =>
    rw [List.nodup_cons]
    refine ⟨fun hm => ?_, ih⟩
    obtain ⟨vs, ws, e, hc, _⟩ := k.suffix hm
    have := hc.det (.cons h k)
    rw [this] at e
    have := congrArg List.length e
    simp at this
    omega
theorem Chain.len {l : List Item} {n : ByteArray} {us : List ByteArray} (h : Chain l n us) : us.length ≤ l.length := by
  have := h.nodup.length_le_of_subset (l₂ := l.map (·.f0)) (fun m hm => by
    obtain ⟨x, hx⟩ := h.mem_look hm
    obtain ⟨h1, rfl⟩ := look_mem hx
    exact List.mem_map_of_mem h1)
  simpa using this
theorem Chain.up {l : List Item} {n : ByteArray} {us : List ByteArray} (h : Chain l n us) : up l n = us := h.upGo _ (by have := h.len; omega)
theorem up_len_iff {l : List Item} {n : ByteArray} : (up l n).length ≤ l.length ↔ ∃ us, Chain l n us :=
  ⟨fun h => ⟨_, up_chain h⟩, fun ⟨us, h⟩ => by rw [h.up]; exact h.len⟩
end Go.Proofs.Ytcgefpklljclgaa.Print

namespace Go.Proofs.Ytcgefpklljclgaa.Print
open Go.RowKit Go.Proofs.YtcgefpklljclgaaW.PrintWords Go.Proofs.YtcgefpklljclgaaW.PrintLast
set_option linter.unusedVariables false
set_option linter.unusedSimpArgs false
/-! names in order -/
def lt (a b : ByteArray) : Bool := Op.bytesLess a.toList b.toList
theorem bl_irrefl : ∀ a : List UInt8, Op.bytesLess a a = false
  | [] => rfl
  | x :: a => by unfold Op.bytesLess; simp [bl_irrefl a]
theorem bl_trans : ∀ {a b c : List UInt8}, Op.bytesLess a b = true → Op.bytesLess b c = true → Op.bytesLess a c = true
  | [], [], _, h, _ => by simp [Op.bytesLess] at h
  | [], _ :: _, [], _, k => by simp [Op.bytesLess] at k
  | [], _ :: _, _ :: _, _, _ => by simp [Op.bytesLess]
  | _ :: _, [], _, h, _ => by simp [Op.bytesLess] at h
  | _ :: _, _ :: _, [], _, k => by simp [Op.bytesLess] at k
  | x :: a, y :: b, z :: c, h, k => by
    simp only [Op.bytesLess, Bool.or_eq_true, Bool.and_eq_true, decide_eq_true_eq, beq_iff_eq] at h k ⊢
    rcases h with h | ⟨rfl, h⟩
    · rcases k with k | ⟨rfl, k⟩
      · exact .inl (UInt8.lt_trans h k)
      · exact .inl h
    · rcases k with k | ⟨rfl, k⟩
      · exact .inl k
      · exact .inr ⟨rfl, bl_trans h k⟩
theorem bl_total : ∀ {a b : List UInt8}, Op.bytesLess a b = false → a ≠ b → Op.bytesLess b a = true
  | [], [], _, h => absurd rfl h
  | [], _ :: _, h, _ => by simp [Op.bytesLess] at h
  | _ :: _, [], _, _ => by simp [Op.bytesLess]
  | x :: a, y :: b, h, k => by
    simp only [Op.bytesLess, Bool.or_eq_true, Bool.or_eq_false_iff, Bool.and_eq_false_iff, Bool.and_eq_true, decide_eq_true_eq, decide_eq_false_iff_not, beq_iff_eq, beq_eq_false_iff_ne] at h ⊢
    obtain ⟨h1, h2⟩ := h
    by_cases e : x = y
    · subst e
      rcases h2 with h2 | h2
      · exact absurd rfl h2
      · exact .inr ⟨rfl, bl_total h2 (fun e => k (by rw [e]))⟩
    · left
      have h3 : ¬ x.toNat < y.toNat := by rwa [← UInt8.lt_iff_toNat_lt]
      have h4 : x.toNat ≠ y.toNat := fun q => e (UInt8.toNat_inj.1 q)
      rw [UInt8.lt_iff_toNat_lt]; omega
theorem lt_irrefl (a : ByteArray) : lt a a = false := bl_irrefl _
theorem lt_trans {a b c : ByteArray} (h : lt a b = true) (k : lt b c = true) : lt a c = true := bl_trans h k
theorem lt_total {a b : ByteArray} (h : lt a b = false) (k : a ≠ b) : lt b a = true := bl_total h (fun e => k (nm_inj.1 e))
theorem lt_ne {a b : ByteArray} (h : lt a b = true) : a ≠ b := by rintro rfl; rw [lt_irrefl] at h; cases h
/-! amounts -/
inductive Comp where | cpu | mem | pods
def Comp.of : Comp → Vec → Int | .cpu, v => v.f0 | .mem, v => v.f1 | .pods, v => v.f2
theorem vec_ext {a b : Vec} (h : ∀ c : Comp, c.of a = c.of b) : a = b := by
  cases a; cases b
  have h0 := h .cpu; have h1 := h .mem; have h2 := h .pods
  simp [Comp.of] at h0 h1 h2
  simp [h0, h1, h2]
def vadd (a b : Vec) : Vec := ⟨a.f0 + b.f0, a.f1 + b.f1, a.f2 + b.f2⟩
theorem of_vadd (c : Comp) (a b : Vec) : c.of (vadd a b) = c.of a + c.of b := by cases c <;> rfl
def MayP (v : Vec) : Prop := ∀ c : Comp, 0 ≤ c.of v ∧ c.of v ≤ 1099511627776
def LeP (a b : Vec) : Prop := ∀ c : Comp, c.of a ≤ c.of b
theorem comp_all {p : Comp → Prop} : (∀ c, p c) ↔ p .cpu ∧ p .mem ∧ p .pods :=
  ⟨fun h => ⟨h _, h _, h _⟩, fun ⟨a, b, d⟩ c => by cases c <;> assumption⟩
instance (v : Vec) : Decidable (MayP v) := decidable_of_iff _ comp_all.symm
instance (a b : Vec) : Decidable (LeP a b) := decidable_of_iff _ comp_all.symm
theorem mayP_iff {a b d : Int} : MayP ⟨a, b, d⟩ ↔ (0 ≤ a ∧ a ≤ 1099511627776) ∧ (0 ≤ b ∧ b ≤ 1099511627776) ∧ (0 ≤ d ∧ d ≤ 1099511627776) := comp_all
theorem leP_iff {a b d a' b' d' : Int} : LeP ⟨a, b, d⟩ ⟨a', b', d'⟩ ↔ a ≤ a' ∧ b ≤ b' ∧ d ≤ d' := comp_all
/-! sums over a tree -/
def sumBy (g : Item → Int) (l : List Item) : Int := (l.map g).sum
theorem sumBy_nil (g : Item → Int) : sumBy g [] = 0 := rfl
theorem sumBy_cons (g : Item → Int) (x : Item) (l : List Item) : sumBy g (x :: l) = g x + sumBy g l := by simp [sumBy]
theorem sumBy_append (g : Item → Int) (l m : List Item) : sumBy g (l ++ m) = sumBy g l + sumBy g m := by simp [sumBy]
theorem sumBy_congr {g h : Item → Int} : ∀ {l : List Item}, (∀ x ∈ l, g x = h x) → sumBy g l = sumBy h l
  | [], _ => rfl
  | x :: l, e => by rw [sumBy_cons, sumBy_cons, e x (by simp), sumBy_congr (fun y hy => e y (by simp [hy]))]
theorem sumBy_add (g h : Item → Int) : ∀ l : List Item, sumBy (fun x => g x + h x) l = sumBy g l + sumBy h l
  | [] => rfl
  | x :: l => by rw [sumBy_cons, sumBy_cons, sumBy_cons, sumBy_add g h l]; omega
theorem sumBy_map (g : Item → Int) (f : Item → Item) : ∀ l : List Item, sumBy g (l.map f) = sumBy (fun x => g (f x)) l
  | [] => rfl
  | x :: l => by rw [List.map_cons, sumBy_cons, sumBy_cons, sumBy_map g f l]
theorem sumBy_zero {g : Item → Int} : ∀ {l : List Item}, (∀ x ∈ l, g x = 0) → sumBy g l = 0
  | [], _ => rfl
  | x :: l, e => by rw [sumBy_cons, e x (by simp), sumBy_zero (fun y hy => e y (by simp [hy]))]; rfl
theorem sumBy_nonneg {g : Item → Int} : ∀ {l : List Item}, (∀ x ∈ l, 0 ≤ g x) → 0 ≤ sumBy g l
  | [], _ => by simp [sumBy_nil]
  | x :: l, e => by rw [sumBy_cons]; have := e x (by simp); have := sumBy_nonneg (l := l) (fun y hy => e y (by simp [hy])); omega
theorem sumBy_le {g : Item → Int} {B : Int} : ∀ {l : List Item}, (∀ x ∈ l, g x ≤ B) → sumBy g l ≤ B * l.length
  | [], _ => by simp [sumBy_nil]
  | x :: l, e => by
    rw [sumBy_cons]; have := e x (by simp); have := sumBy_le (l := l) (fun y hy => e y (by simp [hy]))
    simp only [List.length_cons, Int.natCast_succ, Int.mul_add, Int.mul_one]; omega
/-- one summand alone: names stand once -/
theorem sumBy_one {v : Int} {l : List Item} (hn : (l.map (·.f0)).Nodup) {x : Item} (hx : x ∈ l) : sumBy (fun y => if y.f0 = x.f0 then v else 0) l = v := by
  induction l with
  | nil => cases hx
  | cons y l ih =>
    rw [List.map_cons, List.nodup_cons] at hn
    rw [sumBy_cons]
    rcases List.mem_cons.1 hx with rfl | hx
    · rw [if_pos rfl, sumBy_zero (fun z hz => if_neg (fun e => hn.1 (by rw [← e]; exact List.mem_map_of_mem hz)))]; omega
    · rw [if_neg (fun e => hn.1 (by rw [e]; exact List.mem_map_of_mem hx)), ih hn.2 hx]; omega
/-- what the children have -/
def csum (c : Comp) (l : List Item) (n : ByteArray) : Int := sumBy (fun y => if y.f1 = n then c.of y.f4 else 0) l
/-! right trees -/
structure ItemOK (x : Item) : Prop where
  name : x.f0 ≠ ⟨#[]⟩
  size : x.f0.size ≤ 24
  lim : MayP x.f2
  own : MayP x.f3
  sub : MayP x.f4
  fit : LeP x.f4 x.f2
  ver : 1 ≤ x.f5 ∧ x.f5 ≤ 9007199254740992
structure RightP (l : List Item) : Prop where
  len : l.length ≤ 120
  ok : ∀ x ∈ l, ItemOK x
  sorted : l.Pairwise (fun x y => lt x.f0 y.f0 = true)
  par : ∀ x ∈ l, x.f1 = ⟨#[]⟩ ∨ ∃ y, look l x.f1 = some y
  sum : ∀ c : Comp, ∀ x ∈ l, c.of x.f4 = c.of x.f3 + csum c l x.f0
  chain : ∀ x ∈ l, ∃ us, Chain l x.f0 us
theorem sorted_nodup {l : List Item} (h : l.Pairwise (fun x y => lt x.f0 y.f0 = true)) : (l.map (·.f0)).Nodup := by
  rw [List.Nodup, List.pairwise_map]
  exact h.imp (fun hxy => lt_ne hxy)
theorem RightP.nodup {l : List Item} (h : RightP l) : (l.map (·.f0)).Nodup := sorted_nodup h.sorted
theorem look_of_mem {l : List Item} (hn : (l.map (·.f0)).Nodup) {x : Item} (hx : x ∈ l) : look l x.f0 = some x := by
  induction l with
  | nil => cases hx
  | cons y l ih =>
    rw [List.map_cons, List.nodup_cons] at hn
    unfold look
    rw [List.find?_cons]
    rcases List.mem_cons.1 hx with rfl | hx
    · simp
    · have : y.f0 ≠ x.f0 := fun e => hn.1 (by rw [e]; exact List.mem_map_of_mem hx)
      simp only [this, decide_false]
      exact ih hn.2 hx
theorem RightP.look {l : List Item} (h : RightP l) {x : Item} (hx : x ∈ l) : look l x.f0 = some x := look_of_mem h.nodup hx
theorem RightP.chainAll {l : List Item} (h : RightP l) (n : ByteArray) : Chain l n (up l n) := by
  cases hl : Print.look l n with
  | none => have c := Chain.nil hl; rw [c.up]; exact c
  | some x =>
    obtain ⟨hx, rfl⟩ := look_mem hl
    obtain ⟨us, c⟩ := h.chain x hx
    rw [c.up]; exact c
theorem right_nil : RightP [] := ⟨by simp, by simp, by simp, by simp, by simp, by simp⟩
/-- two that have one name are one -/
theorem RightP.eq_of {l : List Item} (h : RightP l) {x y : Item} (hx : x ∈ l) (hy : y ∈ l) (e : x.f0 = y.f0) : x = y := by
  have h1 := h.look hx
  rw [e, h.look hy] at h1
  exact (Option.some.inj h1).symm
end Go.Proofs.Ytcgefpklljclgaa.Print

namespace Go.Proofs.Ytcgefpklljclgaa.Print
open Go.RowKit Go.Proofs.YtcgefpklljclgaaW.PrintWords Go.Proofs.YtcgefpklljclgaaW.PrintLast
set_option linter.unusedVariables false
set_option linter.unusedSimpArgs false
/-! a tree whose items change, but neither their names nor parents -/
theorem look_map {f : Item → Item} (hf : ∀ x, (f x).f0 = x.f0) (l : List Item) (n : ByteArray) : look (l.map f) n = (look l n).map f := by
  unfold look
  rw [List.find?_map]
  congr 2
  funext x
  simp [hf]
theorem Chain.map {f : Item → Item} (hf : ∀ x, (f x).f0 = x.f0) (hp : ∀ x, (f x).f1 = x.f1) {l : List Item} {n : ByteArray} {us : List ByteArray} (h : Chain l n us) : Chain (l.map f) n us := by
  induction h with
  | nil h => exact .nil (by rw [look_map hf, h]; rfl)
  | @cons n x us h k ih => exact .cons (x := f x) (by rw [look_map hf, h]; rfl) (by rw [hp]; exact ih)
theorem up_self {l : List Item} {n : ByteArray} {x : Item} (h : look l n = some x) : n ∈ up l n := by
  unfold up
  rw [upGo_some h]
  simp
/-- which of a node's children stand on a way up -/
theorem chain_kids {l : List Item} (hl : RightP l) {n : ByteArray} {us : List ByteArray} (h : Chain l n us) (v : Int) {x : Item} (hx : x ∈ l) :
    sumBy (fun y => if y.f1 = x.f0 ∧ y.f0 ∈ us then v else 0) l = if x.f0 ∈ us ∧ x.f0 ≠ n then v else 0 := by
  induction h with
  | nil _ => rw [sumBy_zero (fun y _ => by simp)]; simp
  | @cons n z us h k ih =>
    obtain ⟨hz, rfl⟩ := look_mem h
    have hnd := (Chain.cons h k).nodup
    rw [List.nodup_cons] at hnd
    have e : sumBy (fun y => if y.f1 = x.f0 ∧ y.f0 ∈ z.f0 :: us then v else 0) l = sumBy (fun y => (if y.f0 = z.f0 then (if z.f1 = x.f0 then v else 0) else 0) + (if y.f1 = x.f0 ∧ y.f0 ∈ us then v else 0)) l := by
      refine sumBy_congr fun y hy => ?_
      by_cases e1 : y.f0 = z.f0
      · have := hl.eq_of hy hz e1
        subst this
        by_cases e2 : y.f1 = x.f0 <;> simp [e2, hnd.1]
      · simp [e1]
    rw [e, sumBy_add, ih, sumBy_one hl.nodup hz]
    by_cases e2 : z.f1 = x.f0
    · have hm : x.f0 ∈ us := by
        rw [e2] at k
        cases k with
        | nil k => rw [hl.look hx] at k; cases k
        | cons _ _ => simp
      have hne : x.f0 ≠ z.f0 := fun q => hnd.1 (by rw [← q]; exact hm)
      simp [e2, hm, hne]
    · by_cases e3 : x.f0 = z.f0
      · simp [e2, e3, hnd.1]
        exact fun q => absurd (q.trans e3.symm) e2
      · have e4 : x.f0 ≠ z.f1 := fun q => e2 q.symm
        simp [e2, e3, e4]
/-! letting in (and out) -/
def admF (us : List ByteArray) (n : ByteArray) (v : Vec) (x : Item) : Item := ⟨x.f0, x.f1, x.f2, if x.f0 = n then vadd x.f3 v else x.f3, if x.f0 ∈ us then vadd x.f4 v else x.f4, x.f5⟩
def admL (l : List Item) (n : ByteArray) (v : Vec) : List Item := l.map (admF (up l n) n v)
theorem csum_adm {l : List Item} (hl : RightP l) (c : Comp) (n : ByteArray) (v : Vec) {x : Item} (hx : x ∈ l) :
    csum c (admL l n v) x.f0 = csum c l x.f0 + if x.f0 ∈ up l n ∧ x.f0 ≠ n then c.of v else 0 := by
  unfold csum admL
  rw [sumBy_map, ← chain_kids hl (hl.chainAll n) (c.of v) hx, ← sumBy_add]
  refine sumBy_congr fun y hy => ?_
  simp only [admF]
  by_cases e1 : y.f1 = x.f0 <;> by_cases e2 : y.f0 ∈ up l n <;> simp [e1, e2, of_vadd]
/-- what keeps a tree right when something is let in or out along a way -/
theorem adm_right {l : List Item} (hl : RightP l) {n : ByteArray} (v : Vec) (hin : ∃ x, look l n = some x)
    (hown : ∀ x ∈ l, x.f0 = n → MayP (vadd x.f3 v)) (hsub : ∀ x ∈ l, x.f0 ∈ up l n → MayP (vadd x.f4 v)) (hfit : ∀ x ∈ l, x.f0 ∈ up l n → LeP (vadd x.f4 v) x.f2) : RightP (admL l n v) where
  len := by unfold admL; rw [List.length_map]; exact hl.len
  ok := by
    intro y hy
    obtain ⟨x, hx, rfl⟩ := List.mem_map.1 hy
    have k := hl.ok x hx
    refine ⟨k.name, k.size, k.lim, ?_, ?_, ?_, k.ver⟩
    · show MayP (if x.f0 = n then vadd x.f3 v else x.f3)
      split
      · exact hown x hx (by assumption)
      · exact k.own
    · show MayP (if x.f0 ∈ up l n then vadd x.f4 v else x.f4)
      split
      · exact hsub x hx (by assumption)
      · exact k.sub
    · show LeP (if x.f0 ∈ up l n then vadd x.f4 v else x.f4) x.f2
      split
      · exact hfit x hx (by assumption)
      · exact k.fit
  sorted := by
    unfold admL
    rw [List.pairwise_map]
    exact hl.sorted
  par := by
    intro y hy
    obtain ⟨x, hx, rfl⟩ := List.mem_map.1 hy
    rcases hl.par x hx with h | ⟨z, h⟩
    · exact .inl h
    · exact .inr ⟨_, by unfold admL; rw [look_map (f := admF (up l n) n v) (fun _ => rfl)]; show (look l x.f1).map _ = _; rw [h]; rfl⟩
  sum := by
    intro c y hy
    obtain ⟨x, hx, rfl⟩ := List.mem_map.1 hy
    show c.of (if x.f0 ∈ up l n then vadd x.f4 v else x.f4) = c.of (if x.f0 = n then vadd x.f3 v else x.f3) + csum c (admL l n v) x.f0
    rw [csum_adm hl c n v hx]
    have hs := hl.sum c x hx
    by_cases e : x.f0 = n
    · have hm : x.f0 ∈ up l n := by
        obtain ⟨z, hz⟩ := hin
        rw [e]; exact up_self hz
      simp [e] at hm ⊢
      rw [if_pos hm, of_vadd, of_vadd, hs, e]; omega
    · by_cases hm : x.f0 ∈ up l n
      · simp [e, hm, of_vadd]; omega
      · simp [e, hm]; omega
  chain := by
    intro y hy
    obtain ⟨x, hx, rfl⟩ := List.mem_map.1 hy
    obtain ⟨us, h⟩ := hl.chain x hx
    exact ⟨us, h.map (f := admF (up l n) n v) (fun _ => rfl) (fun _ => rfl)⟩
/-! a new node -/
def insL (l : List Item) (it : Item) : List Item := l.takeWhile (fun x => lt x.f0 it.f0) ++ it :: l.dropWhile (fun x => lt x.f0 it.f0)
theorem look_ins (a b : List Item) (it : Item) (n : ByteArray) (h : look (a ++ b) it.f0 = none) : look (a ++ it :: b) n = if n = it.f0 then some it else look (a ++ b) n := by
  unfold look at h ⊢
  rw [List.find?_append] at h ⊢
  rw [List.find?_append, List.find?_cons]
  by_cases e : it.f0 = n
  · subst e
    cases ha : a.find? (fun x => decide (x.f0 = it.f0)) with
    | some y => rw [ha] at h; simp at h
    | none => simp
  · have e' : n ≠ it.f0 := fun q => e q.symm
    simp [e, e']
theorem insL_eq (l : List Item) (it : Item) : ∃ a b, l = a ++ b ∧ insL l it = a ++ it :: b ∧ (∀ x ∈ a, lt x.f0 it.f0 = true) ∧ (∀ x t, b = x :: t → lt x.f0 it.f0 = false) := by
  refine ⟨l.takeWhile (fun x => lt x.f0 it.f0), l.dropWhile (fun x => lt x.f0 it.f0), (List.takeWhile_append_dropWhile).symm, rfl, fun x hx => ?_, fun x t e => ?_⟩
  · exact List.all_eq_true.1 (List.all_takeWhile (p := fun x : Item => lt x.f0 it.f0) (l := l)) x hx
  · have := List.head?_dropWhile_not (fun x : Item => lt x.f0 it.f0) l
    rw [e] at this
    simpa using this
theorem csum_ins (c : Comp) (a b : List Item) (it : Item) (n : ByteArray) : csum c (a ++ it :: b) n = csum c (a ++ b) n + if it.f1 = n then c.of it.f4 else 0 := by
  unfold csum
  rw [sumBy_append, sumBy_append, sumBy_cons]; omega
theorem ins_right {l : List Item} (hl : RightP l) {it : Item} (hi : ItemOK it) (h0 : ∀ c : Comp, c.of it.f3 = 0 ∧ c.of it.f4 = 0) (hn : look l it.f0 = none)
    (hp : it.f1 = ⟨#[]⟩ ∨ ∃ y, look l it.f1 = some y) (hlen : l.length < 120) : RightP (insL l it) := by
  obtain ⟨a, b, e, e', ha, hb⟩ := insL_eq l it
  rw [e']
  subst e
  have hlk := fun n => look_ins a b it n hn
  have hmem : ∀ x, x ∈ a ++ it :: b ↔ x = it ∨ x ∈ a ++ b := fun x => by simp; constructor <;> (intro h; rcases h with h | h | h <;> simp [h])
  have hnew : ∀ m y, look (a ++ b) m = some y → m ≠ it.f0 := fun m y h q => by rw [q, hn] at h; cases h
  have hne : it.f0 ≠ ⟨#[]⟩ := hi.name
  have hpar : ∀ x ∈ a ++ b, x.f1 ≠ it.f0 := fun x hx q => by
    rcases hl.par x hx with h | ⟨y, h⟩
    · exact hne (q.symm.trans h)
    · exact hnew _ _ h q
  have hch : ∀ {n us}, Chain (a ++ b) n us → n ≠ it.f0 → Chain (a ++ it :: b) n us := by
    intro n us h
    induction h with
    | nil h => intro q; exact .nil (by rw [hlk, if_neg q]; exact h)
    | @cons n x us h k ih =>
      intro q
      exact .cons (x := x) (by rw [hlk, if_neg q]; exact h) (ih (hpar x (look_mem h).1))
  have hip : it.f1 ≠ it.f0 := by
    rcases hp with h | ⟨y, h⟩
    · rw [h]; exact fun q => hne q.symm
    · exact hnew _ _ h
  refine ⟨?_, ?_, ?_, ?_, ?_, ?_⟩
  · simp at hlen ⊢; omega
  · intro x hx
    rcases (hmem x).1 hx with rfl | hx
    · exact hi
    · exact hl.ok x hx
  · have hs := hl.sorted
    rw [List.pairwise_append] at hs ⊢
    obtain ⟨h1, h2, h3⟩ := hs
    have hbx : ∀ y ∈ b, lt it.f0 y.f0 = true := by
      intro y hy
      cases b with
      | nil => cases hy
      | cons x t =>
        have hx : lt it.f0 x.f0 = true := lt_total (hb x t rfl) (fun q => look_none.1 hn x (by simp) q)
        rcases List.mem_cons.1 hy with rfl | hy
        · exact hx
        · exact lt_trans hx ((List.pairwise_cons.1 h2).1 y hy)
    refine ⟨h1, List.pairwise_cons.2 ⟨hbx, h2⟩, fun x hx y hy => ?_⟩
    rcases List.mem_cons.1 hy with rfl | hy
    · exact ha x hx
    · exact h3 x hx y hy
  · intro x hx
    rcases (hmem x).1 hx with rfl | hx
    · rcases hp with h | ⟨y, h⟩
      · exact .inl h
      · exact .inr ⟨y, by rw [hlk, if_neg hip]; exact h⟩
    · rcases hl.par x hx with h | ⟨y, h⟩
      · exact .inl h
      · exact .inr ⟨y, by rw [hlk, if_neg (hpar x hx)]; exact h⟩
  · intro c x hx
    rw [csum_ins, (h0 c).2, ite_self, Int.add_zero]
    rcases (hmem x).1 hx with rfl | hx
    · rw [(h0 c).1, (h0 c).2]
      unfold csum
      rw [sumBy_zero (fun y hy => if_neg (hpar y hy))]; rfl
    · exact hl.sum c x hx
  · intro x hx
    rcases (hmem x).1 hx with rfl | hx
    · have := hch (hl.chainAll x.f1) hip
      exact ⟨_, .cons (x := x) (by rw [hlk, if_pos rfl]) this⟩
    · obtain ⟨us, h⟩ := hl.chain x hx
      exact ⟨us, hch h (fun q => look_none.1 hn x hx q)⟩
end Go.Proofs.Ytcgefpklljclgaa.Print

namespace Go.Proofs.Ytcgefpklljclgaa.Print
open Go.RowKit Go.Proofs.YtcgefpklljclgaaW.PrintWords Go.Proofs.YtcgefpklljclgaaW.PrintLast
set_option linter.unusedVariables false
set_option linter.unusedSimpArgs false
theorem ite_iff {α : Type} {p q : Prop} [Decidable p] [Decidable q] (h : p ↔ q) {a b : α} : (if p then a else b) = if q then a else b := by
  by_cases hp : p
  · rw [if_pos hp, if_pos (h.1 hp)]
  · rw [if_neg hp, if_neg (fun k => hp (h.2 k))]
/-! the document's small functions -/
theorem r10_Le_eq (a b d a' b' d' : Int) : r10_Le.f a b d a' b' d' = some (decide (LeP ⟨a, b, d⟩ ⟨a', b', d'⟩)) := by
  unfold r10_Le.f
  by_cases h0 : a ≤ a' <;> by_cases h1 : b ≤ b' <;> simp [h0, h1, leP_iff]
theorem r10_unit_eq (a : Int) : r10_unit.f a = some (decide (0 ≤ a ∧ a ≤ 1099511627776)) := by
  unfold r10_unit.f
  by_cases h0 : 0 ≤ a
  · rw [if_pos (by omega)]; simp [h0]
  · rw [if_neg (by omega)]; simp [h0]
theorem r10_MayVec_eq (a b d : Int) : r10_MayVec.f a b d = some (decide (MayP ⟨a, b, d⟩)) := by
  unfold r10_MayVec.f
  simp only [r10_unit_eq, Option.bind_some]
  by_cases h0 : 0 ≤ a ∧ a ≤ 1099511627776 <;> by_cases h1 : 0 ≤ b ∧ b ≤ 1099511627776 <;> simp [h0, h1, mayP_iff]
theorem r10_MayName_eq (n : ByteArray) : r10_MayName.f n = some (decide (n ≠ ⟨#[]⟩ ∧ n.size ≤ 24)) := by
  unfold r10_MayName.f
  by_cases h : n = ⟨#[]⟩
  · rw [if_pos (nm_empty.2 h)]; simp [h]
  · rw [if_neg (fun q => h (nm_empty.1 q))]; simp [h]; omega
theorem r10_copied_eq (l : List Item) (h : l.length < 1000000) : r10_copied.f l = some l := by
  unfold r10_copied.f
  simp only [Option.bind_some, List.length_nil, List.nil_append]
  rw [if_pos (by omega)]
theorem r10_Find_l0 (l : List Item) (n : ByteArray) (hl : l.length < 1000000) : ∀ (d i : Nat), l.length - i = d → i ≤ l.length →
    Ev (fun k => r10_Find.l0 k l n i) (fidx (fun x : Item => x.f0.toList == n.toList) (l.drop i) i)
  | 0, i, hd, hi => by
    obtain rfl : i = l.length := by omega
    refine Ev.step (f := fun _ => some (-1)) (fun k => ?_) (by rw [List.drop_length]; exact Ev.now _)
    simp only [r10_Find.l0]
    rw [if_neg (by omega)]
  | d + 1, i, hd, hi => by
    have hlt : i < l.length := by omega
    rw [fidx_drop _ zItem l i hlt]
    have hrd : rd_T31 l (i : Int) = l.getD i zItem := by rw [rd_item, Int.toNat_natCast]
    by_cases e : (l.getD i zItem).f0.toList = n.toList
    · rw [if_pos (beq_iff_eq.2 e)]
      refine Ev.step (f := fun _ => some (i : Int)) (fun k => ?_) (Ev.now _)
      simp only [r10_Find.l0]
      rw [if_pos (by omega), if_pos (by omega), hrd, if_pos e]
    · rw [if_neg (fun q => e (beq_iff_eq.1 q))]
      refine Ev.step (f := fun k => r10_Find.l0 k l n ((i + 1 : Nat) : Int)) (fun k => ?_) (r10_Find_l0 l n hl d (i + 1) (by omega) (by omega))
      simp only [r10_Find.l0]
      rw [if_pos (by omega), if_pos (by omega), hrd, if_neg e, w64 (by omega) (by omega)]
      rfl
theorem r10_Find_ev (l : List Item) (n : ByteArray) (hl : l.length < 1000000) : Ev (fun k => r10_Find.f k l n) (fnd l n) := r10_Find_l0 l n hl _ 0 rfl (by omega)
theorem r10_Up_l0 (l : List Item) (hl : l.length < 1000000) : ∀ (m : Nat) (n : ByteArray) (out : List ByteArray), out.length + m = l.length + 1 →
    Ev (fun k => r10_Up.l0 k l out (fnd l n)) (out ++ upGo l m n)
  | 0, n, out, hm => by
    rw [upGo.eq_1, List.append_nil]
    refine Ev.step (f := fun _ => some out) (fun k => ?_) (Ev.now _)
    simp only [r10_Up.l0]
    by_cases h : 0 ≤ fnd l n
    · rw [if_pos h, if_neg (by omega)]
    · rw [if_neg h]
  | m + 1, n, out, hm => by
    cases h : look l n with
    | none =>
      rw [upGo_none h, List.append_nil]
      refine Ev.step (f := fun _ => some out) (fun k => ?_) (Ev.now _)
      simp only [r10_Up.l0]
      rw [fnd_none h, if_neg (by omega)]
    | some x =>
      rw [upGo_some h]
      have h0 := fnd_ge.2 ⟨x, h⟩
      have h1 := fnd_lt l n
      obtain ⟨hx, hn⟩ := look_mem h
      refine Ev.step (f := fun k => (r10_Find.f k l x.f1).bind fun t => r10_Up.l0 k l (out ++ [n]) t) (fun k => ?_) (Ev.bind (r10_Find_ev l x.f1 hl) ?_)
      · simp only [r10_Up.l0]
        rw [if_pos h0, if_pos (by omega), if_pos h0, if_pos h1, if_pos (by omega), fnd_rd h, hn]
      · have := r10_Up_l0 l hl m x.f1 (out ++ [n]) (by simp; omega)
        simpa using this
theorem r10_Up_ev (l : List Item) (n : ByteArray) (hl : l.length < 1000000) : Ev (fun k => r10_Up.f k l n) (up l n) :=
  Ev.bind (r10_Find_ev l n hl) (by have := r10_Up_l0 l hl (l.length + 1) n [] (by simp); rw [List.nil_append] at this; exact this)
/-! a store at a name's place -/
theorem set_at {l : List Item} (hn : (l.map (·.f0)).Nodup) {n : ByteArray} {x : Item} (h : look l n = some x) (y : Item) :
    l.set (fnd l n).toNat y = l.map (fun z => if z.f0 = n then y else z) := by
  obtain ⟨j, h1, h2, h3, h4, h5⟩ := fnd_some h
  rw [h2, Int.toNat_natCast]
  have hx : l[j] = x := by rw [← h3]; simp [h1]
  apply List.ext_getElem (by simp)
  intro m hm hm'
  simp only [List.length_set] at hm
  rw [List.getElem_set, List.getElem_map]
  by_cases e : j = m
  · subst e
    rw [if_pos rfl, if_pos (by rw [hx]; exact h4)]
  · rw [if_neg e, if_neg]
    intro q
    have h6 : (l.map (·.f0))[j]'(by simpa using h1) = (l.map (·.f0))[m]'(by simpa using hm) := by simp [hx, h4, q]
    exact e ((List.getElem_inj hn).1 h6)
theorem fnd_map {f : Item → Item} (hf : ∀ x, (f x).f0 = x.f0) (l : List Item) (n : ByteArray) : fnd (l.map f) n = fnd l n := by
  have : ∀ (l : List Item) (i : Int), fidx (fun x : Item => x.f0.toList == n.toList) (l.map f) i = fidx (fun x : Item => x.f0.toList == n.toList) l i := by
    intro l
    induction l with
    | nil => intro i; rfl
    | cons x l ih => intro i; simp only [List.map_cons, fidx, hf, ih]
  exact this l 0
/-! letting in, as the document says -/
def admS (us : List ByteArray) (v : Vec) (x : Item) : Item := ⟨x.f0, x.f1, x.f2, x.f3, if x.f0 ∈ us then vadd x.f4 v else x.f4, x.f5⟩
def admR (l : List Item) (n : ByteArray) (v : Vec) : List Item × Int :=
  if ¬ MayP v then ([], 1) else if (look l n).isNone = true then ([], 2) else if ∀ x ∈ l, x.f0 ∈ up l n → LeP (vadd x.f4 v) x.f2 then (admL l n v, 0) else ([], 12)
theorem vadd_wrap {a b : Vec} (ha : MayP a) (hb : MayP b) : (wrap64 (a.f0 + b.f0), wrap64 (a.f1 + b.f1), wrap64 (a.f2 + b.f2)) = ((vadd a b).f0, (vadd a b).f1, (vadd a b).f2) := by
  have a0 := ha .cpu; have a1 := ha .mem; have a2 := ha .pods
  have b0 := hb .cpu; have b1 := hb .mem; have b2 := hb .pods
  simp only [Comp.of] at a0 a1 a2 b0 b1 b2
  rw [w64 (by omega) (by omega), w64 (by omega) (by omega), w64 (by omega) (by omega)]
  rfl
theorem r10_Add_eq {a b : Vec} (ha : MayP a) (hb : MayP b) : r10_Add.f a.f0 a.f1 a.f2 b.f0 b.f1 b.f2 = some ((vadd a b).f0, (vadd a b).f1, (vadd a b).f2) := by
  unfold r10_Add.f; rw [vadd_wrap ha hb]
theorem look_admS (us : List ByteArray) (v : Vec) (l : List Item) (n : ByteArray) : look (l.map (admS us v)) n = (look l n).map (admS us v) := look_map (f := admS us v) (fun _ => rfl) l n
theorem drop_cons {us : List ByteArray} {i : Nat} (h : i < us.length) : us.drop i = rdOf ByteArray.empty us i :: us.drop (i + 1) := by
  rw [List.drop_eq_getElem_cons h]; simp [rdOf, h]
theorem take_snoc_ {us : List ByteArray} {i : Nat} (h : i < us.length) : us.take (i + 1) = us.take i ++ [rdOf ByteArray.empty us i] := by
  rw [List.take_succ_eq_append_getElem h]; simp [rdOf, h]
theorem fnd_admS (us : List ByteArray) (v : Vec) (l : List Item) (n : ByteArray) : fnd (l.map (admS us v)) n = fnd l n := fnd_map (f := admS us v) (fun _ => rfl) l n
theorem nodup_admS {us : List ByteArray} {v : Vec} {l : List Item} (h : (l.map (·.f0)).Nodup) : ((l.map (admS us v)).map (·.f0)).Nodup := by
  rw [List.map_map]; exact h
theorem r10_Admit_l0 {l : List Item} (hl : RightP l) (n : ByteArray) {v : Vec} (hv : MayP v) (hin : ∃ x, look l n = some x) : ∀ (d i : Nat), (up l n).length - i = d → i ≤ (up l n).length →
    Ev (fun k => r10_Admit.l0 k n (up l n) (l.map (admS ((up l n).take i) v)) i v.f0 v.f1 v.f2) (if ∀ x ∈ l, x.f0 ∈ (up l n).drop i → LeP (vadd x.f4 v) x.f2 then (admL l n v, 0) else ([], 12))
  | 0, i, hd, hi => by
    obtain rfl : i = (up l n).length := by omega
    rw [List.drop_length, List.take_length, if_pos (by simp)]
    obtain ⟨x, hx⟩ := hin
    obtain ⟨hm, hxn⟩ := look_mem hx
    have hlk : look (l.map (admS (up l n) v)) n = some (admS (up l n) v x) := by rw [look_admS, hx]; rfl
    have h0 : 0 ≤ fnd l n := fnd_ge.2 ⟨x, hx⟩
    have h1 : fnd l n < l.length := fnd_lt l n
    obtain ⟨K, hK⟩ := r10_Find_ev (l.map (admS (up l n) v)) n (by rw [List.length_map]; have := hl.len; omega)
    dsimp only at hK
    refine ⟨K + 1, fun k hk => ?_⟩
    obtain ⟨k, rfl⟩ : ∃ m, k = m + 1 := ⟨k - 1, by omega⟩
    have hrd := fnd_rd hlk
    rw [fnd_admS] at hrd
    simp only [r10_Admit.l0]
    rw [if_neg (by omega), hK k (by omega), fnd_admS]
    simp only [Option.bind_some]
    rw [if_pos h0, if_pos (by rw [List.length_map]; omega), hrd, r10_Add_eq (a := (admS (up l n) v x).f3) (hl.ok x hm).own hv]
    simp only [Option.bind_some]
    have hset := set_at (nodup_admS (us := up l n) (v := v) hl.nodup) hlk
    rw [fnd_admS] at hset
    rw [hset, List.map_map]
    congr 2
    unfold admL
    refine List.map_congr_left fun z hz => ?_
    simp only [Function.comp, admF]
    by_cases e : z.f0 = n
    · obtain rfl : z = x := hl.eq_of hz hm (e.trans hxn.symm)
      rw [if_pos (by exact e), if_pos e]
      rfl
    · rw [if_neg (by exact e), if_neg e]
      rfl
  | d + 1, i, hd, hi => by
    have hlt : i < (up l n).length := by omega
    have hc := hl.chainAll n
    have hnd := hc.nodup
    rw [drop_cons hlt]
    have hu : rdOf ByteArray.empty (up l n) i ∈ up l n := by simp [rdOf, hlt]
    obtain ⟨x, hx⟩ := hc.mem_look hu
    obtain ⟨hm, hxn⟩ := look_mem hx
    have hnot : x.f0 ∉ (up l n).take i := by
      rw [hxn]
      rw [← List.take_append_drop i (up l n), drop_cons hlt, List.nodup_append] at hnd
      exact fun q => hnd.2.2 _ q _ (by simp) rfl
    generalize hU : rdOf ByteArray.empty (up l n) i = u at *
    have hlk : look (l.map (admS ((up l n).take i) v)) u = some (admS ((up l n).take i) v x) := by rw [look_admS, hx]; rfl
    have hsame : admS ((up l n).take i) v x = x := by unfold admS; rw [if_neg hnot]
    rw [hsame] at hlk
    have h0 : 0 ≤ fnd l u := fnd_ge.2 ⟨x, hx⟩
    have h1 : fnd l u < l.length := fnd_lt l u
    have hrd := fnd_rd hlk
    have hset := set_at (nodup_admS (us := (up l n).take i) (v := v) hl.nodup) hlk
    rw [fnd_admS] at hrd
    rw [fnd_admS] at hset
    obtain ⟨K, hK⟩ := r10_Find_ev (l.map (admS ((up l n).take i) v)) u (by rw [List.length_map]; have := hl.len; omega)
    obtain ⟨K', hK'⟩ := r10_Admit_l0 hl n hv hin d (i + 1) (by omega) (by omega)
    dsimp only at hK hK'
    refine ⟨K + K' + 1, fun k hk => ?_⟩
    obtain ⟨k, rfl⟩ : ∃ m, k = m + 1 := ⟨k - 1, by omega⟩
    have hup : (up l n).length ≤ l.length := hc.len
    have hlen := hl.len
    simp only [r10_Admit.l0]
    rw [if_pos (by omega), if_pos (by omega), hU, hK k (by omega), fnd_admS]
    simp only [Option.bind_some]
    rw [if_pos h0, if_pos (by rw [List.length_map]; omega), hrd, r10_Add_eq (a := x.f4) (hl.ok x hm).sub hv]
    simp only [Option.bind_some]
    rw [hset, List.map_map]
    have hnew : (l.map ((fun z : Item => if z.f0 = u then (⟨x.f0, x.f1, ⟨x.f2.f0, x.f2.f1, x.f2.f2⟩, ⟨x.f3.f0, x.f3.f1, x.f3.f2⟩, ⟨(vadd x.f4 v).f0, (vadd x.f4 v).f1, (vadd x.f4 v).f2⟩, x.f5⟩ : Item) else z) ∘ admS ((up l n).take i) v)) = l.map (admS ((up l n).take (i + 1)) v) := by
      refine List.map_congr_left fun z hz => ?_
      simp only [Function.comp]
      rw [take_snoc_ hlt, hU]
      by_cases e : z.f0 = u
      · obtain rfl : z = x := hl.eq_of hz hm (e.trans hxn.symm)
        rw [if_pos (by exact e)]
        unfold admS
        rw [if_pos (by simp [e])]
      · rw [if_neg (by exact e)]
        unfold admS
        simp [e]
    rw [hnew]
    have hlk2 : look (l.map (admS ((up l n).take (i + 1)) v)) u = some (admS ((up l n).take (i + 1)) v x) := by rw [look_admS, hx]; rfl
    have hrd2 := fnd_rd hlk2
    rw [fnd_admS] at hrd2
    have hx2 : admS ((up l n).take (i + 1)) v x = ⟨x.f0, x.f1, x.f2, x.f3, vadd x.f4 v, x.f5⟩ := by unfold admS; rw [if_pos (by rw [take_snoc_ hlt, hU, hxn]; simp)]
    rw [hrd2, hx2, r10_Le_eq]
    simp only [Option.bind_some]
    by_cases hfit : LeP (vadd x.f4 v) x.f2
    · rw [if_pos (by exact decide_eq_true hfit), w64 (by omega) (by omega)]
      have h2 := hK' k (by omega)
      rw [show ((i : Int) + 1) = ((i + 1 : Nat) : Int) from by omega, h2]
      congr 1
      refine ite_iff ⟨fun q z hz hzm => ?_, fun q z hz hzm => q z hz (by simp [hzm])⟩
      rcases List.mem_cons.1 hzm with e | hzm
      · obtain rfl : z = x := hl.eq_of hz hm (e.trans hxn.symm)
        exact hfit
      · exact q z hz hzm
    · rw [if_neg (by simpa using hfit), if_neg (fun q => hfit (q x hm (by rw [hxn]; simp)))]
      rfl
theorem r10_Admit_ev {l : List Item} (hl : RightP l) (n : ByteArray) (v : Vec) : Ev (fun k => r10_Admit.f k l n v.f0 v.f1 v.f2) (admR l n v) := by
  have hlen := hl.len
  refine Ev.bind (r10_Up_ev l n (by omega)) ?_
  have hmv : r10_MayVec.f v.f0 v.f1 v.f2 = some (decide (MayP v)) := r10_MayVec_eq _ _ _
  unfold admR
  by_cases hv : MayP v
  · rw [if_neg (by simpa using hv)]
    cases hx : look l n with
    | none =>
      rw [if_pos (show (none : Option Item).isNone = true from rfl)]
      refine Ev.congr (fun k => ?_) (Ev.now _)
      rw [hmv]
      simp only [Option.bind_some]
      rw [if_pos (by exact decide_eq_true hv), show up l n = [] from upGo_none hx _]
      rfl
    | some x =>
      rw [if_neg (by simp)]
      have h := r10_Admit_l0 hl n hv ⟨x, hx⟩ _ 0 rfl (by omega)
      rw [List.take_zero, List.drop_zero, show l.map (admS [] v) = l from by rw [show admS [] v = id from by funext z; simp [admS]]; simp] at h
      refine Ev.congr (fun k => ?_) h
      rw [hmv]
      simp only [Option.bind_some]
      have : (up l n).length ≠ 0 := by have := up_self hx; intro q; rw [List.length_eq_zero_iff.1 q] at this; cases this
      rw [if_pos (by exact decide_eq_true hv), if_neg (by omega), r10_copied_eq l (by omega)]
      rfl
  · rw [if_pos hv]
    refine Ev.congr (fun k => ?_) (Ev.now _)
    rw [hmv]
    simp only [Option.bind_some]
    rw [if_neg (by simpa using hv)]
    rfl
/-! a new node, as the document says -/
def zVec : Vec := ⟨0, 0, 0⟩
def newItem (n p : ByteArray) (v : Vec) : Item := ⟨n, p, v, zVec, zVec, 1⟩
def creR (l : List Item) (n p : ByteArray) (v : Vec) : List Item × Int :=
  if ¬ ((n ≠ ⟨#[]⟩ ∧ n.size ≤ 24) ∧ MayP v) then ([], 1) else if (look l n).isSome = true then ([], 3) else if p ≠ ⟨#[]⟩ ∧ (look l p).isNone = true then ([], 2) else if 120 ≤ l.length then ([], 4) else (insL l (newItem n p v), 0)
theorem insL_cons (x : Item) (l : List Item) (it : Item) : insL (x :: l) it = if lt x.f0 it.f0 = true then x :: insL l it else it :: x :: l := by
  unfold insL
  rw [List.takeWhile_cons, List.dropWhile_cons]
  cases lt x.f0 it.f0 <;> simp
theorem r10_Create_l0 (n p : ByteArray) (v : Vec) (b : List Item) : ∀ (a l : List Item), l = a ++ b → l.length < 1000000 → Ev (fun k => r10_Create.l0 k l n p a.length v.f0 v.f1 v.f2) (a ++ insL b (newItem n p v), 0) := by
  induction b with
  | nil =>
    rintro a l rfl hl
    simp only [List.append_nil] at hl ⊢
    refine Ev.step (f := fun _ => some (a ++ [newItem n p v], 0)) (fun k => ?_) (Ev.now _)
    simp only [r10_Create.l0]
    rw [if_neg (by omega), if_pos (by omega), if_pos (by omega), Int.toNat_natCast, List.take_length, r10_copied_eq a (by omega)]
    simp only [Option.bind_some, List.drop_length, List.length_append, List.length_cons, List.length_nil]
    rw [if_pos (by omega), if_pos (by omega), List.append_nil]
    rfl
  | cons x b ih =>
    rintro a l rfl hl
    have hlen : (a ++ x :: b).length = a.length + b.length + 1 := by simp; omega
    have hrd : rd_T31 (a ++ x :: b) (a.length : Int) = x := by rw [rd_item, Int.toNat_natCast]; simp
    rw [insL_cons]
    by_cases e : lt x.f0 n = true
    · rw [if_pos (by exact e)]
      have h := ih (a ++ [x]) (a ++ x :: b) (by simp) hl
      refine Ev.step (f := fun k => r10_Create.l0 k (a ++ x :: b) n p (a ++ [x]).length v.f0 v.f1 v.f2) (fun k => ?_) (by simpa using h)
      simp only [r10_Create.l0]
      rw [if_pos (by omega), if_pos (by omega), hrd, if_pos (by exact e), w64 (by omega) (by omega)]
      simp
    · rw [if_neg (by exact e)]
      refine Ev.step (f := fun _ => some (a ++ newItem n p v :: x :: b, 0)) (fun k => ?_) (Ev.now _)
      simp only [r10_Create.l0]
      rw [if_pos (by omega), if_pos (by omega), hrd, if_neg (by exact e), if_pos (by omega), Int.toNat_natCast, List.take_left, r10_copied_eq a (by omega)]
      simp only [Option.bind_some, List.drop_left, List.length_append, List.length_cons, List.length_nil]
      rw [if_pos (by omega), if_pos (by omega)]
      simp
      rfl
theorem r10_Create_ev {l : List Item} (hl : l.length < 1000000) (n p : ByteArray) (v : Vec) : Ev (fun k => r10_Create.f k l n p v.f0 v.f1 v.f2) (creR l n p v) := by
  have hmv : r10_MayVec.f v.f0 v.f1 v.f2 = some (decide (MayP v)) := r10_MayVec_eq _ _ _
  have hno : ∀ e : Int, ((r10_no.f e).bind fun bt => some (bt.1, bt.2)) = some (([] : List Item), e) := fun _ => rfl
  have hj1 : ∀ b, Ev (fun k => r10_Create.j1 k l n p b v.f0 v.f1 v.f2) (if b = true then ([], 2) else if 120 ≤ l.length then ([], 4) else (insL l (newItem n p v), 0)) := by
    intro b
    cases b with
    | true =>
      refine Ev.step (f := fun _ => some ([], 2)) (fun k => ?_) (Ev.now _)
      simp only [r10_Create.j1, if_true]
      exact hno 2
    | false =>
      simp only [Bool.false_eq_true, if_false]
      by_cases h : 120 ≤ l.length
      · rw [if_pos h]
        refine Ev.step (f := fun _ => some ([], 4)) (fun k => ?_) (Ev.now _)
        simp only [r10_Create.j1, Bool.false_eq_true, if_false]
        rw [if_pos (by omega)]; exact hno 4
      · rw [if_neg h]
        refine Ev.step (f := fun k => r10_Create.l0 k l n p 0 v.f0 v.f1 v.f2) (fun k => ?_) (by have := r10_Create_l0 n p v l [] l rfl hl; simpa using this)
        simp only [r10_Create.j1, Bool.false_eq_true, if_false]
        rw [if_neg (by omega)]
  have hj0 : ∀ b, Ev (fun k => r10_Create.j0 k l n p b v.f0 v.f1 v.f2) (if b = true then ([], 1) else if (look l n).isSome = true then ([], 3) else if p ≠ ⟨#[]⟩ ∧ (look l p).isNone = true then ([], 2) else if 120 ≤ l.length then ([], 4) else (insL l (newItem n p v), 0)) := by
    intro b
    cases b with
    | true =>
      refine Ev.step (f := fun _ => some ([], 1)) (fun k => ?_) (Ev.now _)
      simp only [r10_Create.j0, if_true]
      exact hno 1
    | false =>
      simp only [Bool.false_eq_true, if_false]
      refine Ev.step (f := fun k => (r10_Find.f k l n).bind fun t => if t ≥ 0 then some ([], 3) else if p.toList = ([] : List UInt8) then r10_Create.j1 k l n p false v.f0 v.f1 v.f2 else (r10_Find.f k l p).bind fun t => r10_Create.j1 k l n p (decide (t < 0)) v.f0 v.f1 v.f2) (fun k => ?_) (Ev.bind (r10_Find_ev l n hl) ?_)
      · simp only [r10_Create.j0, Bool.false_eq_true, if_false]; rfl
      · cases hn : look l n with
        | some x =>
          refine Ev.congr (fun k => ?_) (Ev.now _)
          rw [if_pos (fnd_ge.2 ⟨x, hn⟩)]; rfl
        | none =>
          simp only [Option.isSome_none, Bool.false_eq_true, if_false]
          by_cases hp : p = ⟨#[]⟩
          · have h := hj1 false
            simp only [Bool.false_eq_true, if_false] at h
            rw [if_neg (fun q => q.1 hp)]
            refine Ev.congr (fun k => ?_) h
            rw [fnd_none hn, if_neg (by omega), if_pos (nm_empty.2 hp)]
          · have h := hj1 (decide (fnd l p < 0))
            refine Ev.congr (g := fun k => _) (f := fun k => (r10_Find.f k l p).bind fun t => r10_Create.j1 k l n p (decide (t < 0)) v.f0 v.f1 v.f2) (fun k => ?_) (Ev.bind (r10_Find_ev l p hl) ?_)
            · rw [fnd_none hn, if_neg (by omega), if_neg (fun q => hp (nm_empty.1 q))]
            · have e : (p ≠ ⟨#[]⟩ ∧ (look l p).isNone = true) ↔ (decide (fnd l p < 0) = true) := by
                rw [decide_eq_true_iff, fnd_neg]; simp [hp]
              rw [ite_iff e]; exact h
  unfold creR
  by_cases hn : n ≠ ⟨#[]⟩ ∧ n.size ≤ 24
  · have h := hj0 (!decide (MayP v))
    rw [ite_iff (q := (!decide (MayP v)) = true) (by simp [hn])]
    refine Ev.congr (fun k => ?_) h
    unfold r10_Create.f
    rw [r10_MayName_eq, hmv]
    simp only [Option.bind_some]
    rw [if_pos (by exact decide_eq_true hn)]
  · have h := hj0 true
    rw [if_pos (fun q => hn q.1)]
    rw [if_pos rfl] at h
    refine Ev.congr (fun k => ?_) h
    unfold r10_Create.f
    rw [r10_MayName_eq]
    simp only [Option.bind_some]
    rw [if_neg (by simpa using hn)]
theorem creR_right {l : List Item} (hl : RightP l) {n p : ByteArray} {v : Vec} (h : (creR l n p v).2 = 0) :
    (creR l n p v).1 = insL l (newItem n p v) ∧ RightP (insL l (newItem n p v)) ∧ look l n = none ∧ l.length < 120 ∧ n ≠ ⟨#[]⟩ ∧ n.size ≤ 24 ∧ MayP v ∧ (p = ⟨#[]⟩ ∨ ∃ y, look l p = some y) := by
  unfold creR at h ⊢
  split at h
  · simp at h
  rename_i h1
  split at h
  · simp at h
  rename_i h2
  split at h
  · simp at h
  rename_i h3
  split at h
  · simp at h
  rename_i h4
  rw [if_neg h1, if_neg h2, if_neg h3, if_neg h4]
  obtain ⟨⟨h5, h6⟩, h7⟩ := Classical.not_not.1 h1
  have hn : look l n = none := by cases q : look l n with
    | none => rfl
    | some x => rw [q] at h2; simp at h2
  have hp : p = ⟨#[]⟩ ∨ ∃ y, look l p = some y := by
    by_cases e : p = ⟨#[]⟩
    · exact .inl e
    · right
      cases q : look l p with
      | none => rw [q] at h3; exact absurd ⟨e, rfl⟩ h3
      | some y => exact ⟨y, rfl⟩
  have hz : ∀ c : Comp, c.of zVec = 0 := fun c => by cases c <;> rfl
  refine ⟨rfl, ins_right hl ⟨h5, h6, h7, fun c => ?_, fun c => ?_, fun c => ?_, ?_⟩ (fun c => ⟨hz c, hz c⟩) hn hp (by omega), hn, by omega, h5, h6, h7, hp⟩
  · show 0 ≤ c.of zVec ∧ c.of zVec ≤ _; rw [hz]; omega
  · show 0 ≤ c.of zVec ∧ c.of zVec ≤ _; rw [hz]; omega
  · show c.of zVec ≤ c.of v; rw [hz]; exact (h7 c).1
  · show (1 : Int) ≤ 1 ∧ (1 : Int) ≤ _; omega
theorem mem_insL {l : List Item} {it x : Item} : x ∈ insL l it ↔ x = it ∨ x ∈ l := by
  obtain ⟨a, b, e, e', _, _⟩ := insL_eq l it
  rw [e', e]; simp; constructor <;> (intro h; rcases h with h | h | h <;> simp [h])
theorem len_insL (l : List Item) (it : Item) : (insL l it).length = l.length + 1 := by
  obtain ⟨a, b, e, e', _, _⟩ := insL_eq l it
  rw [e', e]; simp; omega
theorem admR_right {l : List Item} (hl : RightP l) {n : ByteArray} {v : Vec} (h : (admR l n v).2 = 0) : (admR l n v).1 = admL l n v ∧ RightP (admL l n v) ∧ MayP v ∧ (∃ x, look l n = some x) ∧ ∀ x ∈ l, x.f0 ∈ up l n → LeP (vadd x.f4 v) x.f2 := by
  unfold admR at h ⊢
  split at h
  · simp at h
  rename_i h1
  split at h
  · simp at h
  rename_i h2
  split at h
  · rename_i h3
    rw [if_neg h1, if_neg h2, if_pos h3]
    have hv : MayP v := Classical.not_not.1 h1
    have hin : ∃ x, look l n = some x := by
      cases q : look l n with
      | none => rw [q] at h2; simp at h2
      | some x => exact ⟨x, rfl⟩
    have hsub : ∀ x ∈ l, x.f0 ∈ up l n → MayP (vadd x.f4 v) := fun x hx hm c => by
      have a := (hl.ok x hx).sub c; have b := hv c; have d := h3 x hx hm c; have e := (hl.ok x hx).lim c
      rw [of_vadd] at d ⊢; omega
    refine ⟨rfl, adm_right hl v hin (fun x hx e c => ?_) hsub h3, hv, hin, h3⟩
    have hm : x.f0 ∈ up l n := by obtain ⟨y, hy⟩ := hin; rw [e]; exact up_self hy
    have a := (hl.ok x hx).own c; have b := hv c; have d := hsub x hx hm c; have f := hl.sum c x hx
    have g : 0 ≤ csum c l x.f0 := sumBy_nonneg fun y hy => by
      split
      · exact ((hl.ok y hy).sub c).1
      · omega
    rw [of_vadd] at d ⊢; omega
  · simp at h
end Go.Proofs.Ytcgefpklljclgaa.Print

namespace Go.Proofs.Ytcgefpklljclgaa.Print
open Go.RowKit Go.Proofs.YtcgefpklljclgaaW.PrintWords Go.Proofs.YtcgefpklljclgaaW.PrintLast
set_option linter.unusedVariables false
set_option linter.unusedSimpArgs false
/-! trees made by numbers -/
theorem u8_bd {x : Int} (h : (Lit.int .u8 x).wf = true) : 0 ≤ x ∧ x ≤ 255 := by
  simp only [Lit.wf, Bool.and_eq_true, decide_eq_true_eq] at h
  exact h
def Bytes (ns : List Int) : Prop := ∀ x ∈ ns, 0 ≤ x ∧ x ≤ 255
theorem Bytes.rd {ns : List Int} (h : Bytes ns) (i : Int) : 0 ≤ rd ns i ∧ rd ns i ≤ 255 := by
  unfold Go.Proofs.YtcgefpklljclgaaW.PrintWords.rd
  rw [List.getD_eq_getElem?_getD]
  cases e : ns[i.toNat]? with
  | none => simp
  | some x => exact h x (List.mem_of_getElem? e)
/-- a name of one byte -/
def one (c : Int) : ByteArray := strOfNums [c]
structure MadeP (l : List Item) : Prop where
  right : RightP l
  len : l.length ≤ 24
  name : ∀ x ∈ l, ∃ c : Int, 97 ≤ c ∧ c ≤ 120 ∧ x.f0 = one c
  ver : ∀ x ∈ l, x.f5 = 1
  lim : ∀ x ∈ l, ∀ c : Comp, 20 ≤ c.of x.f2 ∧ c.of x.f2 ≤ 275
theorem made_nil : MadeP [] := ⟨right_nil, by simp, by simp, by simp, by simp⟩
theorem made_ins {l : List Item} (h : MadeP l) {n p : ByteArray} {v : Vec} {c : Int} (hc : 97 ≤ c ∧ c ≤ 120) (hn : n = one c) (hv : ∀ c : Comp, 20 ≤ c.of v ∧ c.of v ≤ 275) (hl : l.length < 24) (hr : RightP (insL l (newItem n p v))) : MadeP (insL l (newItem n p v)) where
  right := hr
  len := by rw [len_insL]; omega
  name := fun x hx => by
    rcases mem_insL.1 hx with rfl | hx
    · exact ⟨c, hc.1, hc.2, hn⟩
    · exact h.name x hx
  ver := fun x hx => by
    rcases mem_insL.1 hx with rfl | hx
    · rfl
    · exact h.ver x hx
  lim := fun x hx => by
    rcases mem_insL.1 hx with rfl | hx
    · exact hv
    · exact h.lim x hx
theorem made_adm {l : List Item} (h : MadeP l) {n : ByteArray} {v : Vec} (hr : RightP (admL l n v)) : MadeP (admL l n v) where
  right := hr
  len := by unfold admL; rw [List.length_map]; exact h.len
  name := fun x hx => by
    obtain ⟨y, hy, rfl⟩ := List.mem_map.1 hx
    exact h.name y hy
  ver := fun x hx => by
    obtain ⟨y, hy, rfl⟩ := List.mem_map.1 hx
    exact h.ver y hy
  lim := fun x hx => by
    obtain ⟨y, hy, rfl⟩ := List.mem_map.1 hx
    exact h.lim y hy
def MakesFrom (ns : List Int) (i : Int) : Prop := ∀ l, MadeP l → ∃ r, Ev (fun k => law12_Make.l0 k ns l i) r ∧ MadeP r
theorem tmod_in {a b : Int} (ha : 0 ≤ a) (hb : 0 < b) : 0 ≤ a.tmod b ∧ a.tmod b < b := by
  rw [Int.tmod_eq_emod_of_nonneg ha]; exact ⟨Int.emod_nonneg _ (by omega), Int.emod_lt_of_pos _ hb⟩
theorem tdiv_in {a b : Int} (ha : 0 ≤ a) (hb : 0 < b) : 0 ≤ a.tdiv b ∧ a.tdiv b ≤ a := by
  rw [Int.tdiv_eq_ediv_of_nonneg ha]; exact ⟨Int.ediv_nonneg ha (by omega), Int.ediv_le_self _ ha⟩
theorem made_j3 {ns : List Int} (hb : Bytes ns) (hs : ns.length ≤ 1000) {i : Int} (h0 : 0 ≤ i) (h2 : i + 2 < ns.length) (ih : MakesFrom ns (i + 3)) {l : List Item} (h : MadeP l) (hl : l.length < 24) (p : ByteArray) :
    ∃ r, Ev (fun k => law12_Make.j3 k ns l i p) r ∧ MadeP r := by
  have b1 := hb.rd (i + 1)
  have b2 := hb.rd (i + 2)
  have hlen := h.right.len
  have hnm : (wrap64 (97 + (Int.tmod (wrap64 ((l.length : Int) * 5)) 24))) % 256 = 97 + ((l.length : Int) * 5) % 24 := by
    rw [w64 (n := (l.length : Int) * 5) (by omega) (by omega), Int.tmod_eq_emod_of_nonneg (by omega), w64 (by omega) (by omega)]; omega
  generalize hc : 97 + ((l.length : Int) * 5) % 24 = c at hnm
  have hcb : 97 ≤ c ∧ c ≤ 120 := by omega
  have hlim : wrap64 (20 + wrap64 (rd ns (i + 1))) = 20 + rd ns (i + 1) := by rw [w64 (n := rd ns (i + 1)) (by omega) (by omega), w64 (by omega) (by omega)]
  obtain ⟨K, hK⟩ := r10_Create_ev (l := l) (by omega) (one c) p ⟨20 + rd ns (i + 1), 20 + rd ns (i + 1), 20 + rd ns (i + 1)⟩
  dsimp only at hK
  have hw1 : wrap64 (i + 1) = i + 1 := w64 (by omega) (by omega)
  have hw2 : wrap64 (i + 2) = i + 2 := w64 (by omega) (by omega)
  have hw3 : wrap64 (i + 3) = i + 3 := w64 (by omega) (by omega)
  have hr2 : wrap64 (rd ns (i + 2)) = rd ns (i + 2) := w64 (by omega) (by omega)
  by_cases hE : (creR l (one c) p ⟨20 + rd ns (i + 1), 20 + rd ns (i + 1), 20 + rd ns (i + 1)⟩).2 = 0
  · obtain ⟨e1, hR, hno, -, -, -, hv, -⟩ := creR_right h.right hE
    have hm := made_ins h (p := p) hcb rfl (v := ⟨20 + rd ns (i + 1), 20 + rd ns (i + 1), 20 + rd ns (i + 1)⟩) (fun c => by cases c <;> (simp only [Comp.of]; omega)) hl hR
    generalize hL : insL l (newItem (one c) p ⟨20 + rd ns (i + 1), 20 + rd ns (i + 1), 20 + rd ns (i + 1)⟩) = l1 at *
    have hl1 : 0 < l1.length := by rw [← hL, len_insL]; omega
    have hd := tdiv_in (a := rd ns (i + 2)) (b := 16) (by omega) (by omega)
    have hw4 : wrap64 (Int.tdiv (rd ns (i + 2)) 16) = Int.tdiv (rd ns (i + 2)) 16 := w64 (by omega) (by omega)
    have hq := tmod_in (a := Int.tdiv (rd ns (i + 2)) 16) (b := (l1.length : Int)) hd.1 (by omega)
    generalize hJ : Int.tmod (Int.tdiv (rd ns (i + 2)) 16) (l1.length : Int) = j at *
    obtain ⟨v, hv'⟩ : ∃ v : Vec, v = ⟨Int.tmod (rd ns (i + 2)) 16, wrap64 (Int.tdiv (Int.tmod (rd ns (i + 2)) 16) 2), Int.tmod (Int.tmod (rd ns (i + 2)) 16) 3⟩ := ⟨_, rfl⟩
    obtain ⟨K2, hK2⟩ := r10_Admit_ev hm.right (rd_T31 l1 j).f0 v
    dsimp only at hK2
    have main : ∀ r, Ev (fun k => law12_Make.l0 k ns (if (admR l1 (rd_T31 l1 j).f0 v).2 = 0 then (admR l1 (rd_T31 l1 j).f0 v).1 else l1) (i + 3)) r → Ev (fun k => law12_Make.j3 k ns l i p) r := by
      rintro r ⟨K3, hK3⟩
      refine ⟨K + K2 + K3 + 1, fun k hk => ?_⟩
      dsimp only at hK3
      obtain ⟨k, rfl⟩ : ∃ m, k = m + 1 := ⟨k - 1, by omega⟩
      simp only [law12_Make.j3]
      rw [hw1, hw2, hw3, hnm, hlim, hr2, if_pos (by omega), if_pos (by omega)]
      rw [show strOfNums [c] = one c from rfl, hK k (by omega)]
      simp only [Option.bind_some]
      rw [if_pos hE, if_pos (by omega), if_pos (by omega), e1, if_neg (by omega), hw4, hJ, if_pos hq.1, if_pos hq.2]
      have := hK2 k (by omega)
      rw [hv'] at this
      rw [this]
      simp only [Option.bind_some]
      rw [← hv']
      have := hK3 k (by omega)
      by_cases q : (admR l1 (rd_T31 l1 j).f0 v).2 = 0
      · rw [if_pos q] at this ⊢; exact this
      · rw [if_neg q] at this ⊢; exact this
    by_cases q : (admR l1 (rd_T31 l1 j).f0 v).2 = 0
    · rw [if_pos q] at main
      obtain ⟨e2, hR2, -⟩ := admR_right hm.right q
      rw [e2] at main
      obtain ⟨r, hr, hM⟩ := ih _ (made_adm hm hR2)
      exact ⟨r, main r hr, hM⟩
    · rw [if_neg q] at main
      obtain ⟨r, hr, hM⟩ := ih _ hm
      exact ⟨r, main r hr, hM⟩
  · obtain ⟨r, ⟨K3, hK3⟩, hM⟩ := ih l h
    dsimp only at hK3
    refine ⟨r, ⟨K + K3 + 1, fun k hk => ?_⟩, hM⟩
    obtain ⟨k, rfl⟩ : ∃ m, k = m + 1 := ⟨k - 1, by omega⟩
    simp only [law12_Make.j3]
    rw [hw1, hw2, hw3, hnm, hlim, if_pos (by omega), if_pos (by omega)]
    rw [show strOfNums [c] = one c from rfl, hK k (by omega)]
    simp only [Option.bind_some]
    rw [if_neg hE]
    exact hK3 k (by omega)
theorem made_step {ns : List Int} (hb : Bytes ns) (hs : ns.length ≤ 1000) {i : Int} (h0 : 0 ≤ i) (h2 : i + 2 < ns.length) (ih : MakesFrom ns (i + 3)) : MakesFrom ns i := by
  intro l h
  have hw2 : wrap64 (i + 2) = i + 2 := w64 (by omega) (by omega)
  have b0 := hb.rd i
  have hr0 : wrap64 (rd ns i) = rd ns i := w64 (by omega) (by omega)
  by_cases hl : l.length < 24
  · have h3 := made_j3 hb hs h0 h2 ih h hl
    have hj2 : ∀ b, (b = true → 0 < l.length) → ∃ r, Ev (fun k => law12_Make.j2 k ns l i (rd ns i) ⟨#[]⟩ b) r ∧ MadeP r := by
      intro b hbl
      cases b with
      | false =>
        obtain ⟨r, hr, hM⟩ := h3 ⟨#[]⟩
        refine ⟨r, Ev.step (fun k => ?_) hr, hM⟩
        simp only [law12_Make.j2, Bool.false_eq_true, if_false]
      | true =>
        have hpos := hbl rfl
        have hd := tdiv_in (a := rd ns i) (b := 3) (by omega) (by omega)
        have hw : wrap64 (Int.tdiv (rd ns i) 3) = Int.tdiv (rd ns i) 3 := w64 (by omega) (by omega)
        have hq := tmod_in (a := Int.tdiv (rd ns i) 3) (b := (l.length : Int)) hd.1 (by omega)
        obtain ⟨r, hr, hM⟩ := h3 (rd_T31 l (Int.tmod (Int.tdiv (rd ns i) 3) (l.length : Int))).f0
        refine ⟨r, Ev.step (fun k => ?_) hr, hM⟩
        simp only [law12_Make.j2, if_true]
        rw [hw, if_neg (by omega), if_pos hq.1, if_pos hq.2]
    have hj1 : ∃ r, Ev (fun k => law12_Make.j1 k ns l i true) r ∧ MadeP r := by
      by_cases hpos : 0 < l.length
      · obtain ⟨r, hr, hM⟩ := hj2 (decide ((Int.tmod (rd ns i) 3) > 0)) (fun _ => hpos)
        refine ⟨r, Ev.step (fun k => ?_) hr, hM⟩
        simp only [law12_Make.j1, if_true]
        rw [if_pos (by omega), if_pos (by omega), if_pos (by omega), hr0]
      · obtain ⟨r, hr, hM⟩ := hj2 false (fun q => by cases q)
        refine ⟨r, Ev.step (fun k => ?_) hr, hM⟩
        simp only [law12_Make.j1, if_true]
        rw [if_pos (by omega), if_pos (by omega), if_neg (by omega), hr0]
    obtain ⟨r, hr, hM⟩ := hj1
    refine ⟨r, Ev.step (fun k => ?_) hr, hM⟩
    simp only [law12_Make.l0]
    rw [hw2, if_pos (by omega), show decide ((l.length : Int) < 24) = true from decide_eq_true (by omega)]
  · refine ⟨l, Ev.step (f := fun k => law12_Make.j1 k ns l i false) (fun k => ?_) (Ev.step (f := fun _ => some l) (fun k => ?_) (Ev.now _)), h⟩
    · simp only [law12_Make.l0]
      rw [hw2, if_pos (by omega), show decide ((l.length : Int) < 24) = false from decide_eq_false (by omega)]
    · simp only [law12_Make.j1, Bool.false_eq_true, if_false]
theorem made_from {ns : List Int} (hb : Bytes ns) (hs : ns.length ≤ 1000) : ∀ (d : Nat) (i : Int), 0 ≤ i → i ≤ 1003 → (ns.length : Int) - i ≤ d → MakesFrom ns i
  | d, i, h0, h1, hd => by
    by_cases h2 : i + 2 < ns.length
    · cases d with
      | zero => omega
      | succ d => exact made_step hb hs h0 h2 (made_from hb hs d (i + 3) (by omega) (by omega) (by omega))
    · intro l h
      have hw2 : wrap64 (i + 2) = i + 2 := w64 (by omega) (by omega)
      refine ⟨l, Ev.step (f := fun k => law12_Make.j1 k ns l i false) (fun k => ?_) (Ev.step (f := fun _ => some l) (fun k => ?_) (Ev.now _)), h⟩
      · simp only [law12_Make.l0]
        rw [hw2, if_neg (by omega)]
      · simp only [law12_Make.j1, Bool.false_eq_true, if_false]
theorem made_all {ns : List Int} (hb : Bytes ns) (hs : ns.length ≤ 1000) : ∃ l, Ev (fun k => law12_Make.f k ns) l ∧ MadeP l := made_from hb hs ns.length 0 (by omega) (by omega) (by omega) [] made_nil
end Go.Proofs.Ytcgefpklljclgaa.Print

namespace Go.Proofs.Ytcgefpklljclgaa.Print
open Go.RowKit Go.Proofs.YtcgefpklljclgaaW.PrintWords Go.Proofs.YtcgefpklljclgaaW.PrintLast Go.Proofs.YtcgefpklljclgaaW.PrintMore
attribute [local go_sem] max2_int min2_int max_two min_two max_three min_three max_four min_four   -- for this text's walks alone
set_option linter.unusedVariables false
set_option linter.unusedSimpArgs false
end Go.Proofs.Ytcgefpklljclgaa.Print

namespace Go.Proofs.Ytcgefpklljclgaa.Print
open Go.RowKit Go.Proofs.YtcgefpklljclgaaW.PrintWords Go.Proofs.YtcgefpklljclgaaW.PrintLast Go.Proofs.YtcgefpklljclgaaW.PrintMore
attribute [local go_sem] max2_int min2_int max_two min_two max_three min_three max_four min_four   -- for this text's walks alone
set_option linter.unusedVariables false
set_option linter.unusedSimpArgs false
end Go.Proofs.Ytcgefpklljclgaa.Print

namespace Go.Proofs.Ytcgefpklljclgaa.Print
open Go.RowKit Go.Proofs.YtcgefpklljclgaaW.PrintWords Go.Proofs.YtcgefpklljclgaaW.PrintLast Go.Proofs.YtcgefpklljclgaaW.PrintMore
attribute [local go_sem] max2_int min2_int max_two min_two max_three min_three max_four min_four   -- for this text's walks alone
set_option linter.unusedVariables false
set_option linter.unusedSimpArgs false
end Go.Proofs.Ytcgefpklljclgaa.Print

namespace Go.Proofs.Ytcgefpklljclgaa.Print
open Go.RowKit Go.Proofs.YtcgefpklljclgaaW.PrintWords Go.Proofs.YtcgefpklljclgaaW.PrintLast Go.Proofs.YtcgefpklljclgaaW.PrintMore
attribute [local go_sem] max2_int min2_int max_two min_two max_three min_three max_four min_four   -- for this text's walks alone
set_option linter.unusedVariables false
set_option linter.unusedSimpArgs false
end Go.Proofs.Ytcgefpklljclgaa.Print

namespace Go.Proofs.Ytcgefpklljclgaa.Print
open Go.RowKit Go.Proofs.YtcgefpklljclgaaW.PrintWords Go.Proofs.YtcgefpklljclgaaW.PrintLast Go.Proofs.YtcgefpklljclgaaW.PrintMore
attribute [local go_sem] max2_int min2_int max_two min_two max_three min_three max_four min_four   -- for this text's walks alone
set_option linter.unusedVariables false
set_option linter.unusedSimpArgs false
end Go.Proofs.Ytcgefpklljclgaa.Print

namespace Go.Proofs.Ytcgefpklljclgaa.Print
open Go.RowKit Go.Proofs.YtcgefpklljclgaaW.PrintWords Go.Proofs.YtcgefpklljclgaaW.PrintLast Go.Proofs.YtcgefpklljclgaaW.PrintMore
attribute [local go_sem] max2_int min2_int max_two min_two max_three min_three max_four min_four   -- for this text's walks alone
set_option linter.unusedVariables false
set_option linter.unusedSimpArgs false
end Go.Proofs.Ytcgefpklljclgaa.Print

namespace Go.Proofs.Ytcgefpklljclgaa.Print
open Go.RowKit Go.Proofs.YtcgefpklljclgaaW.PrintWords Go.Proofs.YtcgefpklljclgaaW.PrintLast Go.Proofs.YtcgefpklljclgaaW.PrintMore
set_option linter.unusedVariables false
set_option linter.unusedSimpArgs false
/-! the program's way up -/
theorem tree_Up_l0 (l : List Item) (hl : l.length < 1000000) : ∀ (m : Nat) (n : ByteArray) (out : List ByteArray), out.length + m = l.length + 1 →
    Ev (fun k => tree_Up.l0 k l out (fnd l n)) (out ++ upGo l m n)
  | 0, n, out, hm => by
    rw [upGo.eq_1, List.append_nil]
    refine Ev.step (f := fun _ => some out) (fun k => ?_) (Ev.now _)
    simp only [tree_Up.l0]
    by_cases h : 0 ≤ fnd l n
    · rw [if_pos h, if_neg (by omega)]
    · rw [if_neg h]
  | m + 1, n, out, hm => by
    cases h : look l n with
    | none =>
      rw [upGo_none h, List.append_nil]
      refine Ev.step (f := fun _ => some out) (fun k => ?_) (Ev.now _)
      simp only [tree_Up.l0]
      rw [fnd_none h, if_neg (by omega)]
    | some x =>
      rw [upGo_some h]
      have h0 := fnd_ge.2 ⟨x, h⟩
      have h1 := fnd_lt l n
      obtain ⟨hx, hn⟩ := look_mem h
      refine Ev.step (f := fun k => tree_Up.l0 k l (out ++ [n]) (fnd l x.f1)) (fun k => ?_) ?_
      · simp only [tree_Up.l0]
        rw [if_pos h0, if_pos (by omega), if_pos h0, if_pos h1, if_pos (by omega), fnd_rd h, hn, tree_Find_eq]
        rfl
      · have := tree_Up_l0 l hl m x.f1 (out ++ [n]) (by simp; omega)
        simpa using this
theorem tree_Up_ev (l : List Item) (n : ByteArray) (hl : l.length < 1000000) : Ev (fun k => tree_Up.f k l n) (up l n) := by
  have := tree_Up_l0 l hl (l.length + 1) n [] (by simp)
  rw [List.nil_append] at this
  exact this
end Go.Proofs.Ytcgefpklljclgaa.Print

namespace Go.Proofs.Ytcgefpklljclgaa.Print
open Go.RowKit Go.Proofs.YtcgefpklljclgaaW.PrintWords Go.Proofs.YtcgefpklljclgaaW.PrintLast Go.Proofs.YtcgefpklljclgaaW.PrintMore
set_option linter.unusedVariables false
set_option linter.unusedSimpArgs false
end Go.Proofs.Ytcgefpklljclgaa.Print

namespace Go.Proofs.Ytcgefpklljclgaa.Print
open Go.RowKit Go.Proofs.YtcgefpklljclgaaW.PrintWords Go.Proofs.YtcgefpklljclgaaW.PrintLast Go.Proofs.YtcgefpklljclgaaW.PrintMore
set_option linter.unusedVariables false
set_option linter.unusedSimpArgs false
/-! when a tree is right: place by place -/
def Ok1 (l : List Item) (i : Nat) : Prop := ItemOK (rd_T31 l i) ∧ (0 < i → lt (rd_T31 l ((i : Int) - 1)).f0 (rd_T31 l i).f0 = true) ∧ ((rd_T31 l i).f1 = ⟨#[]⟩ ∨ ∃ y, look l (rd_T31 l i).f1 = some y)
def Ok2 (l : List Item) (i : Nat) : Prop := (∀ c : Comp, c.of (rd_T31 l i).f4 = c.of (rd_T31 l i).f3 + csum c l (rd_T31 l i).f0)
def Ok3 (l : List Item) (i : Nat) : Prop := (up l (rd_T31 l i).f0).length ≤ l.length
theorem rd_get {l : List Item} {i : Nat} (h : i < l.length) : rd_T31 l (i : Int) = l[i] := by rw [rd_item, Int.toNat_natCast]; simp [h]
theorem rd_mem {l : List Item} {i : Nat} (h : i < l.length) : rd_T31 l (i : Int) ∈ l := by rw [rd_get h]; exact List.getElem_mem h
theorem rightP_iff (l : List Item) : RightP l ↔ l.length ≤ 120 ∧ (∀ i, i < l.length → Ok1 l i) ∧ (∀ i, i < l.length → Ok2 l i) ∧ (∀ i, i < l.length → Ok3 l i) := by
  constructor
  · intro h
    refine ⟨h.len, fun i hi => ⟨h.ok _ (rd_mem hi), fun h0 => ?_, h.par _ (rd_mem hi)⟩, fun i hi c => h.sum c _ (rd_mem hi), fun i hi => up_len_iff.2 (h.chain _ (rd_mem hi))⟩
    have := List.pairwise_iff_getElem.1 h.sorted (i - 1) i (by omega) hi (by omega)
    rw [show ((i : Int) - 1) = ((i - 1 : Nat) : Int) from by omega, rd_get (show i - 1 < l.length by omega), rd_get hi]
    exact this
  · rintro ⟨h1, h2, h3, h4⟩
    have hx : ∀ x ∈ l, ∃ i, i < l.length ∧ rd_T31 l (i : Int) = x := fun x hx => by
      obtain ⟨i, hi, e⟩ := List.getElem_of_mem hx
      exact ⟨i, hi, by rw [rd_get hi]; exact e⟩
    refine ⟨h1, fun x hx' => ?_, ?_, fun x hx' => ?_, fun c x hx' => ?_, fun x hx' => ?_⟩
    · obtain ⟨i, hi, rfl⟩ := hx x hx'
      exact (h2 i hi).1
    · rw [List.pairwise_iff_getElem]
      intro i j hi hj hij
      have step : ∀ d : Nat, ∀ hd : i + 1 + d < l.length, lt l[i].f0 (l[i + 1 + d]).f0 = true := by
        intro d
        induction d with
        | zero =>
          intro hd
          have := (h2 (i + 1) (by omega)).2.1 (by omega)
          rw [show (((i + 1 : Nat) : Int) - 1) = (i : Int) from by omega, rd_get hi, rd_get (show i + 1 < l.length by omega)] at this
          exact this
        | succ d ih =>
          intro hd
          have := (h2 (i + 1 + (d + 1)) hd).2.1 (by omega)
          rw [show (((i + 1 + (d + 1) : Nat) : Int) - 1) = ((i + 1 + d : Nat) : Int) from by omega, rd_get (show i + 1 + d < l.length by omega), rd_get hd] at this
          exact lt_trans (ih (by omega)) this
      have := step (j - (i + 1)) (by omega)
      simpa [show i + 1 + (j - (i + 1)) = j by omega] using this
    · obtain ⟨i, hi, rfl⟩ := hx x hx'
      exact (h2 i hi).2.2
    · obtain ⟨i, hi, rfl⟩ := hx x hx'
      exact h3 i hi c
    · obtain ⟨i, hi, rfl⟩ := hx x hx'
      exact up_len_iff.1 (h4 i hi)
end Go.Proofs.Ytcgefpklljclgaa.Print

namespace Go.Proofs.Ytcgefpklljclgaa.Print
open Go.RowKit Go.Proofs.YtcgefpklljclgaaW.PrintWords Go.Proofs.YtcgefpklljclgaaW.PrintLast Go.Proofs.YtcgefpklljclgaaW.PrintMore
attribute [local go_sem] max2_int min2_int max_two min_two max_three min_three max_four min_four   -- for this text's walks alone
set_option linter.unusedVariables false
set_option linter.unusedSimpArgs false
end Go.Proofs.Ytcgefpklljclgaa.Print

namespace Go.Proofs.Ytcgefpklljclgaa.Print
open Go.RowKit Go.Proofs.YtcgefpklljclgaaW.PrintWords Go.Proofs.YtcgefpklljclgaaW.PrintLast Go.Proofs.YtcgefpklljclgaaW.PrintMore
attribute [local go_sem] max2_int min2_int max_two min_two max_three min_three max_four min_four   -- for this text's walks alone
set_option linter.unusedVariables false
set_option linter.unusedSimpArgs false
end Go.Proofs.Ytcgefpklljclgaa.Print

namespace Go.Proofs.Ytcgefpklljclgaa.Print
open Go.RowKit Go.Proofs.YtcgefpklljclgaaW.PrintWords Go.Proofs.YtcgefpklljclgaaW.PrintLast Go.Proofs.YtcgefpklljclgaaW.PrintMore
attribute [local go_sem] max2_int min2_int max_two min_two max_three min_three max_four min_four   -- for this text's walks alone
set_option linter.unusedVariables false
set_option linter.unusedSimpArgs false
end Go.Proofs.Ytcgefpklljclgaa.Print

namespace Go.Proofs.Ytcgefpklljclgaa.Print
open Go.RowKit Go.Proofs.YtcgefpklljclgaaW.PrintWords Go.Proofs.YtcgefpklljclgaaW.PrintLast Go.Proofs.YtcgefpklljclgaaW.PrintMore
attribute [local go_sem] max2_int min2_int max_two min_two max_three min_three max_four min_four   -- for this text's walks alone
set_option linter.unusedVariables false
set_option linter.unusedSimpArgs false
end Go.Proofs.Ytcgefpklljclgaa.Print

namespace Go.Proofs.Ytcgefpklljclgaa.Print
open Go.RowKit Go.Proofs.YtcgefpklljclgaaW.PrintWords Go.Proofs.YtcgefpklljclgaaW.PrintLast Go.Proofs.YtcgefpklljclgaaW.PrintMore
attribute [local go_sem] max2_int min2_int max_two min_two max_three min_three max_four min_four   -- for this text's walks alone
set_option linter.unusedVariables false
set_option linter.unusedSimpArgs false
end Go.Proofs.Ytcgefpklljclgaa.Print

namespace Go.Proofs.Ytcgefpklljclgaa.Print
open Go.RowKit Go.Proofs.YtcgefpklljclgaaW.PrintWords Go.Proofs.YtcgefpklljclgaaW.PrintLast Go.Proofs.YtcgefpklljclgaaW.PrintMore
attribute [local go_sem] max2_int min2_int max_two min_two max_three min_three max_four min_four   -- for this text's walks alone
set_option linter.unusedVariables false
set_option linter.unusedSimpArgs false
end Go.Proofs.Ytcgefpklljclgaa.Print

namespace Go.Proofs.Ytcgefpklljclgaa.Print
open Go.RowKit Go.Proofs.YtcgefpklljclgaaW.PrintWords Go.Proofs.YtcgefpklljclgaaW.PrintLast Go.Proofs.YtcgefpklljclgaaW.PrintMore
set_option linter.unusedVariables false
set_option linter.unusedSimpArgs false
def addV (a : Vec) (ws : List Item) : Vec := ⟨a.f0 + sumBy (fun x => x.f4.f0) ws, a.f1 + sumBy (fun x => x.f4.f1) ws, a.f2 + sumBy (fun x => x.f4.f2) ws⟩
theorem addV_nil (a : Vec) : addV a [] = a := by unfold addV; simp [sumBy_nil]
theorem addV_cons (a : Vec) (x : Item) (ws : List Item) : addV a (x :: ws) = addV (vadd a x.f4) ws := by
  unfold addV vadd
  simp only [sumBy_cons]
  congr 1 <;> omega
def SmallV (a : Vec) (n : Nat) : Prop := ∀ c : Comp, 0 ≤ c.of a ∧ c.of a ≤ 1099511627776 * n
theorem small_zero : SmallV ⟨0, 0, 0⟩ 0 := fun c => by cases c <;> simp [Comp.of]
theorem small_add {a b : Vec} {n : Nat} (ha : SmallV a n) (hb : MayP b) : SmallV (vadd a b) (n + 1) := fun c => by
  have h1 := ha c; have h2 := hb c
  rw [of_vadd]; omega
theorem small_wrap {a b : Vec} {n : Nat} (ha : SmallV a n) (hb : MayP b) (hn : n ≤ 1000) : wrap64 (a.f0 + b.f0) = (vadd a b).f0 ∧ wrap64 (a.f1 + b.f1) = (vadd a b).f1 ∧ wrap64 (a.f2 + b.f2) = (vadd a b).f2 := by
  have a0 := ha .cpu; have a1 := ha .mem; have a2 := ha .pods
  have b0 := hb .cpu; have b1 := hb .mem; have b2 := hb .pods
  simp only [Comp.of] at a0 a1 a2 b0 b1 b2
  exact ⟨w64 (by omega) (by omega), w64 (by omega) (by omega), w64 (by omega) (by omega)⟩
theorem vecAdd_items : ∀ (ws : List Item) (a : Vec) (n : Nat), SmallV a n → (∀ x ∈ ws, MayP x.f4) → n + ws.length ≤ 1000 → vecByF (fun x y => wrap64 (x + y)) (ws.map (·.f4)) a.f0 a.f1 a.f2 = ((addV a ws).f0, (addV a ws).f1, (addV a ws).f2)
  | [], a, n, ha, hw, hn => by rw [addV_nil]; rfl
  | x :: ws, a, n, ha, hw, hn => by
    rw [addV_cons]
    obtain ⟨e0, e1, e2⟩ := small_wrap ha (hw x (by simp)) (by simp at hn; omega)
    have := vecAdd_items ws (vadd a x.f4) (n + 1) (small_add ha (hw x (by simp))) (fun y hy => hw y (by simp [hy])) (by simp at hn; omega)
    rw [← this]
    show vecByF (fun x y => wrap64 (x + y)) (ws.map (·.f4)) (wrap64 (a.f0 + x.f4.f0)) (wrap64 (a.f1 + x.f4.f1)) (wrap64 (a.f2 + x.f4.f2)) = _
    rw [e0, e1, e2]
end Go.Proofs.Ytcgefpklljclgaa.Print

namespace Go.Proofs.Ytcgefpklljclgaa.Print
open Go.RowKit Go.Proofs.YtcgefpklljclgaaW.PrintWords Go.Proofs.YtcgefpklljclgaaW.PrintLast Go.Proofs.YtcgefpklljclgaaW.PrintMore
set_option linter.unusedVariables false
set_option linter.unusedSimpArgs false
theorem sumBy_filter (g : Item → Int) (p : Item → Bool) : ∀ l : List Item, sumBy g (l.filter p) = sumBy (fun x => if p x = true then g x else 0) l
  | [] => rfl
  | x :: l => by
    rw [sumBy_cons]
    by_cases h : p x = true
    · rw [List.filter_cons_of_pos h, sumBy_cons, sumBy_filter g p l, if_pos h]
    · rw [List.filter_cons_of_neg h, sumBy_filter g p l, if_neg h]; omega
theorem below_l0 (l : List Item) (n : ByteArray) (hl : l.length < 1000000) : ∀ (d i : Nat) (acc : List ByteArray), l.length - i = d → i ≤ l.length → acc.length ≤ i → Ev (fun k => r10_Below.l0 k l n acc i) (acc ++ ((l.drop i).filter (fun x => decide (x.f1 = n))).map (·.f0))
  | 0, i, acc, hd, hi, ha => by
    obtain rfl : i = l.length := by omega
    rw [List.drop_length]
    refine Ev.step (f := fun _ => some acc) (fun k => ?_) (by rw [show acc ++ (([] : List Item).filter (fun x => decide (x.f1 = n))).map (·.f0) = acc from List.append_nil _]; exact Ev.now _)
    rw [r10_Below.l0, if_neg (by omega)]
  | d + 1, i, acc, hd, hi, ha => by
    have hlt : i < l.length := by omega
    have hrd : rd_T31 l (i : Int) = l[i] := by rw [rd_item, Int.toNat_natCast]; simp [hlt]
    rw [List.drop_eq_getElem_cons hlt]
    generalize l[i] = x at *
    by_cases h : x.f1 = n
    · rw [List.filter_cons_of_pos (by exact decide_eq_true h)]
      refine Ev.step (f := fun k => r10_Below.l0 k l n (acc ++ [x.f0]) ((i + 1 : Nat) : Int)) (fun k => ?_) ?_
      · rw [r10_Below.l0, if_pos (by omega), if_pos (by omega), hrd, if_pos (nm_inj.2 h), if_pos (by omega), w64 (by omega) (by omega)]
        rfl
      · have := below_l0 l n hl d (i + 1) (acc ++ [x.f0]) (by omega) (by omega) (by simp; omega)
        rw [List.append_assoc] at this
        exact this
    · rw [List.filter_cons_of_neg (by simpa using h)]
      refine Ev.step (f := fun k => r10_Below.l0 k l n acc ((i + 1 : Nat) : Int)) (fun k => ?_) (below_l0 l n hl d (i + 1) acc (by omega) (by omega) (by omega))
      rw [r10_Below.l0, if_pos (by omega), if_pos (by omega), hrd, if_neg (fun q => h (nm_inj.1 q)), w64 (by omega) (by omega)]
      rfl
def kids (l : List Item) (n : ByteArray) : List ByteArray := (l.filter (fun x => decide (x.f1 = n))).map (·.f0)
theorem below_ev (l : List Item) (n : ByteArray) (hl : l.length < 1000000) : Ev (fun k => r10_Below.f k l n) (kids l n) := by
  have h := below_l0 l n hl _ 0 [] rfl (by omega) (by simp)
  rw [List.drop_zero, List.nil_append] at h
  exact h
theorem kids_len (l : List Item) (n : ByteArray) : (kids l n).length ≤ l.length := by unfold kids; rw [List.length_map]; exact List.length_filter_le _ _
end Go.Proofs.Ytcgefpklljclgaa.Print

namespace Go.Proofs.Ytcgefpklljclgaa.Print
open Go.RowKit Go.Proofs.YtcgefpklljclgaaW.PrintWords Go.Proofs.YtcgefpklljclgaaW.PrintLast Go.Proofs.YtcgefpklljclgaaW.PrintMore
set_option linter.unusedVariables false
set_option linter.unusedSimpArgs false
/-! the document's answer of any tree -/
theorem of_addV_ (c : Comp) (a : Vec) (ws : List Item) : c.of (addV a ws) = c.of a + sumBy (fun x => c.of x.f4) ws := by cases c <;> rfl
theorem addV_snoc_ (a : Vec) (ws : List Item) (y : Item) : addV a (ws ++ [y]) = vadd (addV a ws) y.f4 := vec_ext fun c => by
  rw [of_vadd, of_addV_, of_addV_, sumBy_append, sumBy_cons, sumBy_nil]; omega
theorem small_addV_ {a : Vec} {n : Nat} (ha : SmallV a n) {ws : List Item} (hw : ∀ y ∈ ws, MayP y.f4) : SmallV (addV a ws) (n + ws.length) := fun c => by
  have h1 := ha c
  have h2 := sumBy_nonneg (g := fun x => c.of x.f4) (l := ws) (fun y hy => (hw y hy c).1)
  have h3 := sumBy_le (g := fun x => c.of x.f4) (B := 1099511627776) (l := ws) (fun y hy => (hw y hy c).2)
  rw [of_addV_]
  omega
theorem r10_add_small_ {a b : Vec} {n : Nat} (ha : SmallV a n) (hb : MayP b) (hn : n ≤ 1000) : r10_Add.f a.f0 a.f1 a.f2 b.f0 b.f1 b.f2 = some ((vadd a b).f0, (vadd a b).f1, (vadd a b).f2) := by
  obtain ⟨e0, e1, e2⟩ := small_wrap ha hb hn
  unfold r10_Add.f
  rw [e0, e1, e2]
theorem ok2_iff {l : List Item} {i : Nat} {x : Item} (hx : rd_T31 l i = x) : Ok2 l i ↔ addV x.f3 (l.filter (fun y => decide (y.f1 = x.f0))) = x.f4 := by
  have key : ∀ c : Comp, c.of (addV x.f3 (l.filter (fun y => decide (y.f1 = x.f0)))) = c.of x.f3 + csum c l x.f0 := fun c => by
    rw [of_addV_, sumBy_filter]
    simp only [decide_eq_true_eq]
    rfl
  unfold Ok2
  rw [hx]
  constructor
  · intro h
    exact vec_ext fun c => by rw [key c, h c]
  · intro h c
    rw [← key c, h]
theorem r10_full_l2 {l : List Item} (hlen : l.length ≤ 120) (h1 : ∀ i, i < l.length → Ok1 l i) {i : Nat} (hi : i < l.length) {x : Item} (hx : rd_T31 l i = x) {b : Bool} (hno : ¬ (Ok2 l i ∧ Ok3 l i) → b = false)
    (rest : Ok2 l i ∧ Ok3 l i → Ev (fun k => r10_Right.l1 k l ((i + 1 : Nat) : Int)) b) : ∀ (d j : Nat), l.length - j = d → j ≤ l.length →
    Ev (fun k => r10_Right.l2 k l i j (addV x.f3 ((l.take j).filter (fun y => decide (y.f1 = x.f0)))).f0 (addV x.f3 ((l.take j).filter (fun y => decide (y.f1 = x.f0)))).f1 (addV x.f3 ((l.take j).filter (fun y => decide (y.f1 = x.f0)))).f2) b
  | 0, j, hd, hj => by
    obtain rfl : j = l.length := by omega
    rw [List.take_length]
    have hok := ok2_iff (l := l) (i := i) hx
    generalize addV x.f3 (l.filter (fun y => decide (y.f1 = x.f0))) = s at hok
    refine Ev.step (fun k => r10_Right.l2.eq_2 (k := k) ..) ?_
    have e1 : ((i : Int) < (l.length : Int)) = True := eq_true (by omega)
    have e2 : ((0 : Int) ≤ (i : Int)) = True := eq_true (by omega)
    have e3 : wrap64 ((i : Int) + 1) = ((i + 1 : Nat) : Int) := by rw [w64 (by omega) (by omega)]; rfl
    simp only [Int.lt_irrefl, if_false, e1, e2, if_true, hx, e3]
    by_cases hs : s = x.f4
    · subst hs
      refine Ev.congr (fun k => if_neg (by simp)) ?_
      refine Ev.bind (r10_Up_ev l x.f0 (by omega)) ?_
      by_cases hu : (up l x.f0).length ≤ l.length
      · exact Ev.congr (fun k => if_neg (by omega)) (rest ⟨hok.2 rfl, by unfold Ok3; rw [hx]; exact hu⟩)
      · refine Ev.congr (fun k => if_pos (by omega)) ?_
        rw [hno (fun q => hu (by have := q.2; unfold Ok3 at this; rw [hx] at this; exact this))]
        exact Ev.now _
    · refine Ev.congr (fun k => if_pos ?_) ?_
      · have : ¬ (s.f0 = x.f4.f0 ∧ s.f1 = x.f4.f1 ∧ s.f2 = x.f4.f2) := fun ⟨a, b, c⟩ => hs (vec_ext fun d => by cases d <;> assumption)
        by_cases a : s.f0 = x.f4.f0 <;> by_cases b : s.f1 = x.f4.f1 <;> by_cases c : s.f2 = x.f4.f2 <;> simp_all
      · rw [hno (fun q => hs (hok.1 q.1))]
        exact Ev.now _
  | d + 1, j, hd, hj => by
    have hlt : j < l.length := by omega
    have ih := r10_full_l2 hlen h1 hi hx hno rest d (j + 1) (by omega) (by omega)
    have hrd := rd_get hlt
    have hall : ∀ y ∈ l, ItemOK y := fun y hy => by
      obtain ⟨m, hm, e⟩ := List.getElem_of_mem hy
      have := (h1 m hm).1
      rw [rd_get hm, e] at this
      exact this
    have hym : MayP (l[j]).f4 := (hall _ (List.getElem_mem hlt)).sub
    rw [List.take_succ_eq_append_getElem hlt, List.filter_append] at ih
    have hxm : ItemOK x := by rw [← hx]; exact (h1 i hi).1
    have hsm := small_addV_ (a := x.f3) (n := 1) (fun c => by have := hxm.own c; omega) (ws := (l.take j).filter (fun y => decide (y.f1 = x.f0))) (fun y hy => (hall y (List.mem_of_mem_take (List.mem_filter.1 hy).1)).sub)
    have hfl := List.length_filter_le (fun y : Item => decide (y.f1 = x.f0)) (l.take j)
    rw [List.length_take] at hfl
    generalize l[j] = y at hrd ih hym
    refine Ev.step (fun k => r10_Right.l2.eq_2 (k := k) ..) ?_
    have e1 : ((i : Int) < (l.length : Int)) = True := eq_true (by omega)
    have e2 : ((0 : Int) ≤ (i : Int)) = True := eq_true (by omega)
    have e4 : ((j : Int) < (l.length : Int)) = True := eq_true (by omega)
    have e5 : ((0 : Int) ≤ (j : Int)) = True := eq_true (by omega)
    have e3 : wrap64 ((j : Int) + 1) = ((j + 1 : Nat) : Int) := by rw [w64 (by omega) (by omega)]; rfl
    simp only [e1, e2, e4, e5, if_true, hx, hrd, e3]
    by_cases hy : y.f1 = x.f0
    · have e6 : (y.f1.toList = x.f0.toList) = True := eq_true (nm_inj.2 hy)
      rw [List.filter_cons_of_pos (by simpa using hy), List.filter_nil, addV_snoc_] at ih
      simp only [e6, if_true, r10_add_small_ hsm hym (by omega), Option.bind_some]
      exact ih
    · have e6 : (y.f1.toList = x.f0.toList) = False := eq_false (fun q => hy (nm_inj.1 q))
      rw [List.filter_cons_of_neg (by simpa using hy), List.filter_nil, List.append_nil] at ih
      simp only [e6, if_false]
      exact ih
theorem r10_full_l1 {l : List Item} (hlen : l.length ≤ 120) (h1 : ∀ i, i < l.length → Ok1 l i) {b : Bool} (hb : b = true ↔ RightP l) : ∀ (d i : Nat), l.length - i = d → i ≤ l.length → (∀ j, j < i → Ok2 l j ∧ Ok3 l j) → Ev (fun k => r10_Right.l1 k l i) b
  | 0, i, hd, hi, hp => by
    obtain rfl : i = l.length := by omega
    refine Ev.step (fun k => r10_Right.l1.eq_2 (k := k) ..) ?_
    simp only [Int.lt_irrefl, if_false]
    rw [hb.2 ((rightP_iff l).2 ⟨hlen, h1, fun j hj => (hp j hj).1, fun j hj => (hp j hj).2⟩)]
    exact Ev.now _
  | d + 1, i, hd, hi, hp => by
    have hlt : i < l.length := by omega
    refine Ev.step (fun k => r10_Right.l1.eq_2 (k := k) ..) ?_
    have e1 : ((i : Int) < (l.length : Int)) = True := eq_true (by omega)
    have e2 : ((0 : Int) ≤ (i : Int)) = True := eq_true (by omega)
    simp only [e1, e2, if_true]
    have := r10_full_l2 hlen h1 hlt (x := rd_T31 l i) rfl (b := b) (fun q => by
      cases b with
      | false => rfl
      | true =>
        obtain ⟨_, _, a, c⟩ := (rightP_iff l).1 (hb.1 rfl)
        exact absurd ⟨a i hlt, c i hlt⟩ q) (fun q => r10_full_l1 hlen h1 hb d (i + 1) (by omega) (by omega) (fun j hj => by
        by_cases e : j = i
        · rw [e]; exact q
        · exact hp j (by omega))) _ 0 rfl (by omega)
    rw [List.take_zero, List.filter_nil, addV_nil] at this
    exact this
theorem r10_full_l0 {l : List Item} (hlen : l.length ≤ 120) {b : Bool} (hb : b = true ↔ RightP l) : ∀ (d i : Nat), l.length - i = d → i ≤ l.length → (∀ j, j < i → Ok1 l j) → Ev (fun k => r10_Right.l0 k l i) b
  | 0, i, hd, hi, hp => by
    obtain rfl : i = l.length := by omega
    refine Ev.step (fun k => r10_Right.l0.eq_2 (k := k) ..) ?_
    simp only [Int.lt_irrefl, if_false]
    exact r10_full_l1 hlen hp hb _ 0 rfl (by omega) (fun j hj => absurd hj (by omega))
  | d + 1, i, hd, hi, hp => by
    have hlt : i < l.length := by omega
    have hbad : ¬ Ok1 l i → Ev (fun _ => some false) b := fun q => by
      cases b with
      | false => exact Ev.now _
      | true => exact absurd (((rightP_iff l).1 (hb.1 rfl)).2.1 i hlt) q
    have hnext : Ok1 l i → Ev (fun k => r10_Right.l0 k l ((i + 1 : Nat) : Int)) b := fun q => r10_full_l0 hlen hb d (i + 1) (by omega) (by omega) (fun j hj => by
      by_cases e : j = i
      · rw [e]; exact q
      · exact hp j (by omega))
    obtain ⟨x, hx⟩ : ∃ x, rd_T31 l (i : Int) = x := ⟨_, rfl⟩
    have hOk : Ok1 l i ↔ ItemOK x ∧ (0 < i → lt (rd_T31 l ((i : Int) - 1)).f0 x.f0 = true) ∧ (x.f1 = ⟨#[]⟩ ∨ ∃ y, look l x.f1 = some y) := by unfold Ok1; rw [hx]
    have e1 : ((i : Int) < (l.length : Int)) = True := eq_true (by omega)
    have e2 : ((0 : Int) ≤ (i : Int)) = True := eq_true (by omega)
    have e3 : wrap64 ((i : Int) + 1) = ((i + 1 : Nat) : Int) := by rw [w64 (by omega) (by omega)]; rfl
    have n0 : r10_MayName.f x.f0 = some (decide (x.f0 ≠ ⟨#[]⟩ ∧ x.f0.size ≤ 24)) := r10_MayName_eq _
    have n1 : r10_MayVec.f x.f2.f0 x.f2.f1 x.f2.f2 = some (decide (MayP x.f2)) := r10_MayVec_eq _ _ _
    have n2 : r10_MayVec.f x.f3.f0 x.f3.f1 x.f3.f2 = some (decide (MayP x.f3)) := r10_MayVec_eq _ _ _
    have n3 : r10_Le.f x.f4.f0 x.f4.f1 x.f4.f2 x.f2.f0 x.f2.f1 x.f2.f2 = some (decide (LeP x.f4 x.f2)) := r10_Le_eq _ _ _ _ _ _
    have n4 : r10_MayVec.f x.f4.f0 x.f4.f1 x.f4.f2 = some (decide (MayP x.f4)) := r10_MayVec_eq _ _ _
    refine Ev.step (fun k => r10_Right.l0.eq_2 (k := k) ..) ?_
    simp only [e1, e2, if_true, hx, n0, n1, n2, n3, n4, Option.bind_some, e3, decide_eq_true_eq]
    by_cases m0 : x.f0 ≠ ⟨#[]⟩ ∧ x.f0.size ≤ 24
    case neg => exact Ev.congr (fun k => if_neg m0) (hbad fun q => m0 ⟨(hOk.1 q).1.name, (hOk.1 q).1.size⟩)
    refine Ev.congr (fun k => if_pos m0) ?_
    have hver : (0 < i → lt (rd_T31 l ((i : Int) - 1)).f0 x.f0 = true) → MayP x.f2 → MayP x.f3 → (x.f1 = ⟨#[]⟩ ∨ ∃ y, look l x.f1 = some y) →
        Ev (fun k => if x.f5 < 1 then some false else if x.f5 > 9007199254740992 then some false else if LeP x.f4 x.f2 then (if MayP x.f4 then r10_Right.l0 k l ((i + 1 : Nat) : Int) else some false) else some false) b := fun ho ml mo hpar => by
      by_cases v1 : x.f5 < 1
      · exact Ev.congr (fun k => if_pos v1) (hbad fun q => by have := (hOk.1 q).1.ver; omega)
      refine Ev.congr (fun k => if_neg v1) ?_
      by_cases v2 : x.f5 > 9007199254740992
      · exact Ev.congr (fun k => if_pos v2) (hbad fun q => by have := (hOk.1 q).1.ver; omega)
      refine Ev.congr (fun k => if_neg v2) ?_
      by_cases v3 : LeP x.f4 x.f2
      case neg => exact Ev.congr (fun k => if_neg v3) (hbad fun q => v3 (hOk.1 q).1.fit)
      refine Ev.congr (fun k => if_pos v3) ?_
      by_cases v4 : MayP x.f4
      case neg => exact Ev.congr (fun k => if_neg v4) (hbad fun q => v4 (hOk.1 q).1.sub)
      exact Ev.congr (fun k => if_pos v4) (hnext (hOk.2 ⟨⟨m0.1, m0.2, ml, mo, v4, v3, by omega⟩, ho, hpar⟩))
    have hpar : (0 < i → lt (rd_T31 l ((i : Int) - 1)).f0 x.f0 = true) → Ev (fun k => if MayP x.f2 then (if MayP x.f3 then (if x.f1.toList = ([] : List UInt8) then (if x.f5 < 1 then some false else if x.f5 > 9007199254740992 then some false else if LeP x.f4 x.f2 then (if MayP x.f4 then r10_Right.l0 k l ((i + 1 : Nat) : Int) else some false) else some false) else ((r10_Find.f k l x.f1).bind fun t9 => (if t9 < 0 then some false else (if x.f5 < 1 then some false else if x.f5 > 9007199254740992 then some false else if LeP x.f4 x.f2 then (if MayP x.f4 then r10_Right.l0 k l ((i + 1 : Nat) : Int) else some false) else some false)))) else some false) else some false) b := fun ho => by
      by_cases ml : MayP x.f2
      case neg => exact Ev.congr (fun k => if_neg ml) (hbad fun q => ml (hOk.1 q).1.lim)
      refine Ev.congr (fun k => if_pos ml) ?_
      by_cases mo : MayP x.f3
      case neg => exact Ev.congr (fun k => if_neg mo) (hbad fun q => mo (hOk.1 q).1.own)
      refine Ev.congr (fun k => if_pos mo) ?_
      by_cases hp : x.f1 = ⟨#[]⟩
      · exact Ev.congr (fun k => if_pos (nm_empty.2 hp)) (hver ho ml mo (.inl hp))
      · refine Ev.congr (fun k => if_neg (fun z => hp (nm_empty.1 z))) (Ev.bind (r10_Find_ev l x.f1 (by omega)) ?_)
        by_cases hf : fnd l x.f1 < 0
        · refine Ev.congr (fun k => if_pos hf) (hbad fun q => ?_)
          rcases (hOk.1 q).2.2 with z | ⟨y, hy⟩
          · exact hp z
          · rw [fnd_neg.1 hf] at hy; cases hy
        · exact Ev.congr (fun k => if_neg hf) (hver ho ml mo (.inr (fnd_ge.1 (by omega))))
    by_cases hi0 : (i : Int) > 0
    · have e4 : wrap64 ((i : Int) - 1) = (i : Int) - 1 := w64 (by omega) (by omega)
      have e5 : ((i : Int) > 0) = True := eq_true hi0
      have e6 : (0 ≤ (i : Int) - 1) = True := eq_true (by omega)
      have e7 : ((i : Int) - 1 < (l.length : Int)) = True := eq_true (by omega)
      simp only [e4, e5, e6, e7, if_true]
      by_cases m2 : lt (rd_T31 l ((i : Int) - 1)).f0 x.f0 = true
      · exact Ev.congr (fun k => if_pos m2) (hpar (fun _ => m2))
      · exact Ev.congr (fun k => if_neg m2) (hbad fun q => m2 ((hOk.1 q).2.1 (by omega)))
    · have e5 : ((i : Int) > 0) = False := eq_false hi0
      simp only [e5, if_false]
      exact hpar (fun q => absurd q (by omega))
theorem r10_Right_ev (l : List Item) {b : Bool} (hb : b = true ↔ RightP l) : Ev (fun k => r10_Right.f k l) b := by
  unfold r10_Right.f
  by_cases h : (l.length : Int) > 120
  · refine Ev.congr (fun k => if_pos h) ?_
    cases b with
    | false => exact Ev.now _
    | true => exact absurd (hb.1 rfl).len (by omega)
  · exact Ev.congr (fun k => if_neg h) (r10_full_l0 (by omega) hb _ 0 rfl (by omega) (fun j hj => absurd hj (by omega)))
end Go.Proofs.Ytcgefpklljclgaa.Print

namespace Go.Proofs.Ytcgefpklljclgaa.Print
open Go.RowKit Go.Proofs.YtcgefpklljclgaaW.PrintWords Go.Proofs.YtcgefpklljclgaaW.PrintLast Go.Proofs.YtcgefpklljclgaaW.PrintMore
attribute [local go_sem] max2_int min2_int max_two min_two max_three min_three max_four min_four   -- for this text's walks alone
set_option linter.unusedVariables false
set_option linter.unusedSimpArgs false
end Go.Proofs.Ytcgefpklljclgaa.Print

namespace Go.Proofs.Ytcgefpklljclgaa.Print
open Go.RowKit Go.Proofs.YtcgefpklljclgaaW.PrintWords Go.Proofs.YtcgefpklljclgaaW.PrintLast Go.Proofs.YtcgefpklljclgaaW.PrintMore
set_option linter.unusedVariables false
set_option linter.unusedSimpArgs false
/-- the document's answer, true or not -/
theorem r10_Right_some (l : List Item) : ∃ b, Ev (fun k => r10_Right.f k l) b ∧ (b = true ↔ RightP l) := by
  by_cases h : RightP l
  · exact ⟨true, r10_Right_ev l (by simp [h]), by simp [h]⟩
  · exact ⟨false, r10_Right_ev l (by simp [h]), by simp [h]⟩
end Go.Proofs.Ytcgefpklljclgaa.Print

namespace Go.Proofs.Ytcgefpklljclgaa.Print
open Go.RowKit Go.Proofs.YtcgefpklljclgaaW.PrintWords Go.Proofs.YtcgefpklljclgaaW.PrintLast Go.Proofs.YtcgefpklljclgaaW.PrintMore
attribute [local go_sem] max2_int min2_int max_two min_two max_three min_three max_four min_four   -- for this text's walks alone
set_option linter.unusedVariables false
set_option linter.unusedSimpArgs false
end Go.Proofs.Ytcgefpklljclgaa.Print

namespace Go.Proofs.Ytcgefpklljclgaa.Print
open Go.RowKit Go.Proofs.YtcgefpklljclgaaW.PrintWords Go.Proofs.YtcgefpklljclgaaW.PrintLast Go.Proofs.YtcgefpklljclgaaW.PrintMore
attribute [local go_sem] max2_int min2_int max_two min_two max_three min_three max_four min_four   -- for this text's walks alone
set_option linter.unusedVariables false
set_option linter.unusedSimpArgs false
end Go.Proofs.Ytcgefpklljclgaa.Print

namespace Go.Proofs.Ytcgefpklljclgaa.Print
open Go.RowKit Go.Proofs.YtcgefpklljclgaaW.PrintWords Go.Proofs.YtcgefpklljclgaaW.PrintLast Go.Proofs.YtcgefpklljclgaaW.PrintMore
attribute [local go_sem] max2_int min2_int max_two min_two max_three min_three max_four min_four   -- for this text's walks alone
set_option linter.unusedVariables false
set_option linter.unusedSimpArgs false
theorem eqA31 (d : Nat) (w : World) (x0 y0 : ByteArray) (x1 y1 : ByteArray) (x2 y2 : Int) (x3 y3 : Int) (x4 y4 : Int) (x5 y5 : Int) (x6 y6 : Int) (x7 y7 : Int) (x8 y8 : Int) (x9 y9 : Int) (x10 y10 : Int) (x11 y11 : Int) :
    (Op.equalIn (d + 3) 31 (.agg #[.string x0, .string x1, .int .i64 x2, .int .i64 x3, .int .i64 x4, .int .i64 x5, .int .i64 x6, .int .i64 x7, .int .i64 x8, .int .i64 x9, .int .i64 x10, .int .i64 x11]) (.agg #[.string y0, .string y1, .int .i64 y2, .int .i64 y3, .int .i64 y4, .int .i64 y5, .int .i64 y6, .int .i64 y7, .int .i64 y8, .int .i64 y9, .int .i64 y10, .int .i64 y11])).run Try.prog w = .ok (x0.toList == y0.toList && (x1.toList == y1.toList && ((x2 == y2 && (x3 == y3 && (x4 == y4))) && ((x5 == y5 && (x6 == y6 && (x7 == y7))) && ((x8 == y8 && (x9 == y9 && (x10 == y10))) && (x11 == y11)))))) w := by
  refine eqA_of Try.underlying31 (by kernel_rfl) ?_
  refine eqf_cons (by rfl) (by go_simp; rfl) (by go_simp; rfl) (by go_simp) ?_
  refine eqf_cons (by rfl) (by go_simp; rfl) (by go_simp; rfl) (by go_simp) ?_
  refine eqf_cons (by rfl) (by go_simp) (by go_simp) (eqA27 (d + 0) w _ _ _ _ _ _) ?_
  refine eqf_cons (by rfl) (by go_simp) (by go_simp) (eqA27 (d + 0) w _ _ _ _ _ _) ?_
  refine eqf_cons (by rfl) (by go_simp) (by go_simp) (eqA27 (d + 0) w _ _ _ _ _ _) ?_
  exact eqf_last (by rfl) (by go_simp; rfl) (by go_simp; rfl) (by go_simp)
end Go.Proofs.Ytcgefpklljclgaa.Print

namespace Go.Proofs.Ytcgefpklljclgaa.Print
open Go.RowKit Go.Proofs.YtcgefpklljclgaaW.PrintWords Go.Proofs.YtcgefpklljclgaaW.PrintLast Go.Proofs.YtcgefpklljclgaaW.PrintMore
attribute [local go_sem] max2_int min2_int max_two min_two max_three min_three max_four min_four   -- for this text's walks alone
set_option linter.unusedVariables false
set_option linter.unusedSimpArgs false
attribute [local go_sem high] eqA31
end Go.Proofs.Ytcgefpklljclgaa.Print

namespace Go.Proofs.Ytcgefpklljclgaa.Print
open Go.RowKit Go.Proofs.YtcgefpklljclgaaW.PrintWords Go.Proofs.YtcgefpklljclgaaW.PrintLast Go.Proofs.YtcgefpklljclgaaW.PrintMore
set_option linter.unusedVariables false
set_option linter.unusedSimpArgs false
/-! letting in, as the program does it -/
theorem vec_Le_eq (a b d a' b' d' : Int) : vec_Le.f a b d a' b' d' = some (decide (LeP ⟨a, b, d⟩ ⟨a', b', d'⟩)) := by
  unfold vec_Le.f
  by_cases h0 : a ≤ a' <;> by_cases h1 : b ≤ b' <;> simp [h0, h1, leP_iff]
theorem vec_May_eq (a b d : Int) : vec_May.f a b d = some (decide (MayP ⟨a, b, d⟩)) := by
  unfold vec_May.f vec_Most.f
  simp only [vec_Le_eq, Option.bind_some]
  by_cases h : LeP ⟨0, 0, 0⟩ ⟨a, b, d⟩
  · rw [if_pos (by exact decide_eq_true h)]
    congr 1
    rw [Bool.eq_iff_iff, decide_eq_true_iff, decide_eq_true_iff, mayP_iff, leP_iff]
    rw [leP_iff] at h
    constructor <;> intro k <;> omega
  · rw [if_neg (by simpa using h)]
    congr 1
    symm
    rw [decide_eq_false_iff_not, mayP_iff]
    rw [leP_iff] at h
    omega
end Go.Proofs.Ytcgefpklljclgaa.Print

namespace Go.Proofs.Ytcgefpklljclgaa.Print
open Go.RowKit Go.Proofs.YtcgefpklljclgaaW.PrintWords Go.Proofs.YtcgefpklljclgaaW.PrintLast Go.Proofs.YtcgefpklljclgaaW.PrintMore
set_option linter.unusedVariables false
set_option linter.unusedSimpArgs false
/-! the program's answer whether a tree is right -/
def MayN (x : Item) : Prop := x.f0 ≠ ⟨#[]⟩ ∧ x.f0.size ≤ 24 ∧ MayP x.f2 ∧ MayP x.f3 ∧ 1 ≤ x.f5 ∧ x.f5 ≤ 9007199254740992
instance (x : Item) : Decidable (MayN x) := by unfold MayN; infer_instance
theorem node_may_eq (x : Item) : tree_node_may.f x.f0 x.f1 x.f2.f0 x.f2.f1 x.f2.f2 x.f3.f0 x.f3.f1 x.f3.f2 x.f4.f0 x.f4.f1 x.f4.f2 x.f5 ([] : List Vec) = some (decide (MayN x)) := by
  unfold tree_node_may.f MayN
  simp only [vec_May_eq, Option.bind_some]
  by_cases h0 : x.f0 = ⟨#[]⟩
  · rw [if_pos (nm_empty.2 h0)]; simp [h0]
  rw [if_neg (fun q => h0 (nm_empty.1 q))]
  by_cases h1 : x.f0.size ≤ 24
  · rw [if_pos (by omega)]
    by_cases h2 : MayP x.f2
    · rw [if_pos (by exact decide_eq_true h2)]
      by_cases h3 : MayP x.f3
      · rw [if_pos (by exact decide_eq_true h3)]
        by_cases h4 : 1 ≤ x.f5
        · rw [if_pos h4]; simp [h0, h1, h2, h3, h4]
        · rw [if_neg h4]; simp [h4]
      · rw [if_neg (by simpa using h3)]; simp [h3]
    · rw [if_neg (by simpa using h2)]; simp [h2]
  · rw [if_neg (by omega)]; simp [h1]
/-- what the first pass asks of a place -/
def PA (l : List Item) (i : Nat) : Prop := MayN (rd_T31 l i) ∧ (0 < i → lt (rd_T31 l ((i : Int) - 1)).f0 (rd_T31 l i).f0 = true) ∧ ((rd_T31 l i).f1 = ⟨#[]⟩ ∨ ∃ y, look l (rd_T31 l i).f1 = some y) ∧ Ok3 l i ∧ MayP (rd_T31 l i).f4
/-- and the second -/
def PB (l : List Item) (i : Nat) : Prop := Ok2 l i ∧ LeP (rd_T31 l i).f4 (rd_T31 l i).f2
theorem right_PA {l : List Item} (h : RightP l) {i : Nat} (hi : i < l.length) : PA l i ∧ PB l i := by
  obtain ⟨h1, h2, h3, h4⟩ := (rightP_iff l).1 h
  obtain ⟨a, b, d⟩ := h2 i hi
  exact ⟨⟨⟨a.name, a.size, a.lim, a.own, a.ver⟩, b, d, h4 i hi, a.sub⟩, h3 i hi, a.fit⟩
theorem PA_right {l : List Item} (h1 : l.length ≤ 120) (ha : ∀ i, i < l.length → PA l i) (hb : ∀ i, i < l.length → PB l i) : RightP l :=
  (rightP_iff l).2 ⟨h1, fun i hi => by
    obtain ⟨⟨a1, a2, a3, a4, a5⟩, b, d, e, f⟩ := ha i hi
    exact ⟨⟨a1, a2, a3, a4, f, (hb i hi).2, a5⟩, b, d⟩, fun i hi => (hb i hi).1, fun i hi => (ha i hi).2.2.2.1⟩
theorem kids_sum (l : List Item) (n : ByteArray) : addV ⟨0, 0, 0⟩ (l.filter (fun y => decide (y.f1 = n))) = ⟨csum .cpu l n, csum .mem l n, csum .pods l n⟩ := by
  unfold addV csum
  simp only [sumBy_filter, decide_eq_true_eq, Comp.of, Int.zero_add]
theorem node_fits_eq {l : List Item} (hlen : l.length ≤ 120) (ha : ∀ i, i < l.length → PA l i) {i : Nat} (hi : i < l.length) {x : Item} (hx : rd_T31 l i = x) {b : Bool} (hb : b = true ↔ PB l i) :
    tree_node_fits.f x.f0 x.f1 x.f2.f0 x.f2.f1 x.f2.f2 x.f3.f0 x.f3.f1 x.f3.f2 x.f4.f0 x.f4.f1 x.f4.f2 x.f5 ((l.filter (fun y => decide (y.f1 = x.f0))).map (·.f4)) = some b := by
  have hfl := List.length_filter_le (fun y : Item => decide (y.f1 = x.f0)) l
  have hsub : ∀ y ∈ l, MayP y.f4 := fun y hy => by
    obtain ⟨j, hj, e⟩ := List.getElem_of_mem hy
    have := (ha j hj).2.2.2.2
    rw [rd_get hj, e] at this
    exact this
  have hown : MayP x.f3 := by rw [← hx]; exact (ha i hi).1.2.2.2.1
  unfold tree_node_fits.f
  rw [if_pos (by rw [List.length_map]; omega)]
  unfold vec_Add.f
  rw [vecByF_snoc]
  have h := vecAdd_items (l.filter (fun y => decide (y.f1 = x.f0))) ⟨0, 0, 0⟩ 0 small_zero (fun y hy => hsub y (List.mem_filter.1 hy).1) (by omega)
  dsimp only at h
  rw [h, kids_sum]
  have hcs : ∀ c : Comp, 0 ≤ csum c l x.f0 ∧ csum c l x.f0 ≤ 1099511627776 * l.length := fun c => by
    refine ⟨sumBy_nonneg fun y hy => ?_, sumBy_le fun y hy => ?_⟩
    · split
      · exact (hsub y hy c).1
      · omega
    · split
      · exact (hsub y hy c).2
      · omega
  have c0 := hcs .cpu; have c1 := hcs .mem; have c2 := hcs .pods
  have o0 := hown .cpu; have o1 := hown .mem; have o2 := hown .pods
  simp only [Comp.of] at o0 o1 o2
  dsimp only
  rw [w64 (n := csum .cpu l x.f0 + x.f3.f0) (by omega) (by omega), w64 (n := csum .mem l x.f0 + x.f3.f1) (by omega) (by omega), w64 (n := csum .pods l x.f0 + x.f3.f2) (by omega) (by omega)]
  simp only [Option.bind_some, vec_Le_eq]
  have hok : Ok2 l i ↔ x.f4.f0 = csum .cpu l x.f0 + x.f3.f0 ∧ x.f4.f1 = csum .mem l x.f0 + x.f3.f1 ∧ x.f4.f2 = csum .pods l x.f0 + x.f3.f2 := by
    unfold Ok2
    rw [hx, comp_all]
    simp only [Comp.of]
    constructor
    · rintro ⟨a, b, d⟩; omega
    · rintro ⟨a, b, d⟩; omega
  have hle : PB l i ↔ Ok2 l i ∧ LeP x.f4 x.f2 := by unfold PB; rw [hx]
  rw [hle, hok] at hb
  by_cases q : x.f4.f0 = csum .cpu l x.f0 + x.f3.f0 ∧ x.f4.f1 = csum .mem l x.f0 + x.f3.f1 ∧ x.f4.f2 = csum .pods l x.f0 + x.f3.f2
  · obtain ⟨q0, q1, q2⟩ := q
    rw [if_pos (by simp [q0, q1, q2])]
    congr 1
    rw [Bool.eq_iff_iff, hb, decide_eq_true_iff]
    exact ⟨fun z => ⟨⟨q0, q1, q2⟩, z⟩, fun z => z.2⟩
  · rw [if_neg (by simpa using q)]
    congr 1
    cases b with
    | false => rfl
    | true => exact absurd (hb.1 rfl).1 q
theorem tree_Right_l2 {l : List Item} (hlen : l.length ≤ 120) (ha : ∀ i, i < l.length → PA l i) {i : Nat} (hi : i < l.length) {x : Item} (hx : rd_T31 l i = x) {b : Bool} (h0 : ¬ PB l i → b = false)
    (h1 : PB l i → Ev (fun k => tree_Right.l1 k l l (l.length : Int) ((i + 1 : Nat) : Int)) b) : ∀ (d j : Nat), l.length - j = d → j ≤ l.length →
    Ev (fun k => tree_Right.l2 k l l (l.length : Int) i l (l.length : Int) j x.f0 x.f1 x.f2.f0 x.f2.f1 x.f2.f2 x.f3.f0 x.f3.f1 x.f3.f2 x.f4.f0 x.f4.f1 x.f4.f2 x.f5 x.f0 x.f1 x.f2.f0 x.f2.f1 x.f2.f2 x.f3.f0 x.f3.f1 x.f3.f2 x.f4.f0 x.f4.f1 x.f4.f2 x.f5 (((l.take j).filter (fun y => decide (y.f1 = x.f0))).map (·.f4))) b
  | 0, j, hd, hj => by
    obtain rfl : j = l.length := by omega
    rw [List.take_length]
    refine Ev.step (fun k => tree_Right.l2.eq_2 (k := k) ..) ?_
    simp only [Int.lt_irrefl, if_false]
    by_cases hb : PB l i
    · simp only [node_fits_eq hlen ha hi hx (b := true) (by simp [hb]), Option.bind_some, if_true]
      rw [w64 (by omega) (by omega)]
      exact h1 hb
    · simp only [node_fits_eq hlen ha hi hx (b := false) (by simp [hb]), Option.bind_some, Bool.false_eq_true, if_false]
      rw [h0 hb]
      exact Ev.now _
  | d + 1, j, hd, hj => by
    have hlt : j < l.length := by omega
    have ih := tree_Right_l2 hlen ha hi hx h0 h1 d (j + 1) (by omega) (by omega)
    have hrd := rd_get hlt
    rw [List.take_succ_eq_append_getElem hlt, List.filter_append, List.map_append] at ih
    generalize l[j] = y at hrd ih
    refine Ev.step (fun k => tree_Right.l2.eq_2 (k := k) ..) ?_
    have e1 : ((j : Int) < (l.length : Int)) = True := eq_true (by omega)
    have e2 : ((0 : Int) ≤ (j : Int)) = True := eq_true (by omega)
    have e3 : wrap64 ((j : Int) + 1) = ((j + 1 : Nat) : Int) := by rw [w64 (by omega) (by omega)]; rfl
    simp only [e1, e2, if_true, hrd, e3]
    by_cases hy : y.f1 = x.f0
    · have e4 : (y.f1.toList = x.f0.toList) = True := eq_true (nm_inj.2 hy)
      have e5 : ((((l.take j).filter (fun y => decide (y.f1 = x.f0))).map (·.f4)).length < 5864062014805) = True := eq_true (by
        rw [List.length_map]
        have := List.length_filter_le (fun y : Item => decide (y.f1 = x.f0)) (l.take j)
        rw [List.length_take] at this
        omega)
      simp only [e4, e5, if_true]
      rw [List.filter_cons_of_pos (by simpa using hy)] at ih
      exact ih
    · have e4 : (y.f1.toList = x.f0.toList) = False := eq_false (fun q => hy (nm_inj.1 q))
      simp only [e4, if_false]
      rw [List.filter_cons_of_neg (by simpa using hy), List.filter_nil, List.map_nil, List.append_nil] at ih
      exact ih
theorem tree_Right_l1 {l : List Item} (hlen : l.length ≤ 120) (ha : ∀ i, i < l.length → PA l i) {b : Bool} (hb : b = true ↔ RightP l) : ∀ (d i : Nat), l.length - i = d → i ≤ l.length → (∀ j, j < i → PB l j) → Ev (fun k => tree_Right.l1 k l l (l.length : Int) i) b
  | 0, i, hd, hi, hp => by
    obtain rfl : i = l.length := by omega
    refine Ev.step (fun k => tree_Right.l1.eq_2 (k := k) ..) ?_
    simp only [Int.lt_irrefl, if_false]
    rw [hb.2 (PA_right hlen ha hp)]
    exact Ev.now _
  | d + 1, i, hd, hi, hp => by
    have hlt : i < l.length := by omega
    refine Ev.step (fun k => tree_Right.l1.eq_2 (k := k) ..) ?_
    have e1 : ((i : Int) < (l.length : Int)) = True := eq_true (by omega)
    have e2 : ((0 : Int) ≤ (i : Int)) = True := eq_true (by omega)
    simp only [e1, e2, if_true]
    have := tree_Right_l2 hlen ha hlt (x := rd_T31 l i) rfl (b := b) (fun q => by
      cases b with
      | false => rfl
      | true => exact absurd (right_PA (hb.1 rfl) hlt).2 q) (fun q => tree_Right_l1 hlen ha hb d (i + 1) (by omega) (by omega) (fun j hj => by
        by_cases e : j = i
        · rw [e]; exact q
        · exact hp j (by omega))) _ 0 rfl (by omega)
    rw [List.take_zero] at this
    exact this
theorem tree_Right_l0 {l : List Item} (hlen : l.length ≤ 120) {b : Bool} (hb : b = true ↔ RightP l) : ∀ (d i : Nat), l.length - i = d → i ≤ l.length → (∀ j, j < i → PA l j) → Ev (fun k => tree_Right.l0 k l l (l.length : Int) i) b
  | 0, i, hd, hi, hp => by
    obtain rfl : i = l.length := by omega
    refine Ev.step (fun k => tree_Right.l0.eq_2 (k := k) ..) ?_
    simp only [Int.lt_irrefl, if_false]
    exact tree_Right_l1 hlen hp hb _ 0 rfl (by omega) (fun j hj => absurd hj (by omega))
  | d + 1, i, hd, hi, hp => by
    have hlt : i < l.length := by omega
    have hno : ¬ PA l i → b = false := fun q => by
      cases b with
      | false => rfl
      | true => exact absurd (right_PA (hb.1 rfl) hlt).1 q
    have hnext : PA l i → Ev (fun k => tree_Right.l0 k l l (l.length : Int) ((i + 1 : Nat) : Int)) b := fun q => tree_Right_l0 hlen hb d (i + 1) (by omega) (by omega) (fun j hj => by
      by_cases e : j = i
      · rw [e]; exact q
      · exact hp j (by omega))
    have e1 : ((i : Int) < (l.length : Int)) = True := eq_true (by omega)
    have e2 : ((0 : Int) ≤ (i : Int)) = True := eq_true (by omega)
    have e3 : wrap64 ((i : Int) + 1) = ((i + 1 : Nat) : Int) := by rw [w64 (by omega) (by omega)]; rfl
    obtain ⟨x, hx⟩ : ∃ x, rd_T31 l (i : Int) = x := ⟨_, rfl⟩
    have hPA : PA l i ↔ MayN x ∧ (0 < i → lt (rd_T31 l ((i : Int) - 1)).f0 x.f0 = true) ∧ (x.f1 = ⟨#[]⟩ ∨ ∃ y, look l x.f1 = some y) ∧ (up l x.f0).length ≤ l.length ∧ MayP x.f4 := by unfold PA Ok3; rw [hx]
    refine Ev.step (fun k => tree_Right.l0.eq_2 (k := k) ..) ?_
    simp only [e1, e2, if_true, hx, node_may_eq, Option.bind_some]
    refine Ev.bind (tree_Up_ev l x.f0 (by omega)) ?_
    have jbad : ¬ PA l i → Ev (fun k => tree_Right.j1 k l l (l.length : Int) i true x.f0 x.f1 x.f2.f0 x.f2.f1 x.f2.f2 x.f3.f0 x.f3.f1 x.f3.f2 x.f4.f0 x.f4.f1 x.f4.f2 x.f5) b := fun q => by
      refine Ev.step (fun k => tree_Right.j1.eq_2 (k := k) ..) ?_
      simp only [if_true]
      rw [hno q]; exact Ev.now _
    have jrest : MayN x → (0 < i → lt (rd_T31 l ((i : Int) - 1)).f0 x.f0 = true) → (x.f1 = ⟨#[]⟩ ∨ ∃ y, look l x.f1 = some y) → Ev (fun k => tree_Right.j1 k l l (l.length : Int) i (decide (((up l x.f0).length : Int) > (l.length : Int))) x.f0 x.f1 x.f2.f0 x.f2.f1 x.f2.f2 x.f3.f0 x.f3.f1 x.f3.f2 x.f4.f0 x.f4.f1 x.f4.f2 x.f5) b := fun m1 m2 m3 => by
      by_cases hu : (up l x.f0).length ≤ l.length
      · rw [decide_eq_false (by omega)]
        refine Ev.step (fun k => tree_Right.j1.eq_2 (k := k) ..) ?_
        simp only [Bool.false_eq_true, if_false, vec_May_eq, Option.bind_some, decide_eq_true_eq]
        by_cases hs : MayP x.f4
        · have hs' : MayP ⟨x.f4.f0, x.f4.f1, x.f4.f2⟩ = True := eq_true hs
          simp only [hs', if_true, e3]
          exact hnext (hPA.2 ⟨m1, m2, m3, hu, hs⟩)
        · have hs' : MayP ⟨x.f4.f0, x.f4.f1, x.f4.f2⟩ = False := eq_false hs
          simp only [hs', if_false]
          rw [hno (fun q => hs (hPA.1 q).2.2.2.2)]; exact Ev.now _
      · rw [decide_eq_true (by omega)]
        exact jbad (fun q => hu (hPA.1 q).2.2.2.1)
    have jpar : MayN x → (0 < i → lt (rd_T31 l ((i : Int) - 1)).f0 x.f0 = true) → Ev (fun k => if x.f1.toList = ([] : List UInt8) then tree_Right.j1 k l l (l.length : Int) i (decide (((up l x.f0).length : Int) > (l.length : Int))) x.f0 x.f1 x.f2.f0 x.f2.f1 x.f2.f2 x.f3.f0 x.f3.f1 x.f3.f2 x.f4.f0 x.f4.f1 x.f4.f2 x.f5 else ((tree_Find.f l x.f1).bind fun t8 => (if t8 < 0 then tree_Right.j1 k l l (l.length : Int) i true x.f0 x.f1 x.f2.f0 x.f2.f1 x.f2.f2 x.f3.f0 x.f3.f1 x.f3.f2 x.f4.f0 x.f4.f1 x.f4.f2 x.f5 else tree_Right.j1 k l l (l.length : Int) i (decide (((up l x.f0).length : Int) > (l.length : Int))) x.f0 x.f1 x.f2.f0 x.f2.f1 x.f2.f2 x.f3.f0 x.f3.f1 x.f3.f2 x.f4.f0 x.f4.f1 x.f4.f2 x.f5))) b := fun m1 m2 => by
      by_cases hp : x.f1 = ⟨#[]⟩
      · exact Ev.congr (fun k => if_pos (nm_empty.2 hp)) (jrest m1 m2 (.inl hp))
      · refine Ev.congr (fun k => if_neg (fun q => hp (nm_empty.1 q))) ?_
        simp only [tree_Find_eq, Option.bind_some]
        by_cases hf : fnd l x.f1 < 0
        · refine Ev.congr (fun k => if_pos hf) (jbad fun q => ?_)
          rcases (hPA.1 q).2.2.1 with z | ⟨y, hy⟩
          · exact hp z
          · rw [fnd_neg.1 hf] at hy; cases hy
        · exact Ev.congr (fun k => if_neg hf) (jrest m1 m2 (.inr (fnd_ge.1 (by omega))))
    by_cases m1 : MayN x
    · have m1' : decide (MayN x) = true := decide_eq_true m1
      simp only [m1', if_true]
      by_cases hi0 : (i : Int) > 0
      · have e4 : wrap64 ((i : Int) - 1) = (i : Int) - 1 := w64 (by omega) (by omega)
        have e5 : ((i : Int) > 0) = True := eq_true hi0
        have e6 : (0 ≤ (i : Int) - 1) = True := eq_true (by omega)
        have e7 : ((i : Int) - 1 < (l.length : Int)) = True := eq_true (by omega)
        simp only [e4, e5, e6, e7, if_true]
        by_cases m2 : lt (rd_T31 l ((i : Int) - 1)).f0 x.f0 = true
        · have m2' : (Op.bytesLess (rd_T31 l ((i : Int) - 1)).f0.toList x.f0.toList = true) = True := eq_true m2
          simp only [m2', if_true]
          exact jpar m1 (fun _ => m2)
        · have m2' : (Op.bytesLess (rd_T31 l ((i : Int) - 1)).f0.toList x.f0.toList = true) = False := eq_false m2
          simp only [m2', if_false]
          exact jbad (fun q => m2 ((hPA.1 q).2.1 (by omega)))
      · have e5 : ((i : Int) > 0) = False := eq_false hi0
        simp only [e5, if_false]
        exact jpar m1 (fun q => absurd q (by omega))
    · have m1' : decide (MayN x) = false := decide_eq_false m1
      simp only [m1', Bool.false_eq_true, if_false]
      exact jbad (fun q => m1 (hPA.1 q).1)
/-- whether a tree is right: the program's answer -/
theorem tree_Right_ev (l : List Item) {b : Bool} (hb : b = true ↔ RightP l) : Ev (fun k => tree_Right.f k l) b := by
  unfold tree_Right.f
  by_cases h : (l.length : Int) > 120
  · refine Ev.congr (fun k => if_pos h) ?_
    cases b with
    | false => exact Ev.now _
    | true => exact absurd (hb.1 rfl).len (by omega)
  · exact Ev.congr (fun k => if_neg h) (tree_Right_l0 (by omega) hb _ 0 rfl (by omega) (fun j hj => absurd hj (by omega)))
theorem tree_Right_true {l : List Item} (h : RightP l) : Ev (fun k => tree_Right.f k l) true := tree_Right_ev l (by simp [h])
end Go.Proofs.Ytcgefpklljclgaa.Print

namespace Go.Proofs.Ytcgefpklljclgaa.Print
open Go.RowKit Go.Proofs.YtcgefpklljclgaaW.PrintWords Go.Proofs.YtcgefpklljclgaaW.PrintLast Go.Proofs.YtcgefpklljclgaaW.PrintMore
attribute [local go_sem] max2_int min2_int max_two min_two max_three min_three max_four min_four   -- for this text's walks alone
set_option linter.unusedVariables false
set_option linter.unusedSimpArgs false
end Go.Proofs.Ytcgefpklljclgaa.Print

namespace Go.Proofs.Ytcgefpklljclgaa.Print
open Go.RowKit Go.Proofs.YtcgefpklljclgaaW.PrintWords Go.Proofs.YtcgefpklljclgaaW.PrintLast Go.Proofs.YtcgefpklljclgaaW.PrintMore
set_option linter.unusedVariables false
set_option linter.unusedSimpArgs false
theorem ta_awake_ev : Ev (fun k => law12_awake.f k) true := Ev.of (g := fun k => law12_awake.f k) (fun k => law12_awake.mono k) (k := 20) (by kernel_rfl)
theorem ta_texts_l0 (l : List ByteArray) (hl : l.length < 1000000) : ∀ (d i : Nat), l.length - i = d → i ≤ l.length → Ev (fun k => r1_Texts.l0 k l l i) true
  | 0, i, hd, hi => by
    refine Ev.step (f := fun _ => some true) (fun k => ?_) (Ev.now _)
    rw [r1_Texts.l0, if_neg (by omega)]
  | d + 1, i, hd, hi => by
    refine Ev.step (f := fun k => r1_Texts.l0 k l l ((i + 1 : Nat) : Int)) (fun k => ?_) (ta_texts_l0 l hl d (i + 1) (by omega) (by omega))
    rw [r1_Texts.l0, if_pos (by omega), if_pos (by omega), if_pos (by omega), if_pos rfl, w64 (by omega) (by omega)]
    rfl
theorem ta_texts (l : List ByteArray) (hl : l.length < 1000000) : Ev (fun k => r1_Texts.f k l l) true := Ev.congr (fun k => if_pos rfl) (ta_texts_l0 l hl _ 0 rfl (by omega))
theorem ta_below_l0 (l : List Item) (n : ByteArray) (hl : l.length < 1000000) : ∀ (d i : Nat) (acc : List ByteArray), l.length - i = d → i ≤ l.length → acc.length ≤ i → Ev (fun k => tree_Below.l0 k n acc l (l.length : Int) i) (acc ++ ((l.drop i).filter (fun x => decide (x.f1 = n))).map (·.f0))
  | 0, i, acc, hd, hi, ha => by
    obtain rfl : i = l.length := by omega
    rw [List.drop_length]
    refine Ev.step (f := fun _ => some acc) (fun k => ?_) (by rw [show acc ++ (([] : List Item).filter (fun x => decide (x.f1 = n))).map (·.f0) = acc from List.append_nil _]; exact Ev.now _)
    rw [tree_Below.l0, if_neg (by omega)]
  | d + 1, i, acc, hd, hi, ha => by
    have hlt : i < l.length := by omega
    have hrd : rd_T31 l (i : Int) = l[i] := by rw [rd_item, Int.toNat_natCast]; simp [hlt]
    rw [List.drop_eq_getElem_cons hlt]
    generalize l[i] = x at *
    by_cases h : x.f1 = n
    · rw [List.filter_cons_of_pos (by exact decide_eq_true h)]
      refine Ev.step (f := fun k => tree_Below.l0 k n (acc ++ [x.f0]) l (l.length : Int) ((i + 1 : Nat) : Int)) (fun k => ?_) ?_
      · rw [tree_Below.l0, if_pos (by omega), if_pos (by omega), if_pos (by omega), hrd, if_pos (nm_inj.2 h), if_pos (by omega), w64 (by omega) (by omega)]
        rfl
      · have := ta_below_l0 l n hl d (i + 1) (acc ++ [x.f0]) (by omega) (by omega) (by simp; omega)
        rw [List.append_assoc] at this
        exact this
    · rw [List.filter_cons_of_neg (by simpa using h)]
      refine Ev.step (f := fun k => tree_Below.l0 k n acc l (l.length : Int) ((i + 1 : Nat) : Int)) (fun k => ?_) (ta_below_l0 l n hl d (i + 1) acc (by omega) (by omega) (by omega))
      rw [tree_Below.l0, if_pos (by omega), if_pos (by omega), if_pos (by omega), hrd, if_neg (fun q => h (nm_inj.1 q)), w64 (by omega) (by omega)]
      rfl
theorem ta_below (l : List Item) (n : ByteArray) (hl : l.length < 1000000) : Ev (fun k => tree_Below.f k l n) (kids l n) := by
  have h := ta_below_l0 l n hl _ 0 [] rfl (by omega) (by simp)
  rw [List.drop_zero, List.nil_append] at h
  exact h
/-- all is told as the document says -/
theorem ta_same {l : List Item} (hl : l.length < 100000) (n : ByteArray) : Ev (fun k => law12_same.f k l n) true := by
  have hu := up_len l n
  have hk := kids_len l n
  unfold law12_same.f
  simp only [tree_Find_eq, Option.bind_some]
  refine Ev.bind (r10_Find_ev l n (by omega)) (Ev.congr (fun k => if_pos rfl) ?_)
  refine Ev.bind (tree_Up_ev l n (by omega)) (Ev.bind (r10_Up_ev l n (by omega)) (Ev.bind (ta_texts _ (by omega)) (Ev.congr (fun k => if_pos rfl) ?_)))
  refine Ev.bind (ta_below l n (by omega)) (Ev.bind (below_ev l n (by omega)) (Ev.bind (ta_texts _ (by omega)) (Ev.congr (fun k => if_pos rfl) ?_)))
  refine Ev.bind (r := true) (a := ((up l n).length : Int)) (Ev.bind (tree_Up_ev l n (by omega)) (Ev.now _)) (Ev.bind (r10_Up_ev l n (by omega)) ?_)
  rw [beq_self_eq_true]
  exact Ev.now _
end Go.Proofs.Ytcgefpklljclgaa.Print
namespace Go.Proofs.Ytcgefpklljclgaa.Pure
open Go.RowKit Go.Proofs.Ytcgefpklljclgaa.Print Go.Proofs.YtcgefpklljclgaaW.PrintWords Go.Proofs.YtcgefpklljclgaaW.PrintLast
set_option linter.unusedVariables false
set_option linter.unusedSimpArgs false
end Go.Proofs.Ytcgefpklljclgaa.Pure

namespace Go.Proofs.Ytcgefpklljclgaa.Pure
open Go.RowKit Go.Proofs.Ytcgefpklljclgaa.Print Go.Proofs.YtcgefpklljclgaaW.PrintWords Go.Proofs.YtcgefpklljclgaaW.PrintLast
set_option linter.unusedVariables false
set_option linter.unusedSimpArgs false
theorem TreeMade : law12_TreeMade.Pure := by
  intro l0 a1 a2 a3 hm hs hw w1 w2 w3
  have b1 := u8_bd w1; have b2 := u8_bd w2
  unfold law12_TreeMade.f
  by_cases h90 : (l0.length : Int) > 90
  · exact Ev.rounds (Ev.congr (fun k => if_pos h90) ta_awake_ev)
  obtain ⟨l, hlev, hM⟩ := made_all (ns := l0) (fun x hx => u8_bd (hw x hx)) (by omega)
  have hlen := hM.right.len
  refine Ev.rounds (Ev.congr (fun k => if_neg h90) (Ev.bind hlev (Ev.bind (tree_Right_true hM.right) ?_)))
  refine Ev.congr (fun k => if_pos rfl) (Ev.bind (ta_same (by omega) _) ?_)
  refine Ev.congr (fun k => if_pos rfl) (Ev.bind (ta_same (by omega) _) ?_)
  refine Ev.congr (fun k => if_pos rfl) ?_
  by_cases hz : (l.length : Int) = 0
  · exact Ev.congr (fun k => if_pos hz) ta_awake_ev
  refine Ev.congr (fun k => if_neg hz) ?_
  have q1 := tmod_in (a := a1) (b := (l.length : Int)) b1.1 (by omega)
  have q2 := tmod_in (a := a2) (b := 7) b2.1 (by omega)
  have e1 : wrap64 a1 = a1 := w64 (by omega) (by omega)
  refine Ev.congr (fun k => if_pos (by rw [e1]; exact ⟨q1.1, q1.2, q2.1, q2.2⟩)) ?_
  generalize l.set (Int.tmod (wrap64 a1) (l.length : Int)).toNat (turnI (Int.tmod a2 7) a3 (rd_T31 l (Int.tmod (wrap64 a1) (l.length : Int)))) = l2
  obtain ⟨b, hb, hb2⟩ := r10_Right_some l2
  exact Ev.bind (tree_Right_ev l2 hb2) (Ev.bind hb (Ev.congr (fun k => if_pos rfl) ta_awake_ev))
end Go.Proofs.Ytcgefpklljclgaa.Pure
