/- A part of the proof of AdmitAll: the machine's side by the kit's print, contracts and lemmas by this session. -/
import Derived.Test.YtcgefpklljclgaaBAdmitAll1
import Derived.Test.YtcgefpklljclgaaBAdmitAll3
namespace Go.Proofs.Ytcgefpklljclgaa.Print
open Go.RowKit Go.Proofs.YtcgefpklljclgaaW.PrintWords Go.Proofs.YtcgefpklljclgaaW.PrintLast Go.Proofs.YtcgefpklljclgaaW.PrintMore
attribute [local go_sem] max2_int min2_int max_two min_two max_three min_three max_four min_four   -- for this text's walks alone
set_option linter.unusedVariables false
set_option linter.unusedSimpArgs false
/-! ### r10_Sub: function 35 -/
def r10_Sub.f (a0_0 : Int) (a0_1 : Int) (a0_2 : Int) (a1_0 : Int) (a1_1 : Int) (a1_2 : Int) : Option (Int × Int × Int) := some (wrap64 (a0_0 - a1_0), wrap64 (a0_1 - a1_1), wrap64 (a0_2 - a1_2))
set_option maxHeartbeats 8000000 in
set_option maxRecDepth 100000 in
theorem r10_Sub.calls (a0_0 : Int) (a0_1 : Int) (a0_2 : Int) (a1_0 : Int) (a1_1 : Int) (a1_2 : Int) (r1 : Int) (r2 : Int) (r3 : Int) (w : World) (h : r10_Sub.f a0_0 a0_1 a0_2 a1_0 a1_1 a1_2 = some (r1, r2, r3)) :
  Calls Try.prog 35 #[.agg #[.int .i64 a0_0, .int .i64 a0_1, .int .i64 a0_2], .agg #[.int .i64 a1_0, .int .i64 a1_1, .int .i64 a1_2]] w fun e w' => e = .returned (.agg #[.int .i64 r1, .int .i64 r2, .int .i64 r3]) ∧ Below w.heap.size w w' := by
 have hu27 := Try.underlying27
 have HB := Aside0.mk (Below.refl w.heap.size w)
 have H : (some (wrap64 (a0_0 - a1_0), wrap64 (a0_1 - a1_1), wrap64 (a0_2 - a1_2))) = some (r1, r2, r3) := h
 clear h
 simp only [Option.some.injEq, Prod.mk.injEq] at H
 obtain ⟨rfl, rfl, rfl⟩ := H
 go_enter Try.func35, Try.ntmps35
 go_wp2_with (first|((with_reducible refine gate_dst (N := 2) rfl ?_);refine box_event ?hg (N := 2) ?hd (cs := #[.int .i64 a0_0, .int .i64 a0_1, .int .i64 a0_2]) (t := 27) ?hr ?_;(case hd => rfl);(case hg => rfl);(case hr => first|(go_simp;done)|(go_simp;rfl));intro gb1 hg w3 hbox hb;have n0_ := Aside0.mk (below_step (by repeat (first|(with_reducible first|exact HB.out|apply below_alloc|apply pw_below_drewN|apply below_drew1)|exact HB.out)) hb);have n1_ := Aside0.mk (hbox);have n2_ := Aside0.mk ((by rw [hg];exact (below_size (by repeat (first|(with_reducible first|exact HB.out|apply below_alloc|apply pw_below_drewN|apply below_drew1)|exact HB.out))) : w.heap.size ≤ gb1));have n3_ := Aside0.mk ((by rw [hg];exact (below_size (by repeat (first|(with_reducible first|exact HB.out|apply below_alloc|apply pw_below_drewN|apply below_drew1)|exact HB.out))) : w.heap.size ≤ gb1));clear HB;have HB := n0_;have BK1 := n1_;have GW1 := n2_;have GE1 := n3_;clear n0_ n1_ n2_ n3_;clear hb hbox hg)|((with_reducible refine gate_dst (N := 3) rfl ?_);refine box_event ?hg (N := 3) ?hd (cs := #[.int .i64 a1_0, .int .i64 a1_1, .int .i64 a1_2]) (t := 27) ?hr ?_;(case hd => rfl);(case hg => rfl);(case hr => first|(go_simp;done)|(go_simp;rfl));intro gb2 hg w4 hbox hb;have n0_ := Aside0.mk (blk_below (g := gb1) (o := .cells #[.int .i64 a0_0, .int .i64 a0_1, .int .i64 a0_2] 27 (0, 0)) (by (with_reducible repeat (first|refine blk_drewN ?_ _|refine blk_drew ?_|refine blk_alloc ?_ _));exact BK1.out) hb);have n1_ := Aside0.mk (below_step (by repeat (first|(with_reducible first|exact HB.out|apply below_alloc|apply pw_below_drewN|apply below_drew1|refine below_set ?_ GE1.out)|exact HB.out)) hb);have n2_ := Aside0.mk (hbox);have n3_ := Aside0.mk ((by rw [hg];exact (below_size (by repeat (first|(with_reducible first|exact HB.out|apply below_alloc|apply pw_below_drewN|apply below_drew1|refine below_set ?_ GE1.out)|exact HB.out))) : w.heap.size ≤ gb2));have n4_ := Aside0.mk ((by rw [hg];exact (below_size (by repeat (first|(with_reducible first|exact HB.out|apply below_alloc|apply pw_below_drewN|apply below_drew1|refine below_set ?_ GE1.out)|exact HB.out))) : w.heap.size ≤ gb2));have n5_ := Aside0.mk ((by rw [hg];exact Nat.ne_of_lt (blk_lt (g := gb1) (o := .cells #[.int .i64 a0_0, .int .i64 a0_1, .int .i64 a0_2] 27 (0, 0)) (by (with_reducible repeat (first|refine blk_drewN ?_ _|refine blk_drew ?_|refine blk_alloc ?_ _));exact BK1.out)) : gb1 ≠ gb2));have n6_ := Aside0.mk ((by rw [hg];exact Nat.ne_of_gt (blk_lt (g := gb1) (o := .cells #[.int .i64 a0_0, .int .i64 a0_1, .int .i64 a0_2] 27 (0, 0)) (by (with_reducible repeat (first|refine blk_drewN ?_ _|refine blk_drew ?_|refine blk_alloc ?_ _));exact BK1.out)) : gb2 ≠ gb1));clear BK1;clear HB;have BK1 := n0_;have HB := n1_;have BK2 := n2_;have GW2 := n3_;have GE2 := n4_;have NB1_2 := n5_;have NB2_1 := n6_;clear n0_ n1_ n2_ n3_ n4_ n5_ n6_;clear hb hbox hg)|((with_reducible refine gate_dst (N := 4) rfl ?_);refine box_event ?hg (N := 4) ?hd (cs := #[.int .i64 0, .int .i64 0, .int .i64 0]) (t := 27) ?hr ?_;(case hd => rfl);(case hg => rfl);(case hr => first|(go_simp;done)|(go_simp;rfl));intro gb3 hg w5 hbox hb;have n0_ := Aside0.mk (blk_below (g := gb1) (o := .cells #[.int .i64 a0_0, .int .i64 a0_1, .int .i64 a0_2] 27 (0, 0)) (by (with_reducible repeat (first|refine blk_drewN ?_ _|refine blk_drew ?_|refine blk_alloc ?_ _));exact BK1.out) hb);have n1_ := Aside0.mk (blk_below (g := gb2) (o := .cells #[.int .i64 a1_0, .int .i64 a1_1, .int .i64 a1_2] 27 (0, 0)) (by (with_reducible repeat (first|refine blk_drewN ?_ _|refine blk_drew ?_|refine blk_alloc ?_ _));exact BK2.out) hb);have n2_ := Aside0.mk (below_step (by repeat (first|(with_reducible first|exact HB.out|apply below_alloc|apply pw_below_drewN|apply below_drew1|refine below_set ?_ GE1.out|refine below_set ?_ GE2.out)|exact HB.out)) hb);have n3_ := Aside0.mk (hbox);have n4_ := Aside0.mk ((by rw [hg];exact (below_size (by repeat (first|(with_reducible first|exact HB.out|apply below_alloc|apply pw_below_drewN|apply below_drew1|refine below_set ?_ GE1.out|refine below_set ?_ GE2.out)|exact HB.out))) : w.heap.size ≤ gb3));have n5_ := Aside0.mk ((by rw [hg];exact (below_size (by repeat (first|(with_reducible first|exact HB.out|apply below_alloc|apply pw_below_drewN|apply below_drew1|refine below_set ?_ GE1.out|refine below_set ?_ GE2.out)|exact HB.out))) : w.heap.size ≤ gb3));have n6_ := Aside0.mk ((by rw [hg];exact Nat.ne_of_lt (blk_lt (g := gb1) (o := .cells #[.int .i64 a0_0, .int .i64 a0_1, .int .i64 a0_2] 27 (0, 0)) (by (with_reducible repeat (first|refine blk_drewN ?_ _|refine blk_drew ?_|refine blk_alloc ?_ _));exact BK1.out)) : gb1 ≠ gb3));have n7_ := Aside0.mk ((by rw [hg];exact Nat.ne_of_gt (blk_lt (g := gb1) (o := .cells #[.int .i64 a0_0, .int .i64 a0_1, .int .i64 a0_2] 27 (0, 0)) (by (with_reducible repeat (first|refine blk_drewN ?_ _|refine blk_drew ?_|refine blk_alloc ?_ _));exact BK1.out)) : gb3 ≠ gb1));have n8_ := Aside0.mk ((by rw [hg];exact Nat.ne_of_lt (blk_lt (g := gb2) (o := .cells #[.int .i64 a1_0, .int .i64 a1_1, .int .i64 a1_2] 27 (0, 0)) (by (with_reducible repeat (first|refine blk_drewN ?_ _|refine blk_drew ?_|refine blk_alloc ?_ _));exact BK2.out)) : gb2 ≠ gb3));have n9_ := Aside0.mk ((by rw [hg];exact Nat.ne_of_gt (blk_lt (g := gb2) (o := .cells #[.int .i64 a1_0, .int .i64 a1_1, .int .i64 a1_2] 27 (0, 0)) (by (with_reducible repeat (first|refine blk_drewN ?_ _|refine blk_drew ?_|refine blk_alloc ?_ _));exact BK2.out)) : gb3 ≠ gb2));clear BK1;clear BK2;clear HB;have BK1 := n0_;have BK2 := n1_;have HB := n2_;have BK3 := n3_;have GW3 := n4_;have GE3 := n5_;have NB1_3 := n6_;have NB3_1 := n7_;have NB2_3 := n8_;have NB3_2 := n9_;clear n0_ n1_ n2_ n3_ n4_ n5_ n6_ n7_ n8_ n9_;clear hb hbox hg;have hnb6 := NB1_2.out;have hnc6 := NB2_1.out;have hnb7 := NB1_3.out;have hnc7 := NB3_1.out;have hcz8_0 : w5.cell? ⟨gb1, 0, none⟩ = some (.int .i64 a0_0) := (blk_cell BK1.out 0).trans rfl;have hcz8_1 : w5.cell? ⟨gb1, 1, none⟩ = some (.int .i64 a0_1) := (blk_cell BK1.out 1).trans rfl;have hcz8_2 : w5.cell? ⟨gb1, 2, none⟩ = some (.int .i64 a0_2) := (blk_cell BK1.out 2).trans rfl;have hfz8_0 := blk_frozen BK1.out 0;have hfz8_1 := blk_frozen BK1.out 1;have hfz8_2 := blk_frozen BK1.out 2;have hnb9 := NB2_3.out;have hnc9 := NB3_2.out;have hcz10_0 : w5.cell? ⟨gb2, 0, none⟩ = some (.int .i64 a1_0) := (blk_cell BK2.out 0).trans rfl;have hcz10_1 : w5.cell? ⟨gb2, 1, none⟩ = some (.int .i64 a1_1) := (blk_cell BK2.out 1).trans rfl;have hcz10_2 : w5.cell? ⟨gb2, 2, none⟩ = some (.int .i64 a1_2) := (blk_cell BK2.out 2).trans rfl;have hfz10_0 := blk_frozen BK2.out 0;have hfz10_1 := blk_frozen BK2.out 1;have hfz10_2 := blk_frozen BK2.out 2;have hcz11_0 : w5.cell? ⟨gb3, 0, none⟩ = some (.int .i64 0) := (blk_cell BK3.out 0).trans rfl;have hcz11_1 : w5.cell? ⟨gb3, 1, none⟩ = some (.int .i64 0) := (blk_cell BK3.out 1).trans rfl;have hcz11_2 : w5.cell? ⟨gb3, 2, none⟩ = some (.int .i64 0) := (blk_cell BK3.out 2).trans rfl;have hfz11_0 := blk_frozen BK3.out 0;have hfz11_1 := blk_frozen BK3.out 1;have hfz11_2 := blk_frozen BK3.out 2))
 refine bodyPost_ret (results_cell_row rfl _ _ gb3 27 #[.int .i64 (wrap64 (a0_0 - a1_0)), .int .i64 (wrap64 (a0_1 - a1_1)), .int .i64 (wrap64 (a0_2 - a1_2))] (0, 0) _ rfl (by (with_reducible repeat (first|refine blk_drewN ?_ _|refine blk_drew ?_|refine blk_alloc ?_ _));refine blk_put (cs := #[.int .i64 (wrap64 (a0_0 - a1_0)), .int .i64 (wrap64 (a0_1 - a1_1)), .int .i64 0]) ?_ 2 _ rfl;(with_reducible repeat (first|refine blk_drewN ?_ _|refine blk_drew ?_|refine blk_alloc ?_ _));refine blk_put (cs := #[.int .i64 (wrap64 (a0_0 - a1_0)), .int .i64 0, .int .i64 0]) ?_ 1 _ rfl;(with_reducible repeat (first|refine blk_drewN ?_ _|refine blk_drew ?_|refine blk_alloc ?_ _));refine blk_put (cs := #[.int .i64 0, .int .i64 0, .int .i64 0]) ?_ 0 _ rfl;(with_reducible repeat (first|refine blk_drewN ?_ _|refine blk_drew ?_|refine blk_alloc ?_ _));exact BK3.out) Try.underlying27 rfl (by kernel_rfl)) rfl ?_
 exact ⟨by first|rfl|(simp [errW_none, errW_some] <;> rfl)|(simp [*, errW_none, errW_some] <;> rfl), by repeat (first|(with_reducible first|exact HB.out|apply below_alloc|apply pw_below_drewN|apply below_drew1|refine below_set ?_ GE1.out|refine below_set ?_ GE2.out|refine below_set ?_ GE3.out)|exact HB.out)⟩
end Go.Proofs.Ytcgefpklljclgaa.Print

namespace Go.Proofs.Ytcgefpklljclgaa.Print
open Go.RowKit Go.Proofs.YtcgefpklljclgaaW.PrintWords Go.Proofs.YtcgefpklljclgaaW.PrintLast Go.Proofs.YtcgefpklljclgaaW.PrintMore
attribute [local go_sem] max2_int min2_int max_two min_two max_three min_three max_four min_four   -- for this text's walks alone
set_option linter.unusedVariables false
set_option linter.unusedSimpArgs false
/-! ### r10_Release: function 77 -/
def r10_Release.l0 : Nat → ByteArray → List ByteArray → List (S31) → Int → Int → Int → Int → Option ((List (S31)) × Int)
 | 0, _, _, _, _, _, _, _ => none
 | k + 1, x1, x7, x8, x9, x2000, x2001, x2002 => if x9 < (x7.length : Int) then (if 0 ≤ x9 then ((r10_Find.f k x8 (rdOf ByteArray.empty x7 x9)).bind fun t26 => (if 0 ≤ t26 then (if t26 < (x8.length : Int) then ((r10_Sub.f ((rd_T31 x8 t26).f4.f0) ((rd_T31 x8 t26).f4.f1) ((rd_T31 x8 t26).f4.f2) x2000 x2001 x2002).bind fun bt28 => (r10_Release.l0 k x1 x7 (x8.set (t26 : Int).toNat (⟨(rd_T31 x8 t26).f0, (rd_T31 x8 t26).f1, (⟨(rd_T31 x8 t26).f2.f0, (rd_T31 x8 t26).f2.f1, (rd_T31 x8 t26).f2.f2⟩ : S27), (⟨(rd_T31 x8 t26).f3.f0, (rd_T31 x8 t26).f3.f1, (rd_T31 x8 t26).f3.f2⟩ : S27), (⟨bt28.1, bt28.2.1, bt28.2.2⟩ : S27), (rd_T31 x8 t26).f5⟩ : S31)) (wrap64 (x9 + 1)) x2000 x2001 x2002)) else (none)) else (none))) else (none)) else ((r10_Find.f k x8 x1).bind fun t32 => (if 0 ≤ t32 then (if t32 < (x8.length : Int) then ((r10_Sub.f ((rd_T31 x8 t32).f3.f0) ((rd_T31 x8 t32).f3.f1) ((rd_T31 x8 t32).f3.f2) x2000 x2001 x2002).bind fun bt34 => (some ((x8.set (t32 : Int).toNat (⟨(rd_T31 x8 t32).f0, (rd_T31 x8 t32).f1, (⟨(rd_T31 x8 t32).f2.f0, (rd_T31 x8 t32).f2.f1, (rd_T31 x8 t32).f2.f2⟩ : S27), (⟨bt34.1, bt34.2.1, bt34.2.2⟩ : S27), (⟨(rd_T31 x8 t32).f4.f0, (rd_T31 x8 t32).f4.f1, (rd_T31 x8 t32).f4.f2⟩ : S27), (rd_T31 x8 t32).f5⟩ : S31)), 0))) else (none)) else (none)))
def r10_Release.f (k : Nat) (l0 : List (S31)) (a1 : ByteArray) (a2_0 : Int) (a2_1 : Int) (a2_2 : Int) : Option ((List (S31)) × Int) := (r10_Up.f k l0 a1).bind fun t3 => ((r10_MayVec.f a2_0 a2_1 a2_2).bind fun t6 => (if t6 = true then (if (t3.length : Int) = 0 then ((r10_no.f 2).bind fun bt7 => (some (bt7.1, bt7.2))) else ((r10_Find.f k l0 a1).bind fun t11 => (if 0 ≤ t11 then (if t11 < (l0.length : Int) then ((r10_Le.f a2_0 a2_1 a2_2 ((rd_T31 l0 t11).f3.f0) ((rd_T31 l0 t11).f3.f1) ((rd_T31 l0 t11).f3.f2)).bind fun t13 => (if t13 = true then ((r10_copied.f l0).bind fun t22 => (r10_Release.l0 k a1 t3 t22 0 a2_0 a2_1 a2_2)) else ((r10_no.f 1).bind fun bt14 => (some (bt14.1, bt14.2))))) else (none)) else (none)))) else ((r10_no.f 1).bind fun bt18 => (some (bt18.1, bt18.2)))))
theorem r10_Release.mono_l : ∀ k, (∀ y0 y1 y2 y3 y4 y5 y6, LeO (r10_Release.l0 k y0 y1 y2 y3 y4 y5 y6) (r10_Release.l0 (k + 1) y0 y1 y2 y3 y4 y5 y6))
 | 0 => fun _ _ _ _ _ _ _ r h => by simp [r10_Release.l0] at h
 | k + 1 => by
  have ih0 := r10_Release.mono_l k
  ·intro y0 y1 y2 y3 y4 y5 y6
   unfold r10_Release.l0
   repeat' first
   | (with_reducible exact ih0 _ _ _ _ _ _ _)
   | (with_reducible exact r10_Find.mono _ _ _)
   | (with_reducible exact r10_Up.mono _ _ _)
   | (with_reducible exact LeO.refl _)
   | (with_reducible exact LeO.none _)
   | (with_reducible refine LeO.ite ?_ ?_)
   | (with_reducible refine LeO.bind ?_ (fun _ => ?_))
   | exact ih0 _ _ _ _ _ _ _
   | exact r10_Find.mono _ _ _
   | exact r10_Up.mono _ _ _
   | exact LeO.none _
   | refine LeO.ite ?_ ?_
   | refine LeO.bind ?_ (fun _ => ?_)
theorem r10_Release.mono : ∀ a0 a1 a2 a3 a4 k, LeO (r10_Release.f k a0 a1 a2 a3 a4) (r10_Release.f (k + 1) a0 a1 a2 a3 a4) := by
 intro a0 a1 a2 a3 a4 k
 have ih0 := r10_Release.mono_l k
 unfold r10_Release.f
 repeat' first
   | (with_reducible exact ih0 _ _ _ _ _ _ _)
   | (with_reducible exact r10_Find.mono _ _ _)
   | (with_reducible exact r10_Up.mono _ _ _)
   | (with_reducible exact LeO.refl _)
   | (with_reducible exact LeO.none _)
   | (with_reducible refine LeO.ite ?_ ?_)
   | (with_reducible refine LeO.bind ?_ (fun _ => ?_))
   | exact ih0 _ _ _ _ _ _ _
   | exact r10_Find.mono _ _ _
   | exact r10_Up.mono _ _ _
   | exact LeO.none _
   | refine LeO.ite ?_ ?_
   | refine LeO.bind ?_ (fun _ => ?_)
def r10_Release.T6 : Bool × List (List Nat × List Nat) := (true, [([], []), ([], []), ([], []), ([], []), ([2, 3], [2, 3]), ([1, 4], [1, 4]), ([5], [5]), ([6], [6]), ([0, 7, 4], [0, 7]), ([8], [8]), ([9, 8], [9])])
def r10_Release.B6 : List Nat := [0, 0, 0, 0, 12, 30, 62, 126, 255, 511, 1023]
theorem r10_Release.tab6 : rtab .any (opsOf Try.f77 6) = r10_Release.T6 := by kernel_rfl
theorem r10_Release.bits6 : waitsOk r10_Release.T6.2 r10_Release.B6 = true := by kernel_rfl
def r10_Release.T13 : Bool × List (List Nat × List Nat) := (true, [([], []), ([], []), ([], []), ([], []), ([2, 3], [2, 3]), ([4], [4]), ([5], [5]), ([], []), ([6, 7], [6, 7]), ([0, 1, 0, 1, 2, 3, 4, 5, 6, 7, 8], [0, 1]), ([9, 0, 1, 2, 3, 4, 5, 6, 7, 8], [9]), ([10, 8, 8, 0, 1, 2, 3, 4, 5, 6, 7, 8], [8, 10])])
def r10_Release.B13 : List Nat := [0, 0, 0, 0, 12, 28, 60, 0, 252, 511, 1023, 2047]
theorem r10_Release.tab13 : rtab .any (opsOf Try.f77 13) = r10_Release.T13 := by kernel_rfl
theorem r10_Release.bits13 : waitsOk r10_Release.T13.2 r10_Release.B13 = true := by kernel_rfl
def r10_Release.T15 : Bool × List (List Nat × List Nat) := (true, [([], []), ([], []), ([], []), ([], []), ([2, 3], [2, 3]), ([4], [4]), ([5], [5]), ([], []), ([6, 7], [6, 7]), ([0, 1, 0, 1, 2, 3, 4, 5, 6, 7, 8], [0, 1]), ([9, 0, 1, 2, 3, 4, 5, 6, 7, 8], [9]), ([10, 8, 8, 0, 1, 2, 3, 4, 5, 6, 7, 8], [8, 10])])
def r10_Release.B15 : List Nat := [0, 0, 0, 0, 12, 28, 60, 0, 252, 511, 1023, 2047]
theorem r10_Release.tab15 : rtab .any (opsOf Try.f77 15) = r10_Release.T15 := by kernel_rfl
theorem r10_Release.bits15 : waitsOk r10_Release.T15.2 r10_Release.B15 = true := by kernel_rfl
set_option maxHeartbeats 8000000 in
set_option maxRecDepth 100000 in
theorem r10_Release.calls (k : Nat) (A0 : Option Addr) (c0 : Nat) (l0 : List (S31)) (a1 : ByteArray) (a2_0 : Int) (a2_1 : Int) (a2_2 : Int) (r1 : List (S31)) (r2 : Int) (w : World) (hr0 : Kd.C k31 w A0 l0.length l0) (hc0 : l0.length ≤ c0) (h : r10_Release.f k l0 a1 a2_0 a2_1 a2_2 = some (r1, r2)) :
  Calls Try.prog 77 #[.slice A0 l0.length c0, .string a1, .agg #[.int .i64 a2_0, .int .i64 a2_1, .int .i64 a2_2]] w fun e w' => ∃ v0_ : Value, e = .returned (.agg #[v0_, .int .i64 r2]) ∧ Kd.R k31 31 w' w.heap.size (fun _ => True) v0_ r1 ∧ Below w.heap.size w w' := by
 have hu27 := Try.underlying27
 have hu67 := Try.underlying67
 have HR0 := Aside0.mk hr0
 have HC0 := Aside0.mk hc0
 clear hr0 hc0
 have HB := Aside0.mk (Below.refl w.heap.size w)
 have H : ((r10_Up.f k l0 a1).bind fun t3 => ((r10_MayVec.f a2_0 a2_1 a2_2).bind fun t6 => (if t6 = true then (if (t3.length : Int) = 0 then ((r10_no.f 2).bind fun bt7 => (some (bt7.1, bt7.2))) else ((r10_Find.f k l0 a1).bind fun t11 => (if 0 ≤ t11 then (if t11 < (l0.length : Int) then ((r10_Le.f a2_0 a2_1 a2_2 ((rd_T31 l0 t11).f3.f0) ((rd_T31 l0 t11).f3.f1) ((rd_T31 l0 t11).f3.f2)).bind fun t13 => (if t13 = true then ((r10_copied.f l0).bind fun t22 => (r10_Release.l0 k a1 t3 t22 0 a2_0 a2_1 a2_2)) else ((r10_no.f 1).bind fun bt14 => (some (bt14.1, bt14.2))))) else (none)) else (none)))) else ((r10_no.f 1).bind fun bt18 => (some (bt18.1, bt18.2)))))) = some (r1, r2) := h
 clear h
 replace H := Option.bind_eq_some_iff.mp H
 obtain ⟨t3, A40, H⟩ := H
 replace H : ((r10_MayVec.f a2_0 a2_1 a2_2).bind fun t6 => (if t6 = true then (if (t3.length : Int) = 0 then ((r10_no.f 2).bind fun bt7 => (some (bt7.1, bt7.2))) else ((r10_Find.f k l0 a1).bind fun t11 => (if 0 ≤ t11 then (if t11 < (l0.length : Int) then ((r10_Le.f a2_0 a2_1 a2_2 ((rd_T31 l0 t11).f3.f0) ((rd_T31 l0 t11).f3.f1) ((rd_T31 l0 t11).f3.f2)).bind fun t13 => (if t13 = true then ((r10_copied.f l0).bind fun t22 => (r10_Release.l0 k a1 t3 t22 0 a2_0 a2_1 a2_2)) else ((r10_no.f 1).bind fun bt14 => (some (bt14.1, bt14.2))))) else (none)) else (none)))) else ((r10_no.f 1).bind fun bt18 => (some (bt18.1, bt18.2))))) = some (r1, r2) := H
 have A4 := Aside0.mk A40
 clear A40
 replace H := Option.bind_eq_some_iff.mp H
 obtain ⟨t6, A50, H⟩ := H
 replace H : (if t6 = true then (if (t3.length : Int) = 0 then ((r10_no.f 2).bind fun bt7 => (some (bt7.1, bt7.2))) else ((r10_Find.f k l0 a1).bind fun t11 => (if 0 ≤ t11 then (if t11 < (l0.length : Int) then ((r10_Le.f a2_0 a2_1 a2_2 ((rd_T31 l0 t11).f3.f0) ((rd_T31 l0 t11).f3.f1) ((rd_T31 l0 t11).f3.f2)).bind fun t13 => (if t13 = true then ((r10_copied.f l0).bind fun t22 => (r10_Release.l0 k a1 t3 t22 0 a2_0 a2_1 a2_2)) else ((r10_no.f 1).bind fun bt14 => (some (bt14.1, bt14.2))))) else (none)) else (none)))) else ((r10_no.f 1).bind fun bt18 => (some (bt18.1, bt18.2)))) = some (r1, r2) := H
 have A5 := Aside0.mk A50
 clear A50
 by_cases c6 : t6 = true
 ·subst c6
  have H1 : (if (t3.length : Int) = 0 then ((r10_no.f 2).bind fun bt7 => (some (bt7.1, bt7.2))) else ((r10_Find.f k l0 a1).bind fun t11 => (if 0 ≤ t11 then (if t11 < (l0.length : Int) then ((r10_Le.f a2_0 a2_1 a2_2 ((rd_T31 l0 t11).f3.f0) ((rd_T31 l0 t11).f3.f1) ((rd_T31 l0 t11).f3.f2)).bind fun t13 => (if t13 = true then ((r10_copied.f l0).bind fun t22 => (r10_Release.l0 k a1 t3 t22 0 a2_0 a2_1 a2_2)) else ((r10_no.f 1).bind fun bt14 => (some (bt14.1, bt14.2))))) else (none)) else (none)))) = some (r1, r2) := by rw [if_pos rfl] at H; exact H
  clear H
  have H := H1
  clear H1
  by_cases c7 : (t3.length : Int) = 0
  ·rw [if_pos c7] at H
   have c7b0 : ((t3.length : Int) == 0) = true := beq_iff_eq.mpr c7
   have c7b1 : ((t3.length : Int) != 0) = false := bne_eq_false_iff_eq.mpr c7
   clear c7
   replace H := Option.bind_eq_some_iff.mp H
   obtain ⟨⟨t7, t10⟩, A80, H⟩ := H
   replace H : (some (t7, t10)) = some (r1, r2) := H
   have A8 := Aside0.mk A80
   clear A80
   simp only [Option.some.injEq, Prod.mk.injEq] at H
   obtain ⟨rfl, rfl⟩ := H
   go_enter Try.func77, Try.ntmps77
   go_wp2_with (first|((with_reducible refine gate_dst (N := 5) rfl ?_);refine box_event ?hg (N := 5) ?hd (cs := #[.int .i64 a2_0, .int .i64 a2_1, .int .i64 a2_2]) (t := 27) ?hr ?_;(case hd => rfl);(case hg => rfl);(case hr => first|(go_simp;done)|(go_simp;rfl));intro gb1 hg w9 hbox hb;have n0_ := Aside0.mk (below_step (by repeat (first|(with_reducible first|exact HB.out|apply below_alloc|apply pw_below_drewN|apply below_drew1)|exact HB.out)) hb);have n1_ := Aside0.mk (hbox);have n2_ := Aside0.mk ((by rw [hg];exact (below_size (by repeat (first|(with_reducible first|exact HB.out|apply below_alloc|apply pw_below_drewN|apply below_drew1)|exact HB.out))) : w.heap.size ≤ gb1));have n3_ := Aside0.mk ((by rw [hg];exact (below_size (by repeat (first|(with_reducible first|exact HB.out|apply below_alloc|apply pw_below_drewN|apply below_drew1)|exact HB.out))) : w.heap.size ≤ gb1));clear HB;have HB := n0_;have BK1 := n1_;have GW1 := n2_;have GE1 := n3_;clear n0_ n1_ n2_ n3_;clear hb hbox hg)|((with_reducible refine gate_dst (N := 6) rfl ?_);refine box_event ?hg (N := 6) ?hd (cs := #[.slice none 0 0, .int .i64 0]) (t := 67) ?hr ?_;(case hd => rfl);(case hg => rfl);(case hr => first|(go_simp;done)|(go_simp;rfl));intro gb2 hg w10 hbox hb;have n0_ := Aside0.mk (blk_below (g := gb1) (o := .cells #[.int .i64 a2_0, .int .i64 a2_1, .int .i64 a2_2] 27 (0, 0)) (by (with_reducible repeat (first|refine blk_drewN ?_ _|refine blk_drew ?_|refine blk_alloc ?_ _));exact BK1.out) hb);have n1_ := Aside0.mk (below_step (by repeat (first|(with_reducible first|exact HB.out|apply below_alloc|apply pw_below_drewN|apply below_drew1|refine below_set ?_ GE1.out)|exact HB.out)) hb);have n2_ := Aside0.mk (hbox);have n3_ := Aside0.mk ((by rw [hg];exact (below_size (by repeat (first|(with_reducible first|exact HB.out|apply below_alloc|apply pw_below_drewN|apply below_drew1|refine below_set ?_ GE1.out)|exact HB.out))) : w.heap.size ≤ gb2));have n4_ := Aside0.mk ((by rw [hg];exact (below_size (by repeat (first|(with_reducible first|exact HB.out|apply below_alloc|apply pw_below_drewN|apply below_drew1|refine below_set ?_ GE1.out)|exact HB.out))) : w.heap.size ≤ gb2));have n5_ := Aside0.mk ((by rw [hg];exact Nat.ne_of_lt (blk_lt (g := gb1) (o := .cells #[.int .i64 a2_0, .int .i64 a2_1, .int .i64 a2_2] 27 (0, 0)) (by (with_reducible repeat (first|refine blk_drewN ?_ _|refine blk_drew ?_|refine blk_alloc ?_ _));exact BK1.out)) : gb1 ≠ gb2));have n6_ := Aside0.mk ((by rw [hg];exact Nat.ne_of_gt (blk_lt (g := gb1) (o := .cells #[.int .i64 a2_0, .int .i64 a2_1, .int .i64 a2_2] 27 (0, 0)) (by (with_reducible repeat (first|refine blk_drewN ?_ _|refine blk_drew ?_|refine blk_alloc ?_ _));exact BK1.out)) : gb2 ≠ gb1));clear BK1;clear HB;have BK1 := n0_;have HB := n1_;have BK2 := n2_;have GW2 := n3_;have GE2 := n4_;have NB1_2 := n5_;have NB2_1 := n6_;clear n0_ n1_ n2_ n3_ n4_ n5_ n6_;clear hb hbox hg)|((with_reducible refine gate_callee (f := 106) rfl ?_);refine goesL_ (some 14) rfl rfl Try.func106 (by kernel_rfl) rfl #[.slice A0 l0.length c0, .string a1] rfl (by (try simp only [List.map_toArray, List.map_cons, List.map_nil]);first|done|rfl|(simp only [List.length_drop, List.length_take];rfl)) ?_;(with_reducible refine (r10_Up.calls k _ _ l0 a1 t3 _ ?side1 ?side2 A4.out).mono ?_);(case side1 => repeat (first|exact (Kd.C_below HR0.out HB.out)|(with_reducible refine Kd.C_alloc ?_ _)|(with_reducible refine Kd.C_drewN ?_ _)|(with_reducible refine Kd.C_drew ?_)));(case side2 => exact HC0.out);rintro e w11 ⟨v4, rfl, ho0, hb⟩;refine ⟨_, rfl, ?_⟩;have n0_ := Aside0.mk (Kd.R_lower ho0 (below_size (by repeat (first|(with_reducible first|exact HB.out|apply below_alloc|apply pw_below_drewN|apply below_drew1|refine below_set ?_ GE1.out|refine below_set ?_ GE2.out)|exact HB.out))));have n1_ := Aside0.mk (blk_below (g := gb1) (o := .cells #[.int .i64 a2_0, .int .i64 a2_1, .int .i64 a2_2] 27 (0, 0)) (by (with_reducible repeat (first|refine blk_drewN ?_ _|refine blk_drew ?_|refine blk_alloc ?_ _));exact BK1.out) hb);have n2_ := Aside0.mk (blk_below (g := gb2) (o := .cells #[.slice none 0 0, .int .i64 0] 67 (0, 0)) (by (with_reducible repeat (first|refine blk_drewN ?_ _|refine blk_drew ?_|refine blk_alloc ?_ _));exact BK2.out) hb);have n3_ := Aside0.mk (below_step (by repeat (first|(with_reducible first|exact HB.out|apply below_alloc|apply pw_below_drewN|apply below_drew1|refine below_set ?_ GE1.out|refine below_set ?_ GE2.out)|exact HB.out)) hb);clear BK1;clear BK2;clear HB;have HO5 := n0_;have BK1 := n1_;have BK2 := n2_;have HB := n3_;clear n0_ n1_ n2_ n3_;(try clear hb);(try clear hb2);(try clear hk);(try clear hi);(try clear ho0);have hnb12 := NB1_2.out;have hnc12 := NB2_1.out;have hcz13_0 : w11.cell? ⟨gb1, 0, none⟩ = some (.int .i64 a2_0) := (blk_cell BK1.out 0).trans rfl;have hcz13_1 : w11.cell? ⟨gb1, 1, none⟩ = some (.int .i64 a2_1) := (blk_cell BK1.out 1).trans rfl;have hcz13_2 : w11.cell? ⟨gb1, 2, none⟩ = some (.int .i64 a2_2) := (blk_cell BK1.out 2).trans rfl;have hfz13_0 := blk_frozen BK1.out 0;have hfz13_1 := blk_frozen BK1.out 1;have hfz13_2 := blk_frozen BK1.out 2)|((with_reducible refine gate_callee (f := 65) rfl ?_);refine goesL_ (some 17) rfl rfl Try.func65 (by kernel_rfl) rfl #[.agg #[.int .i64 a2_0, .int .i64 a2_1, .int .i64 a2_2]] rfl (by (try simp only [List.map_toArray, List.map_cons, List.map_nil]);first|done|rfl|(simp only [List.length_drop, List.length_take];rfl)) ?_;(with_reducible refine (r10_MayVec.calls a2_0 a2_1 a2_2 true _ A5.out).mono ?_);rintro e w14 ⟨rfl, hb⟩;refine ⟨_, rfl, ?_⟩;have n0_ := Aside0.mk (Kd.R_below (by (with_reducible repeat (first|apply Kd.R_alloc|apply Kd.R_drewN|apply Kd.R_drew));exact HO5.out) hb);have n1_ := Aside0.mk (blk_below (g := gb1) (o := .cells #[.int .i64 a2_0, .int .i64 a2_1, .int .i64 a2_2] 27 (0, 0)) (by (with_reducible repeat (first|refine blk_drewN ?_ _|refine blk_drew ?_|refine blk_alloc ?_ _));exact BK1.out) hb);have n2_ := Aside0.mk (blk_below (g := gb2) (o := .cells #[.slice none 0 0, .int .i64 0] 67 (0, 0)) (by (with_reducible repeat (first|refine blk_drewN ?_ _|refine blk_drew ?_|refine blk_alloc ?_ _));exact BK2.out) hb);have n3_ := Aside0.mk (below_step (by repeat (first|(with_reducible first|exact HB.out|apply below_alloc|apply pw_below_drewN|apply below_drew1|refine below_set ?_ GE1.out|refine below_set ?_ GE2.out)|exact HB.out)) hb);clear HO5;clear BK1;clear BK2;clear HB;have HO5 := n0_;have BK1 := n1_;have BK2 := n2_;have HB := n3_;clear n0_ n1_ n2_ n3_;(try clear hb);(try clear hb2);(try clear hk);(try clear hi);obtain ⟨Ao15, co15, eo15⟩ := Kd.R_slice HO5.out;subst eo15)|((with_reducible refine gate_callee (f := 113) rfl ?_);refine goesL_ (some 24) rfl rfl Try.func113 (by kernel_rfl) rfl #[.int .i64 2] rfl (by (try simp only [List.map_toArray, List.map_cons, List.map_nil]);first|done|rfl|(simp only [List.length_drop, List.length_take];rfl)) ?_;(with_reducible refine (r10_no.calls 2 t7 t10 _ A8.out).mono ?_);rintro e w16 ⟨v8, rfl, ho0, hb⟩;refine ⟨_, rfl, ?_⟩;have n0_ := Aside0.mk (Kd.R_below (by (with_reducible repeat (first|apply Kd.R_alloc|apply Kd.R_drewN|apply Kd.R_drew));exact HO5.out) hb);have n1_ := Aside0.mk (Kd.R_lower ho0 (below_size (by repeat (first|(with_reducible first|exact HB.out|apply below_alloc|apply pw_below_drewN|apply below_drew1|refine below_set ?_ GE1.out|refine below_set ?_ GE2.out)|exact HB.out))));have n2_ := Aside0.mk (blk_below (g := gb1) (o := .cells #[.int .i64 a2_0, .int .i64 a2_1, .int .i64 a2_2] 27 (0, 0)) (by (with_reducible repeat (first|refine blk_drewN ?_ _|refine blk_drew ?_|refine blk_alloc ?_ _));exact BK1.out) hb);have n3_ := Aside0.mk (blk_below (g := gb2) (o := .cells #[.slice none 0 0, .int .i64 0] 67 (0, 0)) (by (with_reducible repeat (first|refine blk_drewN ?_ _|refine blk_drew ?_|refine blk_alloc ?_ _));exact BK2.out) hb);have n4_ := Aside0.mk (below_step (by repeat (first|(with_reducible first|exact HB.out|apply below_alloc|apply pw_below_drewN|apply below_drew1|refine below_set ?_ GE1.out|refine below_set ?_ GE2.out)|exact HB.out)) hb);clear HO5;clear BK1;clear BK2;clear HB;have HO5 := n0_;have HO9 := n1_;have BK1 := n2_;have BK2 := n3_;have HB := n4_;clear n0_ n1_ n2_ n3_ n4_;(try clear hb);(try clear hb2);(try clear hk);(try clear hi);(try clear ho0);obtain ⟨Ao17, co17, eo17⟩ := Kd.R_slice HO9.out;subst eo17;have hcz18_0 : w16.cell? ⟨gb2, 0, none⟩ = some (.slice none 0 0) := (blk_cell BK2.out 0).trans rfl;have hcz18_1 : w16.cell? ⟨gb2, 1, none⟩ = some (.int .i64 0) := (blk_cell BK2.out 1).trans rfl;have hfz18_0 := blk_frozen BK2.out 0;have hfz18_1 := blk_frozen BK2.out 1))
   refine bodyPost_ret (results_cell_row rfl _ _ gb2 67 #[.slice Ao17 t7.length co17, .int .i64 t10] (0, 0) _ rfl (by (with_reducible repeat (first|refine blk_drewN ?_ _|refine blk_drew ?_|refine blk_alloc ?_ _));refine blk_put (cs := #[.slice Ao17 t7.length co17, .int .i64 0]) ?_ 1 _ rfl;(with_reducible repeat (first|refine blk_drewN ?_ _|refine blk_drew ?_|refine blk_alloc ?_ _));refine blk_put (cs := #[.slice none 0 0, .int .i64 0]) ?_ 0 _ rfl;(with_reducible repeat (first|refine blk_drewN ?_ _|refine blk_drew ?_|refine blk_alloc ?_ _));exact BK2.out) Try.underlying67 rfl (by kernel_rfl)) rfl ?_
   exact ⟨_, by first|rfl|(simp [errW_none, errW_some] <;> rfl)|(simp [*, errW_none, errW_some] <;> rfl), by (with_reducible repeat (first|apply Kd.R_alloc|apply Kd.R_drewN|apply Kd.R_drew));exact Kd.R_mono (Kd.R_far (p := ⟨gb2, 1, none⟩) (Kd.R_far (p := ⟨gb2, 0, none⟩) (Kd.R_types HO9.out BK2.out (by decide)) (fun _ hk => hk.2) (.slice Ao17 t7.length co17)) (fun _ hk => hk.2) (.int .i64 t10)) (fun _ hk => trivial), by repeat (first|(with_reducible first|exact HB.out|apply below_alloc|apply pw_below_drewN|apply below_drew1|refine below_set ?_ GE1.out|refine below_set ?_ GE2.out)|exact HB.out)⟩
  ·rw [if_neg c7] at H
   have c7b0 : ((t3.length : Int) == 0) = false := beq_eq_false_iff_ne.mpr c7
   have c7b1 : ((t3.length : Int) != 0) = true := bne_iff_ne.mpr c7
   have c7b2 : ¬ (t3 = []) := fun h_ => c7 (by rw [h_]; rfl)
   replace H := Option.bind_eq_some_iff.mp H
   obtain ⟨t11, A190, H⟩ := H
   replace H : (if 0 ≤ t11 then (if t11 < (l0.length : Int) then ((r10_Le.f a2_0 a2_1 a2_2 ((rd_T31 l0 t11).f3.f0) ((rd_T31 l0 t11).f3.f1) ((rd_T31 l0 t11).f3.f2)).bind fun t13 => (if t13 = true then ((r10_copied.f l0).bind fun t22 => (r10_Release.l0 k a1 t3 t22 0 a2_0 a2_1 a2_2)) else ((r10_no.f 1).bind fun bt14 => (some (bt14.1, bt14.2))))) else (none)) else (none)) = some (r1, r2) := H
   have A19 := Aside0.mk A190
   clear A190
   by_cases c20 : 0 ≤ t11
   ·rw [if_pos c20] at H
    have c20b0 : decide (0 ≤ t11) = true := decide_eq_true c20
    clear c20
    by_cases c21 : t11 < (l0.length : Int)
    ·rw [if_pos c21] at H
     have c21b0 : decide (t11 < (l0.length : Int)) = true := decide_eq_true c21
     clear c21
     replace H := Option.bind_eq_some_iff.mp H
     obtain ⟨t13, A220, H⟩ := H
     replace H : (if t13 = true then ((r10_copied.f l0).bind fun t22 => (r10_Release.l0 k a1 t3 t22 0 a2_0 a2_1 a2_2)) else ((r10_no.f 1).bind fun bt14 => (some (bt14.1, bt14.2)))) = some (r1, r2) := H
     have A22 := Aside0.mk A220
     clear A220
     by_cases c23 : t13 = true
     ·subst c23
      have H1 : ((r10_copied.f l0).bind fun t22 => (r10_Release.l0 k a1 t3 t22 0 a2_0 a2_1 a2_2)) = some (r1, r2) := by rw [if_pos rfl] at H; exact H
      clear H
      have H := H1
      clear H1
      replace H := Option.bind_eq_some_iff.mp H
      obtain ⟨t22, A240, H⟩ := H
      replace H : (r10_Release.l0 k a1 t3 t22 0 a2_0 a2_1 a2_2) = some (r1, r2) := H
      have A24 := Aside0.mk A240
      clear A240
      have H' := Aside0.mk H
      clear H
      go_enter Try.func77, Try.ntmps77
      try go_wp2_with (first|((with_reducible refine gate_dst (N := 5) rfl ?_);refine box_event ?hg (N := 5) ?hd (cs := #[.int .i64 a2_0, .int .i64 a2_1, .int .i64 a2_2]) (t := 27) ?hr ?_;(case hd => rfl);(case hg => rfl);(case hr => first|(go_simp;done)|(go_simp;rfl));intro gb1 hg w25 hbox hb;have n0_ := Aside0.mk (below_step (by repeat (first|(with_reducible first|exact HB.out|apply below_alloc|apply pw_below_drewN|apply below_drew1)|exact HB.out)) hb);have n1_ := Aside0.mk (hbox);have n2_ := Aside0.mk ((by rw [hg];exact (below_size (by repeat (first|(with_reducible first|exact HB.out|apply below_alloc|apply pw_below_drewN|apply below_drew1)|exact HB.out))) : w.heap.size ≤ gb1));have n3_ := Aside0.mk ((by rw [hg];exact (below_size (by repeat (first|(with_reducible first|exact HB.out|apply below_alloc|apply pw_below_drewN|apply below_drew1)|exact HB.out))) : w.heap.size ≤ gb1));clear HB;have HB := n0_;have BK1 := n1_;have GW1 := n2_;have GE1 := n3_;clear n0_ n1_ n2_ n3_;clear hb hbox hg)|((with_reducible refine gate_dst (N := 6) rfl ?_);refine box_event ?hg (N := 6) ?hd (cs := #[.slice none 0 0, .int .i64 0]) (t := 67) ?hr ?_;(case hd => rfl);(case hg => rfl);(case hr => first|(go_simp;done)|(go_simp;rfl));intro gb2 hg w26 hbox hb;have n0_ := Aside0.mk (blk_below (g := gb1) (o := .cells #[.int .i64 a2_0, .int .i64 a2_1, .int .i64 a2_2] 27 (0, 0)) (by (with_reducible repeat (first|refine blk_drewN ?_ _|refine blk_drew ?_|refine blk_alloc ?_ _));exact BK1.out) hb);have n1_ := Aside0.mk (below_step (by repeat (first|(with_reducible first|exact HB.out|apply below_alloc|apply pw_below_drewN|apply below_drew1|refine below_set ?_ GE1.out)|exact HB.out)) hb);have n2_ := Aside0.mk (hbox);have n3_ := Aside0.mk ((by rw [hg];exact (below_size (by repeat (first|(with_reducible first|exact HB.out|apply below_alloc|apply pw_below_drewN|apply below_drew1|refine below_set ?_ GE1.out)|exact HB.out))) : w.heap.size ≤ gb2));have n4_ := Aside0.mk ((by rw [hg];exact (below_size (by repeat (first|(with_reducible first|exact HB.out|apply below_alloc|apply pw_below_drewN|apply below_drew1|refine below_set ?_ GE1.out)|exact HB.out))) : w.heap.size ≤ gb2));have n5_ := Aside0.mk ((by rw [hg];exact Nat.ne_of_lt (blk_lt (g := gb1) (o := .cells #[.int .i64 a2_0, .int .i64 a2_1, .int .i64 a2_2] 27 (0, 0)) (by (with_reducible repeat (first|refine blk_drewN ?_ _|refine blk_drew ?_|refine blk_alloc ?_ _));exact BK1.out)) : gb1 ≠ gb2));have n6_ := Aside0.mk ((by rw [hg];exact Nat.ne_of_gt (blk_lt (g := gb1) (o := .cells #[.int .i64 a2_0, .int .i64 a2_1, .int .i64 a2_2] 27 (0, 0)) (by (with_reducible repeat (first|refine blk_drewN ?_ _|refine blk_drew ?_|refine blk_alloc ?_ _));exact BK1.out)) : gb2 ≠ gb1));clear BK1;clear HB;have BK1 := n0_;have HB := n1_;have BK2 := n2_;have GW2 := n3_;have GE2 := n4_;have NB1_2 := n5_;have NB2_1 := n6_;clear n0_ n1_ n2_ n3_ n4_ n5_ n6_;clear hb hbox hg)|((with_reducible refine gate_callee (f := 106) rfl ?_);refine goesL_ (some 14) rfl rfl Try.func106 (by kernel_rfl) rfl #[.slice A0 l0.length c0, .string a1] rfl (by (try simp only [List.map_toArray, List.map_cons, List.map_nil]);first|done|rfl|(simp only [List.length_drop, List.length_take];rfl)) ?_;(with_reducible refine (r10_Up.calls k _ _ l0 a1 t3 _ ?side1 ?side2 A4.out).mono ?_);(case side1 => repeat (first|exact (Kd.C_below HR0.out HB.out)|(with_reducible refine Kd.C_alloc ?_ _)|(with_reducible refine Kd.C_drewN ?_ _)|(with_reducible refine Kd.C_drew ?_)));(case side2 => exact HC0.out);rintro e w27 ⟨v4, rfl, ho0, hb⟩;refine ⟨_, rfl, ?_⟩;have n0_ := Aside0.mk (Kd.R_lower ho0 (below_size (by repeat (first|(with_reducible first|exact HB.out|apply below_alloc|apply pw_below_drewN|apply below_drew1|refine below_set ?_ GE1.out|refine below_set ?_ GE2.out)|exact HB.out))));have n1_ := Aside0.mk (blk_below (g := gb1) (o := .cells #[.int .i64 a2_0, .int .i64 a2_1, .int .i64 a2_2] 27 (0, 0)) (by (with_reducible repeat (first|refine blk_drewN ?_ _|refine blk_drew ?_|refine blk_alloc ?_ _));exact BK1.out) hb);have n2_ := Aside0.mk (blk_below (g := gb2) (o := .cells #[.slice none 0 0, .int .i64 0] 67 (0, 0)) (by (with_reducible repeat (first|refine blk_drewN ?_ _|refine blk_drew ?_|refine blk_alloc ?_ _));exact BK2.out) hb);have n3_ := Aside0.mk (below_step (by repeat (first|(with_reducible first|exact HB.out|apply below_alloc|apply pw_below_drewN|apply below_drew1|refine below_set ?_ GE1.out|refine below_set ?_ GE2.out)|exact HB.out)) hb);clear BK1;clear BK2;clear HB;have HO5 := n0_;have BK1 := n1_;have BK2 := n2_;have HB := n3_;clear n0_ n1_ n2_ n3_;(try clear hb);(try clear hb2);(try clear hk);(try clear hi);(try clear ho0);have hnb28 := NB1_2.out;have hnc28 := NB2_1.out;have hcz29_0 : w27.cell? ⟨gb1, 0, none⟩ = some (.int .i64 a2_0) := (blk_cell BK1.out 0).trans rfl;have hcz29_1 : w27.cell? ⟨gb1, 1, none⟩ = some (.int .i64 a2_1) := (blk_cell BK1.out 1).trans rfl;have hcz29_2 : w27.cell? ⟨gb1, 2, none⟩ = some (.int .i64 a2_2) := (blk_cell BK1.out 2).trans rfl;have hfz29_0 := blk_frozen BK1.out 0;have hfz29_1 := blk_frozen BK1.out 1;have hfz29_2 := blk_frozen BK1.out 2)|((with_reducible refine gate_callee (f := 65) rfl ?_);refine goesL_ (some 17) rfl rfl Try.func65 (by kernel_rfl) rfl #[.agg #[.int .i64 a2_0, .int .i64 a2_1, .int .i64 a2_2]] rfl (by (try simp only [List.map_toArray, List.map_cons, List.map_nil]);first|done|rfl|(simp only [List.length_drop, List.length_take];rfl)) ?_;(with_reducible refine (r10_MayVec.calls a2_0 a2_1 a2_2 true _ A5.out).mono ?_);rintro e w30 ⟨rfl, hb⟩;refine ⟨_, rfl, ?_⟩;have n0_ := Aside0.mk (Kd.R_below (by (with_reducible repeat (first|apply Kd.R_alloc|apply Kd.R_drewN|apply Kd.R_drew));exact HO5.out) hb);have n1_ := Aside0.mk (blk_below (g := gb1) (o := .cells #[.int .i64 a2_0, .int .i64 a2_1, .int .i64 a2_2] 27 (0, 0)) (by (with_reducible repeat (first|refine blk_drewN ?_ _|refine blk_drew ?_|refine blk_alloc ?_ _));exact BK1.out) hb);have n2_ := Aside0.mk (blk_below (g := gb2) (o := .cells #[.slice none 0 0, .int .i64 0] 67 (0, 0)) (by (with_reducible repeat (first|refine blk_drewN ?_ _|refine blk_drew ?_|refine blk_alloc ?_ _));exact BK2.out) hb);have n3_ := Aside0.mk (below_step (by repeat (first|(with_reducible first|exact HB.out|apply below_alloc|apply pw_below_drewN|apply below_drew1|refine below_set ?_ GE1.out|refine below_set ?_ GE2.out)|exact HB.out)) hb);clear HO5;clear BK1;clear BK2;clear HB;have HO5 := n0_;have BK1 := n1_;have BK2 := n2_;have HB := n3_;clear n0_ n1_ n2_ n3_;(try clear hb);(try clear hb2);(try clear hk);(try clear hi);obtain ⟨Ao31, co31, eo31⟩ := Kd.R_slice HO5.out;subst eo31))
      have n0_ := Aside0.mk (Kd.R_drew HO5.out)
      have n1_ := Aside0.mk (blk_drew BK1.out)
      have n2_ := Aside0.mk (blk_drew BK2.out)
      have n3_ := Aside0.mk (below_drew1 HB.out)
      clear HO5
      clear BK1
      clear BK2
      clear HB
      have HO5 := n0_
      have BK1 := n1_
      have BK2 := n2_
      have HB := n3_
      clear n0_ n1_ n2_ n3_
      have p12 : 0 ≤ (t11 : Int) := of_decide_eq_true (by first|(with_reducible assumption)|assumption)
      have q12 : t11 < (l0.length : Int) := of_decide_eq_true (by first|(with_reducible assumption)|assumption)
      obtain ⟨ad12, e12, hx12_0, hx12_1, hx12_2, hx12_3, hx12_4, hx12_5, hx12_6, hx12_7, hx12_8, hx12_9, hx12_10, hx12_11⟩ := at_T31 HR0.out t11 p12 q12
      have hw12_11 := hx12_11
      have hw12_10 := hx12_10
      have hw12_9 := hx12_9
      have hw12_8 := hx12_8
      have hw12_7 := hx12_7
      have hw12_6 := hx12_6
      have hw12_5 := hx12_5
      have hw12_4 := hx12_4
      have hw12_3 := hx12_3
      have hw12_2 := hx12_2
      have hw12_1 := hx12_1
      have hw12_0 := hx12_0
      cases e12
      replace hx12_0 := (HB.out.cell (World.block_lt_of_cell? w _ hx12_0)).trans hx12_0
      replace hx12_1 := (HB.out.cell (World.block_lt_of_cell? w _ hx12_1)).trans hx12_1
      replace hx12_2 := (HB.out.cell (World.block_lt_of_cell? w _ hx12_2)).trans hx12_2
      replace hx12_3 := (HB.out.cell (World.block_lt_of_cell? w _ hx12_3)).trans hx12_3
      replace hx12_4 := (HB.out.cell (World.block_lt_of_cell? w _ hx12_4)).trans hx12_4
      replace hx12_5 := (HB.out.cell (World.block_lt_of_cell? w _ hx12_5)).trans hx12_5
      replace hx12_6 := (HB.out.cell (World.block_lt_of_cell? w _ hx12_6)).trans hx12_6
      replace hx12_7 := (HB.out.cell (World.block_lt_of_cell? w _ hx12_7)).trans hx12_7
      replace hx12_8 := (HB.out.cell (World.block_lt_of_cell? w _ hx12_8)).trans hx12_8
      replace hx12_9 := (HB.out.cell (World.block_lt_of_cell? w _ hx12_9)).trans hx12_9
      replace hx12_10 := (HB.out.cell (World.block_lt_of_cell? w _ hx12_10)).trans hx12_10
      replace hx12_11 := (HB.out.cell (World.block_lt_of_cell? w _ hx12_11)).trans hx12_11
      replace p12 := eq_true p12
      replace q12 := eq_true q12
      refine start_ (n := 11) (S := fun w' => w'.cell? ⟨gb1, 0, none⟩ = some (.int .i64 a2_0) ∧ w'.cell? ⟨gb1, 1, none⟩ = some (.int .i64 a2_1) ∧ w'.cell? ⟨gb1, 2, none⟩ = some (.int .i64 a2_2) ∧ w'.cell? (ad12.add ((t11).toNat * 12)) = some (.string ((rd_T31 l0 t11).f0)) ∧ w'.cell? ⟨(ad12.add ((t11).toNat * 12)).block, (ad12.add ((t11).toNat * 12)).off + 1, none⟩ = some (.string ((rd_T31 l0 t11).f1)) ∧ w'.cell? ⟨(ad12.add ((t11).toNat * 12)).block, (ad12.add ((t11).toNat * 12)).off + 2, none⟩ = some (.int .i64 ((rd_T31 l0 t11).f2.f0)) ∧ w'.cell? ⟨(ad12.add ((t11).toNat * 12)).block, (ad12.add ((t11).toNat * 12)).off + 3, none⟩ = some (.int .i64 ((rd_T31 l0 t11).f2.f1)) ∧ w'.cell? ⟨(ad12.add ((t11).toNat * 12)).block, (ad12.add ((t11).toNat * 12)).off + 4, none⟩ = some (.int .i64 ((rd_T31 l0 t11).f2.f2)) ∧ w'.cell? ⟨(ad12.add ((t11).toNat * 12)).block, (ad12.add ((t11).toNat * 12)).off + 5, none⟩ = some (.int .i64 ((rd_T31 l0 t11).f3.f0)) ∧ w'.cell? ⟨(ad12.add ((t11).toNat * 12)).block, (ad12.add ((t11).toNat * 12)).off + 6, none⟩ = some (.int .i64 ((rd_T31 l0 t11).f3.f1)) ∧ w'.cell? ⟨(ad12.add ((t11).toNat * 12)).block, (ad12.add ((t11).toNat * 12)).off + 7, none⟩ = some (.int .i64 ((rd_T31 l0 t11).f3.f2)) ∧ w'.cell? ⟨(ad12.add ((t11).toNat * 12)).block, (ad12.add ((t11).toNat * 12)).off + 8, none⟩ = some (.int .i64 ((rd_T31 l0 t11).f4.f0)) ∧ w'.cell? ⟨(ad12.add ((t11).toNat * 12)).block, (ad12.add ((t11).toNat * 12)).off + 9, none⟩ = some (.int .i64 ((rd_T31 l0 t11).f4.f1)) ∧ w'.cell? ⟨(ad12.add ((t11).toNat * 12)).block, (ad12.add ((t11).toNat * 12)).off + 10, none⟩ = some (.int .i64 ((rd_T31 l0 t11).f4.f2)) ∧ w'.cell? ⟨(ad12.add ((t11).toNat * 12)).block, (ad12.add ((t11).toNat * 12)).off + 11, none⟩ = some (.int .i64 ((rd_T31 l0 t11).f5))) (ds := []) #[false, false, false, false, false, false, false, false, false, false, false] (by kernel_rfl) rfl rfl ⟨(blk_cell BK1.out 0).trans rfl, (blk_cell BK1.out 1).trans rfl, (blk_cell BK1.out 2).trans rfl, ((HB.out.cell (World.block_lt_of_cell? w _ hw12_0)).trans hw12_0), ((HB.out.cell (World.block_lt_of_cell? w _ hw12_1)).trans hw12_1), ((HB.out.cell (World.block_lt_of_cell? w _ hw12_2)).trans hw12_2), ((HB.out.cell (World.block_lt_of_cell? w _ hw12_3)).trans hw12_3), ((HB.out.cell (World.block_lt_of_cell? w _ hw12_4)).trans hw12_4), ((HB.out.cell (World.block_lt_of_cell? w _ hw12_5)).trans hw12_5), ((HB.out.cell (World.block_lt_of_cell? w _ hw12_6)).trans hw12_6), ((HB.out.cell (World.block_lt_of_cell? w _ hw12_7)).trans hw12_7), ((HB.out.cell (World.block_lt_of_cell? w _ hw12_8)).trans hw12_8), ((HB.out.cell (World.block_lt_of_cell? w _ hw12_9)).trans hw12_9), ((HB.out.cell (World.block_lt_of_cell? w _ hw12_10)).trans hw12_10), ((HB.out.cell (World.block_lt_of_cell? w _ hw12_11)).trans hw12_11)⟩ (fun hHeld => ?_); refine with_tabW r10_Release.tab6 r10_Release.bits6 (fun HT_ HW_ => ?_)
      generalize w30.drew = w32 at HO5 BK1 BK2 HB hx12_0 hx12_1 hx12_10 hx12_11 hx12_2 hx12_3 hx12_4 hx12_5 hx12_6 hx12_7 hx12_8 hx12_9 hHeld ⊢
      refine pure_ (i := 1) (N := some 27) (v := ?_) (a' := ?_) #[false, true, false, false, false, false, false, false, false, false, false] rfl rfl (any_of HT_.out (by kernel_rfl)) (fun _ _ _ h => h) (Or.inl ⟨by rfl, ?_⟩) ?_ ?_
      rotate_left
      ·intro w'
       go_simp
       with_reducible rfl
      rotate_left
      ·simp only [Act.put, List.setIfInBounds_toArray, List.set_cons_zero, List.set_cons_succ, i64_w, i32_w]
       rfl
      refine pure_ (i := 2) (N := some 28) (v := ?_) (a' := ?_) #[false, true, true, false, false, false, false, false, false, false, false] rfl rfl (any_of HT_.out (by kernel_rfl)) (fun _ _ _ h => h) (Or.inl ⟨by rfl, ?_⟩) ?_ ?_
      rotate_left
      ·intro w'
       go_simp
       with_reducible rfl
      rotate_left
      ·simp only [Act.put, List.setIfInBounds_toArray, List.set_cons_zero, List.set_cons_succ, i64_w, i32_w]
       rfl
      refine pure_ (i := 3) (N := some 29) (v := ?_) (a' := ?_) #[false, true, true, true, false, false, false, false, false, false, false] rfl rfl (any_of HT_.out (by kernel_rfl)) (fun _ _ _ h => h) (Or.inl ⟨by rfl, ?_⟩) ?_ ?_
      rotate_left
      ·intro w'
       go_simp
       with_reducible rfl
      rotate_left
      ·simp only [Act.put, List.setIfInBounds_toArray, List.set_cons_zero, List.set_cons_succ, i64_w, i32_w]
       rfl
      refine take_ (i := 0) (N := some 26) (v := ?_) (a' := ?_) #[true, true, true, true, false, false, false, false, false, false, false] rfl rfl (take_ofW HT_.out HW_.out (by kernel_rfl)) (fun _ _ _ h => h) (Or.inl ⟨by rfl, ?_⟩) hHeld ?_ ?_
      rotate_left
      ·rintro w' ⟨s0, s1, s2, s3, s4, s5, s6, s7, s8, s9, s10, s11, s12, s13, s14⟩
       go_simp
       with_reducible rfl
      rotate_left
      ·simp only [Act.put, List.setIfInBounds_toArray, List.set_cons_zero, List.set_cons_succ, i64_w, i32_w]
       rfl
      refine one_ (i := 4) (N := some 30) #[true, true, true, true, true, false, false, false, false, false, false] rfl rfl (one_of HT_.out (by kernel_rfl)) (by decide) (fun K hK => ?_)
      refine goes_ Try.func50 (by kernel_rfl) rfl #[.slice (some ad12) l0.length c0, .string a1] (by rfl) rfl rfl (by (try simp only [List.map_toArray, List.map_cons, List.map_nil]); first | done | rfl | (simp only [List.length_drop, List.length_take]; rfl)) ?_
      with_reducible refine (r10_Find.calls k _ _ l0 a1 t11 _ ?side1 ?side2 A19.out).mono ?_
      (case side1 => repeat (first|exact (Kd.C_below HR0.out HB.out)|(with_reducible refine Kd.C_alloc ?_ _)|(with_reducible refine Kd.C_drewN ?_ _)|(with_reducible refine Kd.C_drew ?_)))
      (case side2 => exact HC0.out)
      rintro e w' ⟨rfl, ⟨nd, rfl⟩⟩
      refine ⟨_, rfl, ?_⟩
      refine hK.out _ _ ⟨(blk_cell BK1.out 0).trans rfl, (blk_cell BK1.out 1).trans rfl, (blk_cell BK1.out 2).trans rfl, ((HB.out.cell (World.block_lt_of_cell? w _ hw12_0)).trans hw12_0), ((HB.out.cell (World.block_lt_of_cell? w _ hw12_1)).trans hw12_1), ((HB.out.cell (World.block_lt_of_cell? w _ hw12_2)).trans hw12_2), ((HB.out.cell (World.block_lt_of_cell? w _ hw12_3)).trans hw12_3), ((HB.out.cell (World.block_lt_of_cell? w _ hw12_4)).trans hw12_4), ((HB.out.cell (World.block_lt_of_cell? w _ hw12_5)).trans hw12_5), ((HB.out.cell (World.block_lt_of_cell? w _ hw12_6)).trans hw12_6), ((HB.out.cell (World.block_lt_of_cell? w _ hw12_7)).trans hw12_7), ((HB.out.cell (World.block_lt_of_cell? w _ hw12_8)).trans hw12_8), ((HB.out.cell (World.block_lt_of_cell? w _ hw12_9)).trans hw12_9), ((HB.out.cell (World.block_lt_of_cell? w _ hw12_10)).trans hw12_10), ((HB.out.cell (World.block_lt_of_cell? w _ hw12_11)).trans hw12_11)⟩ (fun hHeld => ?_)
      clear hK K
      refine norm_ (a' := ?_) ?_ ?_
      rotate_left
      ·show Act.put _ (some 30) _ = _
       simp only [Act.put, List.setIfInBounds_toArray, List.set_cons_zero, List.set_cons_succ, i64_w, i32_w]
       rfl
      refine pure_ (i := 5) (N := some 31) (v := ?_) (a' := ?_) #[true, true, true, true, true, true, false, false, false, false, false] rfl rfl (any_of HT_.out (by kernel_rfl)) (fun _ _ _ h => h) (Or.inl ⟨by rfl, ?_⟩) ?_ ?_
      rotate_left
      ·intro w'
       go_simp
       with_reducible rfl
      rotate_left
      ·simp only [Act.put, List.setIfInBounds_toArray, List.set_cons_zero, List.set_cons_succ, i64_w, i32_w]
       rfl
      refine pure_ (i := 6) (N := some 32) (v := ?_) (a' := ?_) #[true, true, true, true, true, true, true, false, false, false, false] rfl rfl (any_of HT_.out (by kernel_rfl)) (fun _ _ _ h => h) (Or.inl ⟨by rfl, ?_⟩) ?_ ?_
      rotate_left
      ·intro w'
       go_simp
       with_reducible rfl
      rotate_left
      ·simp only [Act.put, List.setIfInBounds_toArray, List.set_cons_zero, List.set_cons_succ, i64_w, i32_w]
       rfl
      refine take_ (i := 7) (N := some 33) (v := ?_) (a' := ?_) #[true, true, true, true, true, true, true, true, false, false, false] rfl rfl (take_ofW HT_.out HW_.out (by kernel_rfl)) (fun _ _ _ h => h) (Or.inl ⟨by rfl, ?_⟩) hHeld ?_ ?_
      rotate_left
      ·rintro w' ⟨s0, s1, s2, s3, s4, s5, s6, s7, s8, s9, s10, s11, s12, s13, s14⟩
       go_simp
       with_reducible rfl
      rotate_left
      ·simp only [Act.put, List.setIfInBounds_toArray, List.set_cons_zero, List.set_cons_succ, i64_w, i32_w]
       rfl
      refine one_ (i := 8) (N := some 34) #[true, true, true, true, true, true, true, true, true, false, false] rfl rfl (one_of HT_.out (by kernel_rfl)) (by decide) (fun K hK => ?_)
      refine goes_ Try.func34 (by kernel_rfl) rfl #[.agg #[.int .i64 a2_0, .int .i64 a2_1, .int .i64 a2_2], .agg #[.int .i64 ((rd_T31 l0 t11).f3.f0), .int .i64 ((rd_T31 l0 t11).f3.f1), .int .i64 ((rd_T31 l0 t11).f3.f2)]] (by rfl) rfl rfl (by (try simp only [List.map_toArray, List.map_cons, List.map_nil]); first | done | rfl | (simp only [List.length_drop, List.length_take]; rfl)) ?_
      with_reducible refine (r10_Le.calls a2_0 a2_1 a2_2 ((rd_T31 l0 t11).f3.f0) ((rd_T31 l0 t11).f3.f1) ((rd_T31 l0 t11).f3.f2) true _ A22.out).mono ?_
      rintro e w33 ⟨rfl, hb⟩
      refine ⟨_, rfl, ?_⟩
      have n0_ := Aside0.mk (Kd.R_below (by (with_reducible repeat (first|apply Kd.R_alloc|apply Kd.R_drewN|apply Kd.R_drew));exact HO5.out) hb)
      have n1_ := Aside0.mk (blk_below (g := gb1) (o := .cells #[.int .i64 a2_0, .int .i64 a2_1, .int .i64 a2_2] 27 (0, 0)) (by (with_reducible repeat (first|refine blk_drewN ?_ _|refine blk_drew ?_|refine blk_alloc ?_ _));exact BK1.out) hb)
      have n2_ := Aside0.mk (blk_below (g := gb2) (o := .cells #[.slice none 0 0, .int .i64 0] 67 (0, 0)) (by (with_reducible repeat (first|refine blk_drewN ?_ _|refine blk_drew ?_|refine blk_alloc ?_ _));exact BK2.out) hb)
      have n3_ := Aside0.mk (below_step (by repeat (first|(with_reducible first|exact HB.out|apply below_alloc|apply pw_below_drewN|apply below_drew1|refine below_set ?_ GE1.out|refine below_set ?_ GE2.out)|exact HB.out)) hb)
      clear HO5
      clear BK1
      clear BK2
      clear HB
      have HO5 := n0_
      have BK1 := n1_
      have BK2 := n2_
      have HB := n3_
      clear n0_ n1_ n2_ n3_
      (try clear hb)
      (try clear hb2)
      (try clear hk)
      (try clear hi)
      refine hK.out _ _ ⟨(blk_cell BK1.out 0).trans rfl, (blk_cell BK1.out 1).trans rfl, (blk_cell BK1.out 2).trans rfl, ((HB.out.cell (World.block_lt_of_cell? w _ hw12_0)).trans hw12_0), ((HB.out.cell (World.block_lt_of_cell? w _ hw12_1)).trans hw12_1), ((HB.out.cell (World.block_lt_of_cell? w _ hw12_2)).trans hw12_2), ((HB.out.cell (World.block_lt_of_cell? w _ hw12_3)).trans hw12_3), ((HB.out.cell (World.block_lt_of_cell? w _ hw12_4)).trans hw12_4), ((HB.out.cell (World.block_lt_of_cell? w _ hw12_5)).trans hw12_5), ((HB.out.cell (World.block_lt_of_cell? w _ hw12_6)).trans hw12_6), ((HB.out.cell (World.block_lt_of_cell? w _ hw12_7)).trans hw12_7), ((HB.out.cell (World.block_lt_of_cell? w _ hw12_8)).trans hw12_8), ((HB.out.cell (World.block_lt_of_cell? w _ hw12_9)).trans hw12_9), ((HB.out.cell (World.block_lt_of_cell? w _ hw12_10)).trans hw12_10), ((HB.out.cell (World.block_lt_of_cell? w _ hw12_11)).trans hw12_11)⟩ (fun hHeld => ?_)
      clear hK K
      refine norm_ (a' := ?_) ?_ ?_
      rotate_left
      ·show Act.put _ (some 34) _ = _
       simp only [Act.put, List.setIfInBounds_toArray, List.set_cons_zero, List.set_cons_succ, i64_w, i32_w]
       rfl
      refine pure_ (i := 9) (N := some 35) (v := ?_) (a' := ?_) #[true, true, true, true, true, true, true, true, true, true, false] rfl rfl (any_of HT_.out (by kernel_rfl)) (fun _ _ _ h => h) (Or.inl ⟨by rfl, ?_⟩) ?_ ?_
      rotate_left
      ·intro w'
       go_simp
       with_reducible rfl
      rotate_left
      ·simp only [Act.put, List.setIfInBounds_toArray, List.set_cons_zero, List.set_cons_succ, i64_w, i32_w]
       rfl
      refine pure_ (i := 10) (N := some 25) (v := ?_) (a' := ?_) #[true, true, true, true, true, true, true, true, true, true, true] rfl rfl (any_of HT_.out (by kernel_rfl)) (fun _ _ _ h => h) (Or.inl ⟨by rfl, ?_⟩) ?_ ?_
      rotate_left
      ·intro w'
       go_simp
       with_reducible rfl
      rotate_left
      ·simp only [Act.put, List.setIfInBounds_toArray, List.set_cons_zero, List.set_cons_succ, i64_w, i32_w]
       rfl
      refine done_ (done_of HT_.out (by kernel_rfl)) ?_
      try go_wp2_with (first|((with_reducible refine gate_callee (f := 124) rfl ?_);refine goesL_ (some 38) rfl rfl Try.func124 (by kernel_rfl) rfl #[.slice (some ad12) l0.length c0] rfl (by (try simp only [List.map_toArray, List.map_cons, List.map_nil]);first|done|rfl|(simp only [List.length_drop, List.length_take];rfl)) ?_;(with_reducible refine (r10_copied.calls _ _ l0 t22 _ ?side1 ?side2 A24.out).mono ?_);(case side1 => repeat (first|exact (Kd.C_below HR0.out HB.out)|(with_reducible refine Kd.C_alloc ?_ _)|(with_reducible refine Kd.C_drewN ?_ _)|(with_reducible refine Kd.C_drew ?_)));(case side2 => exact HC0.out);rintro e w34 ⟨v23, rfl, ho0, hb⟩;refine ⟨_, rfl, ?_⟩;have n0_ := Aside0.mk (Kd.R_below (by (with_reducible repeat (first|apply Kd.R_alloc|apply Kd.R_drewN|apply Kd.R_drew));exact HO5.out) hb);have n1_ := Aside0.mk (Kd.R_lower ho0 (below_size (by repeat (first|(with_reducible first|exact HB.out|apply below_alloc|apply pw_below_drewN|apply below_drew1|refine below_set ?_ GE1.out|refine below_set ?_ GE2.out)|exact HB.out))));have n2_ := Aside0.mk (blk_below (g := gb1) (o := .cells #[.int .i64 a2_0, .int .i64 a2_1, .int .i64 a2_2] 27 (0, 0)) (by (with_reducible repeat (first|refine blk_drewN ?_ _|refine blk_drew ?_|refine blk_alloc ?_ _));exact BK1.out) hb);have n3_ := Aside0.mk (blk_below (g := gb2) (o := .cells #[.slice none 0 0, .int .i64 0] 67 (0, 0)) (by (with_reducible repeat (first|refine blk_drewN ?_ _|refine blk_drew ?_|refine blk_alloc ?_ _));exact BK2.out) hb);have n4_ := Aside0.mk (below_step (by repeat (first|(with_reducible first|exact HB.out|apply below_alloc|apply pw_below_drewN|apply below_drew1|refine below_set ?_ GE1.out|refine below_set ?_ GE2.out)|exact HB.out)) hb);clear HO5;clear BK1;clear BK2;clear HB;have HO5 := n0_;have HO24 := n1_;have BK1 := n2_;have BK2 := n3_;have HB := n4_;clear n0_ n1_ n2_ n3_ n4_;(try clear hb);(try clear hb2);(try clear hk);(try clear hi);(try clear ho0)))
      go_loopg [9] k (fun kq v9 w' => ∃ (x8_1 : List (S31)) (x9_1 : Int), v9 = .int .i64 x9_1 ∧ Aside0 (r10_Release.l0 kq a1 t3 x8_1 x9_1 a2_0 a2_1 a2_2 = some (r1, r2)) ∧ Aside0 (kq ≤ k) ∧ Aside0 (Kd.R Kd.string 9 w' w.heap.size (fun _ => True) (.slice Ao31 t3.length co31) t3) ∧ Aside0 (Kd.R k31 31 w' w.heap.size (fun _ => True) v23 x8_1) ∧ Aside0 (w'.heap[gb1]? = some (.cells #[.int .i64 a2_0, .int .i64 a2_1, .int .i64 a2_2] 27 (0, 0))) ∧ Aside0 (w'.heap[gb2]? = some (.cells #[(.slice none 0 0), .int .i64 0] 67 (0, 0))) ∧ Aside0 (Below w.heap.size w w'))
      case atStart => exact ⟨(t22), (0), (by first|rfl|(simp;done)|(simp [*];done)), H', ⟨Nat.le_refl _⟩, ⟨by (with_reducible repeat (first|apply Kd.R_alloc|apply Kd.R_drewN|apply Kd.R_drew));exact HO5.out⟩, ⟨by (with_reducible repeat (first|apply Kd.R_alloc|apply Kd.R_drewN|apply Kd.R_drew));exact HO24.out⟩, ⟨by (with_reducible repeat (first|refine blk_drewN ?_ _|refine blk_drew ?_|refine blk_alloc ?_ _));exact BK1.out⟩, ⟨by (with_reducible repeat (first|refine blk_drewN ?_ _|refine blk_drew ?_|refine blk_alloc ?_ _));exact BK2.out⟩, ⟨by repeat (first|(with_reducible first|exact HB.out|apply below_alloc|apply pw_below_drewN|apply below_drew1|refine below_set ?_ GE1.out|refine below_set ?_ GE2.out)|exact HB.out)⟩⟩
      case round =>
       clear H'
       try clear c1
       try clear p1
       try clear q1
       try clear hx1
       try clear c2
       try clear p2
       try clear c3
       try clear c5
       try clear c6
       try clear c7
       try clear c7b0
       try clear c7b1
       try clear c7b2
       try clear c10
       try clear c11
       try clear c12
       try clear p12
       try clear q12
       try clear hx12
       try clear c20
       try clear c20b0
       try clear c21
       try clear c21b0
       try clear c23
       try clear c28
       try clear c34
       try clear hcz13_0
       try clear hcz13_1
       try clear hcz13_2
       try clear hcz18_0
       try clear hcz18_1
       try clear hcz29_0
       try clear hcz29_1
       try clear hcz29_2
       try clear hfz13_0
       try clear hfz13_1
       try clear hfz13_2
       try clear hfz18_0
       try clear hfz18_1
       try clear hfz29_0
       try clear hfz29_1
       try clear hfz29_2
       try clear hx12_0
       try clear hx12_1
       try clear hx12_10
       try clear hx12_11
       try clear hx12_2
       try clear hx12_3
       try clear hx12_4
       try clear hx12_5
       try clear hx12_6
       try clear hx12_7
       try clear hx12_8
       try clear hx12_9
       try clear p12
       try clear q12
       obtain ⟨x8_1, x9_1, rfl, HA, HK1, HO_7, HO_8, BK1, BK2, HB⟩ := hrel
       cases gk with
       | zero => exact absurd HA.out (by simp [r10_Release.l0])
       | succ k1 =>
        have H := HA.out
        clear HA
        simp only [r10_Release.l0] at H
        by_cases c35 : x9_1 < (t3.length : Int)
        ·rw [if_pos c35] at H
         have c35b0 : decide (x9_1 < (t3.length : Int)) = true := decide_eq_true c35
         clear c35
         by_cases c36 : 0 ≤ x9_1
         ·rw [if_pos c36] at H
          have c36b0 : decide (0 ≤ x9_1) = true := decide_eq_true c36
          clear c36
          replace H := Option.bind_eq_some_iff.mp H
          obtain ⟨t26, A370, H⟩ := H
          replace H : (if 0 ≤ t26 then (if t26 < (x8_1.length : Int) then ((r10_Sub.f ((rd_T31 x8_1 t26).f4.f0) ((rd_T31 x8_1 t26).f4.f1) ((rd_T31 x8_1 t26).f4.f2) a2_0 a2_1 a2_2).bind fun bt28 => (r10_Release.l0 k1 a1 t3 (x8_1.set (t26 : Int).toNat (⟨(rd_T31 x8_1 t26).f0, (rd_T31 x8_1 t26).f1, (⟨(rd_T31 x8_1 t26).f2.f0, (rd_T31 x8_1 t26).f2.f1, (rd_T31 x8_1 t26).f2.f2⟩ : S27), (⟨(rd_T31 x8_1 t26).f3.f0, (rd_T31 x8_1 t26).f3.f1, (rd_T31 x8_1 t26).f3.f2⟩ : S27), (⟨bt28.1, bt28.2.1, bt28.2.2⟩ : S27), (rd_T31 x8_1 t26).f5⟩ : S31)) (wrap64 (x9_1 + 1)) a2_0 a2_1 a2_2)) else (none)) else (none)) = some (r1, r2) := H
          have A37 := Aside0.mk A370
          clear A370
          by_cases c38 : 0 ≤ t26
          ·rw [if_pos c38] at H
           have c38b0 : decide (0 ≤ t26) = true := decide_eq_true c38
           clear c38
           by_cases c39 : t26 < (x8_1.length : Int)
           ·rw [if_pos c39] at H
            have c39b0 : decide (t26 < (x8_1.length : Int)) = true := decide_eq_true c39
            clear c39
            replace H := Option.bind_eq_some_iff.mp H
            obtain ⟨⟨t28, t29, t30⟩, A400, H⟩ := H
            replace H : (r10_Release.l0 k1 a1 t3 (x8_1.set (t26 : Int).toNat (⟨(rd_T31 x8_1 t26).f0, (rd_T31 x8_1 t26).f1, (⟨(rd_T31 x8_1 t26).f2.f0, (rd_T31 x8_1 t26).f2.f1, (rd_T31 x8_1 t26).f2.f2⟩ : S27), (⟨(rd_T31 x8_1 t26).f3.f0, (rd_T31 x8_1 t26).f3.f1, (rd_T31 x8_1 t26).f3.f2⟩ : S27), (⟨t28, t29, t30⟩ : S27), (rd_T31 x8_1 t26).f5⟩ : S31)) (wrap64 (x9_1 + 1)) a2_0 a2_1 a2_2) = some (r1, r2) := H
            have A40 := Aside0.mk A400
            clear A400
            obtain ⟨y31, hy31⟩ : ∃ y_ : List (S31), y_ = (x8_1.set (t26 : Int).toNat (⟨(rd_T31 x8_1 t26).f0, (rd_T31 x8_1 t26).f1, (⟨(rd_T31 x8_1 t26).f2.f0, (rd_T31 x8_1 t26).f2.f1, (rd_T31 x8_1 t26).f2.f2⟩ : S27), (⟨(rd_T31 x8_1 t26).f3.f0, (rd_T31 x8_1 t26).f3.f1, (rd_T31 x8_1 t26).f3.f2⟩ : S27), (⟨t28, t29, t30⟩ : S27), (rd_T31 x8_1 t26).f5⟩ : S31)) := ⟨_, rfl⟩
            replace H : (r10_Release.l0 k1 a1 t3 y31 (wrap64 (x9_1 + 1)) a2_0 a2_1 a2_2) = some (r1, r2) := by first|(rw [hy31];with_reducible exact H)|(have H2_ := (Option.bind_some _ _).symm.trans H;rw [hy31];with_reducible exact H2_)|(have H2_ := (Option.bind_some _ _).symm.trans H;with_reducible exact H2_)|with_reducible exact H|(rw [hy31];exact H)|exact H
            have Ny31 := Aside0.mk hy31
            clear hy31
            have H' := Aside0.mk H
            clear H
            have p25 : 0 ≤ (x9_1 : Int) := of_decide_eq_true (by first|(with_reducible assumption)|assumption)
            have q25 : x9_1 < (t3.length : Int) := of_decide_eq_true (by first|(with_reducible assumption)|assumption)
            obtain ⟨ad25, e25, hx25_0⟩ := Kd.at_string (Kd.R_reads' HO_7.out).2.2 x9_1 p25 q25
            cases e25
            replace p25 := eq_true p25
            replace q25 := eq_true q25
            obtain ⟨Ao42, co42, eo42⟩ := Kd.R_slice HO_8.out
            subst eo42
            try go_wp2_with (first|((with_reducible refine gate_callee (f := 50) rfl ?_);refine goesL_ (some 50) rfl rfl Try.func50 (by kernel_rfl) rfl #[.slice Ao42 x8_1.length co42, .string (rdOf ByteArray.empty t3 x9_1)] rfl (by (try simp only [List.map_toArray, List.map_cons, List.map_nil]);first|done|rfl|(simp only [List.length_drop, List.length_take];rfl)) ?_;(with_reducible refine (r10_Find.calls k1 _ _ x8_1 (rdOf ByteArray.empty t3 x9_1) t26 _ ?side1 ?side2 A37.out).mono ?_);(case side1 => repeat (first|exact (Kd.R_reads' HO_8.out).2.2|(with_reducible refine Kd.C_alloc ?_ _)|(with_reducible refine Kd.C_drewN ?_ _)|(with_reducible refine Kd.C_drew ?_)));(case side2 => exact (Kd.R_reads' HO_8.out).2.1);rintro e w' ⟨rfl, ⟨nd, rfl⟩⟩;refine ⟨_, rfl, ?_⟩;(try (rw [drewN_self wr];generalize hq_ : World.drewN wr _ = wr;have n0_ : Aside0 (Kd.R Kd.string 9 wr w.heap.size (fun _ => True) (.slice (some ad25) t3.length co31) t3) := ⟨by rw [← hq_];exact (by (with_reducible repeat (first|apply Kd.R_alloc|apply Kd.R_drewN|apply Kd.R_drew));exact HO_7.out)⟩;have n1_ : Aside0 (Kd.R k31 31 wr w.heap.size (fun _ => True) (.slice Ao42 x8_1.length co42) x8_1) := ⟨by rw [← hq_];exact (by (with_reducible repeat (first|apply Kd.R_alloc|apply Kd.R_drewN|apply Kd.R_drew));exact HO_8.out)⟩;have n2_ : Aside0 (wr.heap[gb1]? = some (.cells #[.int .i64 a2_0, .int .i64 a2_1, .int .i64 a2_2] 27 (0, 0))) := ⟨by rw [← hq_];exact (by (with_reducible repeat (first|refine blk_drewN ?_ _|refine blk_drew ?_|refine blk_alloc ?_ _));exact BK1.out)⟩;have n3_ : Aside0 (wr.heap[gb2]? = some (.cells #[.slice none 0 0, .int .i64 0] 67 (0, 0))) := ⟨by rw [← hq_];exact (by (with_reducible repeat (first|refine blk_drewN ?_ _|refine blk_drew ?_|refine blk_alloc ?_ _));exact BK2.out)⟩;have n4_ : Aside0 (Below w.heap.size w wr) := ⟨by rw [← hq_];exact (by repeat (first|(with_reducible first|exact HB.out|apply below_alloc|apply pw_below_drewN|apply below_drew1|refine below_set ?_ GE1.out|refine below_set ?_ GE2.out)|exact HB.out))⟩;clear HO_7 HO_8 BK1 BK2 HB hq_;have HO_7 := n0_;have HO_8 := n1_;have BK1 := n2_;have BK2 := n3_;have HB := n4_;clear n0_ n1_ n2_ n3_ n4_))))
            have n0_ := Aside0.mk (Kd.R_drew HO_7.out)
            have n1_ := Aside0.mk (Kd.R_drew HO_8.out)
            have n2_ := Aside0.mk (blk_drew BK1.out)
            have n3_ := Aside0.mk (blk_drew BK2.out)
            have n4_ := Aside0.mk (below_drew1 HB.out)
            clear HO_7
            clear HO_8
            clear BK1
            clear BK2
            clear HB
            have HO_7 := n0_
            have HO_8 := n1_
            have BK1 := n2_
            have BK2 := n3_
            have HB := n4_
            clear n0_ n1_ n2_ n3_ n4_
            have p27 : 0 ≤ (t26 : Int) := of_decide_eq_true (by first|(with_reducible assumption)|assumption)
            have q27 : t26 < (x8_1.length : Int) := of_decide_eq_true (by first|(with_reducible assumption)|assumption)
            obtain ⟨ad27, e27, hx27_0, hx27_1, hx27_2, hx27_3, hx27_4, hx27_5, hx27_6, hx27_7, hx27_8, hx27_9, hx27_10, hx27_11⟩ := at_T31 (Kd.R_reads' HO_8.out).2.2 t26 p27 q27
            cases e27
            replace p27 := eq_true p27
            replace q27 := eq_true q27
            refine start_ (n := 12) (S := fun w' => w'.cell? ⟨gb1, 0, none⟩ = some (.int .i64 a2_0) ∧ w'.cell? ⟨gb1, 1, none⟩ = some (.int .i64 a2_1) ∧ w'.cell? ⟨gb1, 2, none⟩ = some (.int .i64 a2_2) ∧ w'.cell? (ad27.add ((t26).toNat * 12)) = some (.string ((rd_T31 x8_1 t26).f0)) ∧ w'.cell? ⟨(ad27.add ((t26).toNat * 12)).block, (ad27.add ((t26).toNat * 12)).off + 1, none⟩ = some (.string ((rd_T31 x8_1 t26).f1)) ∧ w'.cell? ⟨(ad27.add ((t26).toNat * 12)).block, (ad27.add ((t26).toNat * 12)).off + 2, none⟩ = some (.int .i64 ((rd_T31 x8_1 t26).f2.f0)) ∧ w'.cell? ⟨(ad27.add ((t26).toNat * 12)).block, (ad27.add ((t26).toNat * 12)).off + 3, none⟩ = some (.int .i64 ((rd_T31 x8_1 t26).f2.f1)) ∧ w'.cell? ⟨(ad27.add ((t26).toNat * 12)).block, (ad27.add ((t26).toNat * 12)).off + 4, none⟩ = some (.int .i64 ((rd_T31 x8_1 t26).f2.f2)) ∧ w'.cell? ⟨(ad27.add ((t26).toNat * 12)).block, (ad27.add ((t26).toNat * 12)).off + 5, none⟩ = some (.int .i64 ((rd_T31 x8_1 t26).f3.f0)) ∧ w'.cell? ⟨(ad27.add ((t26).toNat * 12)).block, (ad27.add ((t26).toNat * 12)).off + 6, none⟩ = some (.int .i64 ((rd_T31 x8_1 t26).f3.f1)) ∧ w'.cell? ⟨(ad27.add ((t26).toNat * 12)).block, (ad27.add ((t26).toNat * 12)).off + 7, none⟩ = some (.int .i64 ((rd_T31 x8_1 t26).f3.f2)) ∧ w'.cell? ⟨(ad27.add ((t26).toNat * 12)).block, (ad27.add ((t26).toNat * 12)).off + 8, none⟩ = some (.int .i64 ((rd_T31 x8_1 t26).f4.f0)) ∧ w'.cell? ⟨(ad27.add ((t26).toNat * 12)).block, (ad27.add ((t26).toNat * 12)).off + 9, none⟩ = some (.int .i64 ((rd_T31 x8_1 t26).f4.f1)) ∧ w'.cell? ⟨(ad27.add ((t26).toNat * 12)).block, (ad27.add ((t26).toNat * 12)).off + 10, none⟩ = some (.int .i64 ((rd_T31 x8_1 t26).f4.f2)) ∧ w'.cell? ⟨(ad27.add ((t26).toNat * 12)).block, (ad27.add ((t26).toNat * 12)).off + 11, none⟩ = some (.int .i64 ((rd_T31 x8_1 t26).f5))) (ds := [11]) #[false, false, false, false, false, false, false, false, false, false, false, false] (by kernel_rfl) rfl rfl ⟨(blk_cell BK1.out 0).trans rfl, (blk_cell BK1.out 1).trans rfl, (blk_cell BK1.out 2).trans rfl, hx27_0, hx27_1, hx27_2, hx27_3, hx27_4, hx27_5, hx27_6, hx27_7, hx27_8, hx27_9, hx27_10, hx27_11⟩ (fun hHeld => ?_); refine with_tabW r10_Release.tab13 r10_Release.bits13 (fun HT_ HW_ => ?_)
            generalize wr.drew = w43 at HO_7 HO_8 BK1 BK2 HB hx27_0 hx27_1 hx27_10 hx27_11 hx27_2 hx27_3 hx27_4 hx27_5 hx27_6 hx27_7 hx27_8 hx27_9 hHeld ⊢
            refine pure_ (i := 0) (N := some 51) (v := ?_) (a' := ?_) #[true, false, false, false, false, false, false, false, false, false, false, false] rfl rfl (any_of HT_.out (by kernel_rfl)) (fun _ _ _ h => h) (Or.inl ⟨by rfl, ?_⟩) ?_ ?_
            rotate_left
            ·intro w'
             go_simp
             with_reducible rfl
            rotate_left
            ·simp only [Act.put, List.setIfInBounds_toArray, List.set_cons_zero, List.set_cons_succ, i64_w, i32_w]
             rfl
            refine pure_ (i := 1) (N := some 52) (v := ?_) (a' := ?_) #[true, true, false, false, false, false, false, false, false, false, false, false] rfl rfl (any_of HT_.out (by kernel_rfl)) (fun _ _ _ h => h) (Or.inl ⟨by rfl, ?_⟩) ?_ ?_
            rotate_left
            ·intro w'
             go_simp
             with_reducible rfl
            rotate_left
            ·simp only [Act.put, List.setIfInBounds_toArray, List.set_cons_zero, List.set_cons_succ, i64_w, i32_w]
             rfl
            refine pure_ (i := 2) (N := some 53) (v := ?_) (a' := ?_) #[true, true, true, false, false, false, false, false, false, false, false, false] rfl rfl (any_of HT_.out (by kernel_rfl)) (fun _ _ _ h => h) (Or.inl ⟨by rfl, ?_⟩) ?_ ?_
            rotate_left
            ·intro w'
             go_simp
             with_reducible rfl
            rotate_left
            ·simp only [Act.put, List.setIfInBounds_toArray, List.set_cons_zero, List.set_cons_succ, i64_w, i32_w]
             rfl
            refine pure_ (i := 3) (N := some 54) (v := ?_) (a' := ?_) #[true, true, true, true, false, false, false, false, false, false, false, false] rfl rfl (any_of HT_.out (by kernel_rfl)) (fun _ _ _ h => h) (Or.inl ⟨by rfl, ?_⟩) ?_ ?_
            rotate_left
            ·intro w'
             go_simp
             with_reducible rfl
            rotate_left
            ·simp only [Act.put, List.setIfInBounds_toArray, List.set_cons_zero, List.set_cons_succ, i64_w, i32_w]
             rfl
            refine pure_ (i := 4) (N := some 55) (v := ?_) (a' := ?_) #[true, true, true, true, true, false, false, false, false, false, false, false] rfl rfl (any_of HT_.out (by kernel_rfl)) (fun _ _ _ h => h) (Or.inl ⟨by rfl, ?_⟩) ?_ ?_
            rotate_left
            ·intro w'
             go_simp
             with_reducible rfl
            rotate_left
            ·simp only [Act.put, List.setIfInBounds_toArray, List.set_cons_zero, List.set_cons_succ, i64_w, i32_w]
             rfl
            refine pure_ (i := 5) (N := some 56) (v := ?_) (a' := ?_) #[true, true, true, true, true, true, false, false, false, false, false, false] rfl rfl (any_of HT_.out (by kernel_rfl)) (fun _ _ _ h => h) (Or.inl ⟨by rfl, ?_⟩) ?_ ?_
            rotate_left
            ·intro w'
             go_simp
             with_reducible rfl
            rotate_left
            ·simp only [Act.put, List.setIfInBounds_toArray, List.set_cons_zero, List.set_cons_succ, i64_w, i32_w]
             rfl
            refine take_ (i := 6) (N := some 57) (v := ?_) (a' := ?_) #[true, true, true, true, true, true, true, false, false, false, false, false] rfl rfl (take_ofW HT_.out HW_.out (by kernel_rfl)) (fun _ _ _ h => h) (Or.inl ⟨by rfl, ?_⟩) hHeld ?_ ?_
            rotate_left
            ·rintro w' ⟨s0, s1, s2, s3, s4, s5, s6, s7, s8, s9, s10, s11, s12, s13, s14⟩
             go_simp
             with_reducible rfl
            rotate_left
            ·simp only [Act.put, List.setIfInBounds_toArray, List.set_cons_zero, List.set_cons_succ, i64_w, i32_w]
             rfl
            refine take_ (i := 7) (N := some 58) (v := ?_) (a' := ?_) #[true, true, true, true, true, true, true, true, false, false, false, false] rfl rfl (take_ofW HT_.out HW_.out (by kernel_rfl)) (fun _ _ _ h => h) (Or.inl ⟨by rfl, ?_⟩) hHeld ?_ ?_
            rotate_left
            ·rintro w' ⟨s0, s1, s2, s3, s4, s5, s6, s7, s8, s9, s10, s11, s12, s13, s14⟩
             go_simp
             with_reducible rfl
            rotate_left
            ·simp only [Act.put, List.setIfInBounds_toArray, List.set_cons_zero, List.set_cons_succ, i64_w, i32_w]
             rfl
            refine one_ (i := 8) (N := some 59) #[true, true, true, true, true, true, true, true, true, false, false, false] rfl rfl (one_of HT_.out (by kernel_rfl)) (by decide) (fun K hK => ?_)
            refine goes_ Try.func35 (by kernel_rfl) rfl #[.agg #[.int .i64 ((rd_T31 x8_1 t26).f4.f0), .int .i64 ((rd_T31 x8_1 t26).f4.f1), .int .i64 ((rd_T31 x8_1 t26).f4.f2)], .agg #[.int .i64 a2_0, .int .i64 a2_1, .int .i64 a2_2]] (by rfl) rfl rfl (by (try simp only [List.map_toArray, List.map_cons, List.map_nil]); first | done | rfl | (simp only [List.length_drop, List.length_take]; rfl)) ?_
            with_reducible refine (r10_Sub.calls ((rd_T31 x8_1 t26).f4.f0) ((rd_T31 x8_1 t26).f4.f1) ((rd_T31 x8_1 t26).f4.f2) a2_0 a2_1 a2_2 t28 t29 t30 _ A40.out).mono ?_
            rintro e w44 ⟨rfl, hb⟩
            have HS3_ := (hb.cell (World.block_lt_of_cell? _ _ (hHeld.2.2.2.1))).trans (hHeld.2.2.2.1)
            have HS4_ := (hb.cell (World.block_lt_of_cell? _ _ (hHeld.2.2.2.2.1))).trans (hHeld.2.2.2.2.1)
            have HS5_ := (hb.cell (World.block_lt_of_cell? _ _ (hHeld.2.2.2.2.2.1))).trans (hHeld.2.2.2.2.2.1)
            have HS6_ := (hb.cell (World.block_lt_of_cell? _ _ (hHeld.2.2.2.2.2.2.1))).trans (hHeld.2.2.2.2.2.2.1)
            have HS7_ := (hb.cell (World.block_lt_of_cell? _ _ (hHeld.2.2.2.2.2.2.2.1))).trans (hHeld.2.2.2.2.2.2.2.1)
            have HS8_ := (hb.cell (World.block_lt_of_cell? _ _ (hHeld.2.2.2.2.2.2.2.2.1))).trans (hHeld.2.2.2.2.2.2.2.2.1)
            have HS9_ := (hb.cell (World.block_lt_of_cell? _ _ (hHeld.2.2.2.2.2.2.2.2.2.1))).trans (hHeld.2.2.2.2.2.2.2.2.2.1)
            have HS10_ := (hb.cell (World.block_lt_of_cell? _ _ (hHeld.2.2.2.2.2.2.2.2.2.2.1))).trans (hHeld.2.2.2.2.2.2.2.2.2.2.1)
            have HS11_ := (hb.cell (World.block_lt_of_cell? _ _ (hHeld.2.2.2.2.2.2.2.2.2.2.2.1))).trans (hHeld.2.2.2.2.2.2.2.2.2.2.2.1)
            have HS12_ := (hb.cell (World.block_lt_of_cell? _ _ (hHeld.2.2.2.2.2.2.2.2.2.2.2.2.1))).trans (hHeld.2.2.2.2.2.2.2.2.2.2.2.2.1)
            have HS13_ := (hb.cell (World.block_lt_of_cell? _ _ (hHeld.2.2.2.2.2.2.2.2.2.2.2.2.2.1))).trans (hHeld.2.2.2.2.2.2.2.2.2.2.2.2.2.1)
            have HS14_ := (hb.cell (World.block_lt_of_cell? _ _ (hHeld.2.2.2.2.2.2.2.2.2.2.2.2.2.2))).trans (hHeld.2.2.2.2.2.2.2.2.2.2.2.2.2.2)
            refine ⟨_, rfl, ?_⟩
            have n0_ := Aside0.mk (Kd.R_below (by (with_reducible repeat (first|apply Kd.R_alloc|apply Kd.R_drewN|apply Kd.R_drew));exact HO_7.out) hb)
            have n1_ := Aside0.mk (Kd.R_below (by (with_reducible repeat (first|apply Kd.R_alloc|apply Kd.R_drewN|apply Kd.R_drew));exact HO_8.out) hb)
            have n2_ := Aside0.mk (blk_below (g := gb1) (o := .cells #[.int .i64 a2_0, .int .i64 a2_1, .int .i64 a2_2] 27 (0, 0)) (by (with_reducible repeat (first|refine blk_drewN ?_ _|refine blk_drew ?_|refine blk_alloc ?_ _));exact BK1.out) hb)
            have n3_ := Aside0.mk (blk_below (g := gb2) (o := .cells #[.slice none 0 0, .int .i64 0] 67 (0, 0)) (by (with_reducible repeat (first|refine blk_drewN ?_ _|refine blk_drew ?_|refine blk_alloc ?_ _));exact BK2.out) hb)
            have n4_ := Aside0.mk (below_step (by repeat (first|(with_reducible first|exact HB.out|apply below_alloc|apply pw_below_drewN|apply below_drew1|refine below_set ?_ GE1.out|refine below_set ?_ GE2.out)|exact HB.out)) hb)
            clear HO_7
            clear HO_8
            clear BK1
            clear BK2
            clear HB
            have HO_7 := n0_
            have HO_8 := n1_
            have BK1 := n2_
            have BK2 := n3_
            have HB := n4_
            clear n0_ n1_ n2_ n3_ n4_
            (try clear hb)
            (try clear hb2)
            (try clear hk)
            (try clear hi)
            have p41 : 0 ≤ (t26 : Int) := of_decide_eq_true (by first|(with_reducible assumption)|assumption)
            have q41 : (t26 : Int) < ((x8_1.length : Int) : Int) := of_decide_eq_true (by first|(with_reducible assumption)|assumption)
            obtain ⟨go41, co41, eo41, gb41, gl41, cl41, HG41⟩ := Kd.R_form HO_8.out (by omega)
            (first | cases eo41 | (injection eo41 with ea_ en_ ec_; (first | subst ea_ | (injection ea_ with ea_; subst ea_)); subst ec_; clear en_))
            have GB41 := Aside0.mk gb41
            have GG41 := Aside0.mk HG41
            clear gb41 gl41 HG41
            (first | simp only [add_plain] at hx27_0 | skip)
            (first | simp only [add_plain] at hx27_1 | skip)
            (first | simp only [add_plain] at hx27_2 | skip)
            (first | simp only [add_plain] at hx27_3 | skip)
            (first | simp only [add_plain] at hx27_4 | skip)
            (first | simp only [add_plain] at hx27_5 | skip)
            (first | simp only [add_plain] at hx27_6 | skip)
            (first | simp only [add_plain] at hx27_7 | skip)
            (first | simp only [add_plain] at hx27_8 | skip)
            (first | simp only [add_plain] at hx27_9 | skip)
            (first | simp only [add_plain] at hx27_10 | skip)
            (first | simp only [add_plain] at hx27_11 | skip)
            obtain ⟨ce41, hcl41, hM41, hcc41, hfr41⟩ := Kd.R_elem HO_8.out z31 (t26 : Int) p41 q41
            obtain rfl := k31_openM hM41
            have hx41_0 : World.cell? _ ⟨go41, (t26 : Int).toNat * 12, none⟩ = some (.string ((rd_T31 x8_1 t26).f0)) := hcc41 0 _ rfl
            have hx41_1 : World.cell? _ ⟨go41, (t26 : Int).toNat * 12 + 1, none⟩ = some (.string ((rd_T31 x8_1 t26).f1)) := hcc41 1 _ rfl
            have hx41_2 : World.cell? _ ⟨go41, (t26 : Int).toNat * 12 + 2, none⟩ = some (.int .i64 ((rd_T31 x8_1 t26).f2.f0)) := hcc41 2 _ rfl
            have hx41_3 : World.cell? _ ⟨go41, (t26 : Int).toNat * 12 + 3, none⟩ = some (.int .i64 ((rd_T31 x8_1 t26).f2.f1)) := hcc41 3 _ rfl
            have hx41_4 : World.cell? _ ⟨go41, (t26 : Int).toNat * 12 + 4, none⟩ = some (.int .i64 ((rd_T31 x8_1 t26).f2.f2)) := hcc41 4 _ rfl
            have hx41_5 : World.cell? _ ⟨go41, (t26 : Int).toNat * 12 + 5, none⟩ = some (.int .i64 ((rd_T31 x8_1 t26).f3.f0)) := hcc41 5 _ rfl
            have hx41_6 : World.cell? _ ⟨go41, (t26 : Int).toNat * 12 + 6, none⟩ = some (.int .i64 ((rd_T31 x8_1 t26).f3.f1)) := hcc41 6 _ rfl
            have hx41_7 : World.cell? _ ⟨go41, (t26 : Int).toNat * 12 + 7, none⟩ = some (.int .i64 ((rd_T31 x8_1 t26).f3.f2)) := hcc41 7 _ rfl
            have hx41_8 : World.cell? _ ⟨go41, (t26 : Int).toNat * 12 + 8, none⟩ = some (.int .i64 ((rd_T31 x8_1 t26).f4.f0)) := hcc41 8 _ rfl
            have hx41_9 : World.cell? _ ⟨go41, (t26 : Int).toNat * 12 + 9, none⟩ = some (.int .i64 ((rd_T31 x8_1 t26).f4.f1)) := hcc41 9 _ rfl
            have hx41_10 : World.cell? _ ⟨go41, (t26 : Int).toNat * 12 + 10, none⟩ = some (.int .i64 ((rd_T31 x8_1 t26).f4.f2)) := hcc41 10 _ rfl
            have hx41_11 : World.cell? _ ⟨go41, (t26 : Int).toNat * 12 + 11, none⟩ = some (.int .i64 ((rd_T31 x8_1 t26).f5)) := hcc41 11 _ rfl
            have hf41_0 : World.frozen? _ ⟨go41, (t26 : Int).toNat * 12, none⟩ = false := hfr41 0
            have hf41_1 : World.frozen? _ ⟨go41, (t26 : Int).toNat * 12 + 1, none⟩ = false := hfr41 1
            have hf41_2 : World.frozen? _ ⟨go41, (t26 : Int).toNat * 12 + 2, none⟩ = false := hfr41 2
            have hf41_3 : World.frozen? _ ⟨go41, (t26 : Int).toNat * 12 + 3, none⟩ = false := hfr41 3
            have hf41_4 : World.frozen? _ ⟨go41, (t26 : Int).toNat * 12 + 4, none⟩ = false := hfr41 4
            have hf41_5 : World.frozen? _ ⟨go41, (t26 : Int).toNat * 12 + 5, none⟩ = false := hfr41 5
            have hf41_6 : World.frozen? _ ⟨go41, (t26 : Int).toNat * 12 + 6, none⟩ = false := hfr41 6
            have hf41_7 : World.frozen? _ ⟨go41, (t26 : Int).toNat * 12 + 7, none⟩ = false := hfr41 7
            have hf41_8 : World.frozen? _ ⟨go41, (t26 : Int).toNat * 12 + 8, none⟩ = false := hfr41 8
            have hf41_9 : World.frozen? _ ⟨go41, (t26 : Int).toNat * 12 + 9, none⟩ = false := hfr41 9
            have hf41_10 : World.frozen? _ ⟨go41, (t26 : Int).toNat * 12 + 10, none⟩ = false := hfr41 10
            have hf41_11 : World.frozen? _ ⟨go41, (t26 : Int).toNat * 12 + 11, none⟩ = false := hfr41 11
            clear hcl41 hcc41 hfr41 hM41
            replace p41 := eq_true p41
            replace q41 := eq_true q41
            obtain ⟨ce45, hcl45, hM45, hcc45, hfr45⟩ := Kd.R_elem HO_8.out z31 (t26 : Int) (of_decide_eq_true (by first|(with_reducible assumption)|assumption)) (by have h_ : (t26 : Int) < ((x8_1.length : Int) : Int) := of_decide_eq_true (by first|(with_reducible assumption)|assumption);first|exact h_|(have e_ := (Kd.R_reads' HO_8.out).1;omega)|simpa using h_)
            obtain rfl := k31_openM hM45
            have HP45 := (Kd.R_seg HO_8.out (t26 : Int) (of_decide_eq_true (by first|(with_reducible assumption)|assumption)) (by have h_ : (t26 : Int) < ((x8_1.length : Int) : Int) := of_decide_eq_true (by first|(with_reducible assumption)|assumption);first|exact h_|(have e_ := (Kd.R_reads' HO_8.out).1;omega)|simpa using h_) (seg := [.int .i64 t28, .int .i64 t29, .int .i64 t30]) (j := 8) hcl45 hcc45 (show 11 ≤ 12 from by decide) (x' := (⟨(rd_T31 x8_1 t26).f0, (rd_T31 x8_1 t26).f1, (⟨(rd_T31 x8_1 t26).f2.f0, (rd_T31 x8_1 t26).f2.f1, (rd_T31 x8_1 t26).f2.f2⟩ : S27), (⟨(rd_T31 x8_1 t26).f3.f0, (rd_T31 x8_1 t26).f3.f1, (rd_T31 x8_1 t26).f3.f2⟩ : S27), (⟨t28, t29, t30⟩ : S27), (rd_T31 x8_1 t26).f5⟩ : S31)) (k31_mkM _ _ _ (⟨(rd_T31 x8_1 t26).f0, (rd_T31 x8_1 t26).f1, (⟨(rd_T31 x8_1 t26).f2.f0, (rd_T31 x8_1 t26).f2.f1, (rd_T31 x8_1 t26).f2.f2⟩ : S27), (⟨(rd_T31 x8_1 t26).f3.f0, (rd_T31 x8_1 t26).f3.f1, (rd_T31 x8_1 t26).f3.f2⟩ : S27), (⟨t28, t29, t30⟩ : S27), (rd_T31 x8_1 t26).f5⟩ : S31) ) (fun _ hk => hk)).1
            rw [← Ny31.out] at HP45
            have HQ45 := Aside0.mk HP45
            clear hcl45 hcc45 hfr45 hM45 HP45
            refine hK.out _ _ ⟨(blk_cell BK1.out 0).trans rfl, (blk_cell BK1.out 1).trans rfl, (blk_cell BK1.out 2).trans rfl, HS3_, HS4_, HS5_, HS6_, HS7_, HS8_, HS9_, HS10_, HS11_, HS12_, HS13_, HS14_⟩ (fun hHeld => ?_)
            clear hK K
            refine norm_ (a' := ?_) ?_ ?_
            rotate_left
            ·show Act.put _ (some 59) _ = _
             simp only [Act.put, List.setIfInBounds_toArray, List.set_cons_zero, List.set_cons_succ, i64_w, i32_w]
             rfl
            refine pure_ (i := 9) (N := some 60) (v := ?_) (a' := ?_) #[true, true, true, true, true, true, true, true, true, true, false, false] rfl rfl (any_of HT_.out (by kernel_rfl)) (fun _ _ _ h => h) (Or.inl ⟨by rfl, ?_⟩) ?_ ?_
            rotate_left
            ·intro w'
             go_simp
             with_reducible rfl
            rotate_left
            ·simp only [Act.put, List.setIfInBounds_toArray, List.set_cons_zero, List.set_cons_succ, i64_w, i32_w]
             rfl
            refine pure_ (i := 10) (N := some 61) (v := ?_) (a' := ?_) #[true, true, true, true, true, true, true, true, true, true, true, false] rfl rfl (any_of HT_.out (by kernel_rfl)) (fun _ _ _ h => h) (Or.inl ⟨by rfl, ?_⟩) ?_ ?_
            rotate_left
            ·intro w'
             go_simp
             with_reducible rfl
            rotate_left
            ·simp only [Act.put, List.setIfInBounds_toArray, List.set_cons_zero, List.set_cons_succ, i64_w, i32_w]
             rfl
            refine last_ (i := 11) (N := none) #[true, true, true, true, true, true, true, true, true, true, true, true] rfl rfl (one_of HT_.out (by kernel_rfl)) (by decide) (fun K hK => ?_)
            refine skip_ (w1 := ?_) (by rfl) rfl ?_ ?_
            rotate_left
            ·go_simp
             rfl
            refine hK.out _ _ ?_
            clear hK K
            refine done_ (done_of HT_.out (by kernel_rfl)) ?_
            try go_wp2
            go_roundg k1
            case measure => have := HK1.out; omega
            case rel => exact ⟨(y31), (wrap64 (x9_1 + 1)), (by first|rfl|(simp;done)|(simp [*];done)), H', ⟨by have := HK1.out;omega⟩, ⟨by (with_reducible repeat (first|apply Kd.R_alloc|apply Kd.R_drewN|apply Kd.R_drew));exact Kd.R_mono (Kd.R_far (p := ⟨go41, (t26 : Int).toNat * 12 + 10, none⟩) (Kd.R_far (p := ⟨go41, (t26 : Int).toNat * 12 + 9, none⟩) (Kd.R_far (p := ⟨go41, (t26 : Int).toNat * 12 + 8, none⟩) (Kd.R_types HO_7.out GG41.out (by decide)) (fun _ hk => hk.2) (.int .i64 t28)) (fun _ hk => hk.2) (.int .i64 t29)) (fun _ hk => hk.2) (.int .i64 t30)) (fun _ hk => trivial)⟩, ⟨by (with_reducible repeat (first|apply Kd.R_alloc|apply Kd.R_drewN|apply Kd.R_drew));exact HQ45.out⟩, ⟨by (with_reducible repeat (first|refine blk_drewN ?_ _|refine blk_drew ?_|refine blk_alloc ?_ _));refine blk_far ?_ (by have h_ := Kd.R_ne HO_8.out BK1.out (by decide);intro e_;exact h_ (by rw [e_];rfl)) _;(with_reducible repeat (first|refine blk_drewN ?_ _|refine blk_drew ?_|refine blk_alloc ?_ _));refine blk_far ?_ (by have h_ := Kd.R_ne HO_8.out BK1.out (by decide);intro e_;exact h_ (by rw [e_];rfl)) _;(with_reducible repeat (first|refine blk_drewN ?_ _|refine blk_drew ?_|refine blk_alloc ?_ _));refine blk_far ?_ (by have h_ := Kd.R_ne HO_8.out BK1.out (by decide);intro e_;exact h_ (by rw [e_];rfl)) _;(with_reducible repeat (first|refine blk_drewN ?_ _|refine blk_drew ?_|refine blk_alloc ?_ _));exact BK1.out⟩, ⟨by (with_reducible repeat (first|refine blk_drewN ?_ _|refine blk_drew ?_|refine blk_alloc ?_ _));refine blk_far ?_ (by have h_ := Kd.R_ne HO_8.out BK2.out (by decide);intro e_;exact h_ (by rw [e_];rfl)) _;(with_reducible repeat (first|refine blk_drewN ?_ _|refine blk_drew ?_|refine blk_alloc ?_ _));refine blk_far ?_ (by have h_ := Kd.R_ne HO_8.out BK2.out (by decide);intro e_;exact h_ (by rw [e_];rfl)) _;(with_reducible repeat (first|refine blk_drewN ?_ _|refine blk_drew ?_|refine blk_alloc ?_ _));refine blk_far ?_ (by have h_ := Kd.R_ne HO_8.out BK2.out (by decide);intro e_;exact h_ (by rw [e_];rfl)) _;(with_reducible repeat (first|refine blk_drewN ?_ _|refine blk_drew ?_|refine blk_alloc ?_ _));exact BK2.out⟩, ⟨by repeat (first|(with_reducible first|exact HB.out|apply below_alloc|apply pw_below_drewN|apply below_drew1|refine below_set ?_ GB41.out|refine below_set ?_ GB41.out|refine below_set ?_ GB41.out|refine below_set ?_ GE1.out|refine below_set ?_ GE2.out)|exact HB.out)⟩⟩
           ·rw [if_neg c39] at H
            exact absurd H (by simp)
          ·rw [if_neg c38] at H
           exact absurd H (by simp)
         ·rw [if_neg c36] at H
          exact absurd H (by simp)
        ·rw [if_neg c35] at H
         have c35b0 : decide (x9_1 < (t3.length : Int)) = false := decide_eq_false c35
         clear c35
         replace H := Option.bind_eq_some_iff.mp H
         obtain ⟨t32, A460, H⟩ := H
         replace H : (if 0 ≤ t32 then (if t32 < (x8_1.length : Int) then ((r10_Sub.f ((rd_T31 x8_1 t32).f3.f0) ((rd_T31 x8_1 t32).f3.f1) ((rd_T31 x8_1 t32).f3.f2) a2_0 a2_1 a2_2).bind fun bt34 => (some ((x8_1.set (t32 : Int).toNat (⟨(rd_T31 x8_1 t32).f0, (rd_T31 x8_1 t32).f1, (⟨(rd_T31 x8_1 t32).f2.f0, (rd_T31 x8_1 t32).f2.f1, (rd_T31 x8_1 t32).f2.f2⟩ : S27), (⟨bt34.1, bt34.2.1, bt34.2.2⟩ : S27), (⟨(rd_T31 x8_1 t32).f4.f0, (rd_T31 x8_1 t32).f4.f1, (rd_T31 x8_1 t32).f4.f2⟩ : S27), (rd_T31 x8_1 t32).f5⟩ : S31)), 0))) else (none)) else (none)) = some (r1, r2) := H
         have A46 := Aside0.mk A460
         clear A460
         by_cases c47 : 0 ≤ t32
         ·rw [if_pos c47] at H
          have c47b0 : decide (0 ≤ t32) = true := decide_eq_true c47
          clear c47
          by_cases c48 : t32 < (x8_1.length : Int)
          ·rw [if_pos c48] at H
           have c48b0 : decide (t32 < (x8_1.length : Int)) = true := decide_eq_true c48
           clear c48
           replace H := Option.bind_eq_some_iff.mp H
           obtain ⟨⟨t34, t35, t36⟩, A490, H⟩ := H
           replace H : (some ((x8_1.set (t32 : Int).toNat (⟨(rd_T31 x8_1 t32).f0, (rd_T31 x8_1 t32).f1, (⟨(rd_T31 x8_1 t32).f2.f0, (rd_T31 x8_1 t32).f2.f1, (rd_T31 x8_1 t32).f2.f2⟩ : S27), (⟨t34, t35, t36⟩ : S27), (⟨(rd_T31 x8_1 t32).f4.f0, (rd_T31 x8_1 t32).f4.f1, (rd_T31 x8_1 t32).f4.f2⟩ : S27), (rd_T31 x8_1 t32).f5⟩ : S31)), 0)) = some (r1, r2) := H
           have A49 := Aside0.mk A490
           clear A490
           obtain ⟨y37, hy37⟩ : ∃ y_ : List (S31), y_ = (x8_1.set (t32 : Int).toNat (⟨(rd_T31 x8_1 t32).f0, (rd_T31 x8_1 t32).f1, (⟨(rd_T31 x8_1 t32).f2.f0, (rd_T31 x8_1 t32).f2.f1, (rd_T31 x8_1 t32).f2.f2⟩ : S27), (⟨t34, t35, t36⟩ : S27), (⟨(rd_T31 x8_1 t32).f4.f0, (rd_T31 x8_1 t32).f4.f1, (rd_T31 x8_1 t32).f4.f2⟩ : S27), (rd_T31 x8_1 t32).f5⟩ : S31)) := ⟨_, rfl⟩
           replace H : (some (y37, 0)) = some (r1, r2) := by first|(rw [hy37];with_reducible exact H)|(have H2_ := (Option.bind_some _ _).symm.trans H;rw [hy37];with_reducible exact H2_)|(have H2_ := (Option.bind_some _ _).symm.trans H;with_reducible exact H2_)|with_reducible exact H|(rw [hy37];exact H)|exact H
           have Ny37 := Aside0.mk hy37
           clear hy37
           simp only [Option.some.injEq, Prod.mk.injEq] at H
           obtain ⟨rfl, rfl⟩ := H
           obtain ⟨Ao51, co51, eo51⟩ := Kd.R_slice HO_8.out
           subst eo51
           try go_wp2_with (first|((with_reducible refine gate_callee (f := 50) rfl ?_);refine goesL_ (some 64) rfl rfl Try.func50 (by kernel_rfl) rfl #[.slice Ao51 x8_1.length co51, .string a1] rfl (by (try simp only [List.map_toArray, List.map_cons, List.map_nil]);first|done|rfl|(simp only [List.length_drop, List.length_take];rfl)) ?_;(with_reducible refine (r10_Find.calls k1 _ _ x8_1 a1 t32 _ ?side1 ?side2 A46.out).mono ?_);(case side1 => repeat (first|exact (Kd.R_reads' HO_8.out).2.2|(with_reducible refine Kd.C_alloc ?_ _)|(with_reducible refine Kd.C_drewN ?_ _)|(with_reducible refine Kd.C_drew ?_)));(case side2 => exact (Kd.R_reads' HO_8.out).2.1);rintro e w' ⟨rfl, ⟨nd, rfl⟩⟩;refine ⟨_, rfl, ?_⟩;(try (rw [drewN_self wr];generalize hq_ : World.drewN wr _ = wr;have n0_ : Aside0 (Kd.R Kd.string 9 wr w.heap.size (fun _ => True) (.slice Ao31 t3.length co31) t3) := ⟨by rw [← hq_];exact (by (with_reducible repeat (first|apply Kd.R_alloc|apply Kd.R_drewN|apply Kd.R_drew));exact HO_7.out)⟩;have n1_ : Aside0 (Kd.R k31 31 wr w.heap.size (fun _ => True) (.slice Ao51 x8_1.length co51) x8_1) := ⟨by rw [← hq_];exact (by (with_reducible repeat (first|apply Kd.R_alloc|apply Kd.R_drewN|apply Kd.R_drew));exact HO_8.out)⟩;have n2_ : Aside0 (wr.heap[gb1]? = some (.cells #[.int .i64 a2_0, .int .i64 a2_1, .int .i64 a2_2] 27 (0, 0))) := ⟨by rw [← hq_];exact (by (with_reducible repeat (first|refine blk_drewN ?_ _|refine blk_drew ?_|refine blk_alloc ?_ _));exact BK1.out)⟩;have n3_ : Aside0 (wr.heap[gb2]? = some (.cells #[.slice none 0 0, .int .i64 0] 67 (0, 0))) := ⟨by rw [← hq_];exact (by (with_reducible repeat (first|refine blk_drewN ?_ _|refine blk_drew ?_|refine blk_alloc ?_ _));exact BK2.out)⟩;have n4_ : Aside0 (Below w.heap.size w wr) := ⟨by rw [← hq_];exact (by repeat (first|(with_reducible first|exact HB.out|apply below_alloc|apply pw_below_drewN|apply below_drew1|refine below_set ?_ GE1.out|refine below_set ?_ GE2.out)|exact HB.out))⟩;clear HO_7 HO_8 BK1 BK2 HB hq_;have HO_7 := n0_;have HO_8 := n1_;have BK1 := n2_;have BK2 := n3_;have HB := n4_;clear n0_ n1_ n2_ n3_ n4_))))
           have n0_ := Aside0.mk (Kd.R_drew HO_7.out)
           have n1_ := Aside0.mk (Kd.R_drew HO_8.out)
           have n2_ := Aside0.mk (blk_drew BK1.out)
           have n3_ := Aside0.mk (blk_drew BK2.out)
           have n4_ := Aside0.mk (below_drew1 HB.out)
           clear HO_7
           clear HO_8
           clear BK1
           clear BK2
           clear HB
           have HO_7 := n0_
           have HO_8 := n1_
           have BK1 := n2_
           have BK2 := n3_
           have HB := n4_
           clear n0_ n1_ n2_ n3_ n4_
           have p33 : 0 ≤ (t32 : Int) := of_decide_eq_true (by first|(with_reducible assumption)|assumption)
           have q33 : t32 < (x8_1.length : Int) := of_decide_eq_true (by first|(with_reducible assumption)|assumption)
           obtain ⟨ad33, e33, hx33_0, hx33_1, hx33_2, hx33_3, hx33_4, hx33_5, hx33_6, hx33_7, hx33_8, hx33_9, hx33_10, hx33_11⟩ := at_T31 (Kd.R_reads' HO_8.out).2.2 t32 p33 q33
           cases e33
           replace p33 := eq_true p33
           replace q33 := eq_true q33
           refine start_ (n := 12) (S := fun w' => w'.cell? ⟨gb1, 0, none⟩ = some (.int .i64 a2_0) ∧ w'.cell? ⟨gb1, 1, none⟩ = some (.int .i64 a2_1) ∧ w'.cell? ⟨gb1, 2, none⟩ = some (.int .i64 a2_2) ∧ w'.cell? (ad33.add ((t32).toNat * 12)) = some (.string ((rd_T31 x8_1 t32).f0)) ∧ w'.cell? ⟨(ad33.add ((t32).toNat * 12)).block, (ad33.add ((t32).toNat * 12)).off + 1, none⟩ = some (.string ((rd_T31 x8_1 t32).f1)) ∧ w'.cell? ⟨(ad33.add ((t32).toNat * 12)).block, (ad33.add ((t32).toNat * 12)).off + 2, none⟩ = some (.int .i64 ((rd_T31 x8_1 t32).f2.f0)) ∧ w'.cell? ⟨(ad33.add ((t32).toNat * 12)).block, (ad33.add ((t32).toNat * 12)).off + 3, none⟩ = some (.int .i64 ((rd_T31 x8_1 t32).f2.f1)) ∧ w'.cell? ⟨(ad33.add ((t32).toNat * 12)).block, (ad33.add ((t32).toNat * 12)).off + 4, none⟩ = some (.int .i64 ((rd_T31 x8_1 t32).f2.f2)) ∧ w'.cell? ⟨(ad33.add ((t32).toNat * 12)).block, (ad33.add ((t32).toNat * 12)).off + 5, none⟩ = some (.int .i64 ((rd_T31 x8_1 t32).f3.f0)) ∧ w'.cell? ⟨(ad33.add ((t32).toNat * 12)).block, (ad33.add ((t32).toNat * 12)).off + 6, none⟩ = some (.int .i64 ((rd_T31 x8_1 t32).f3.f1)) ∧ w'.cell? ⟨(ad33.add ((t32).toNat * 12)).block, (ad33.add ((t32).toNat * 12)).off + 7, none⟩ = some (.int .i64 ((rd_T31 x8_1 t32).f3.f2)) ∧ w'.cell? ⟨(ad33.add ((t32).toNat * 12)).block, (ad33.add ((t32).toNat * 12)).off + 8, none⟩ = some (.int .i64 ((rd_T31 x8_1 t32).f4.f0)) ∧ w'.cell? ⟨(ad33.add ((t32).toNat * 12)).block, (ad33.add ((t32).toNat * 12)).off + 9, none⟩ = some (.int .i64 ((rd_T31 x8_1 t32).f4.f1)) ∧ w'.cell? ⟨(ad33.add ((t32).toNat * 12)).block, (ad33.add ((t32).toNat * 12)).off + 10, none⟩ = some (.int .i64 ((rd_T31 x8_1 t32).f4.f2)) ∧ w'.cell? ⟨(ad33.add ((t32).toNat * 12)).block, (ad33.add ((t32).toNat * 12)).off + 11, none⟩ = some (.int .i64 ((rd_T31 x8_1 t32).f5))) (ds := [11]) #[false, false, false, false, false, false, false, false, false, false, false, false] (by kernel_rfl) rfl rfl ⟨(blk_cell BK1.out 0).trans rfl, (blk_cell BK1.out 1).trans rfl, (blk_cell BK1.out 2).trans rfl, hx33_0, hx33_1, hx33_2, hx33_3, hx33_4, hx33_5, hx33_6, hx33_7, hx33_8, hx33_9, hx33_10, hx33_11⟩ (fun hHeld => ?_); refine with_tabW r10_Release.tab15 r10_Release.bits15 (fun HT_ HW_ => ?_)
           generalize wr.drew = w52 at HO_7 HO_8 BK1 BK2 HB hx33_0 hx33_1 hx33_10 hx33_11 hx33_2 hx33_3 hx33_4 hx33_5 hx33_6 hx33_7 hx33_8 hx33_9 hHeld ⊢
           refine pure_ (i := 0) (N := some 65) (v := ?_) (a' := ?_) #[true, false, false, false, false, false, false, false, false, false, false, false] rfl rfl (any_of HT_.out (by kernel_rfl)) (fun _ _ _ h => h) (Or.inl ⟨by rfl, ?_⟩) ?_ ?_
           rotate_left
           ·intro w'
            go_simp
            with_reducible rfl
           rotate_left
           ·simp only [Act.put, List.setIfInBounds_toArray, List.set_cons_zero, List.set_cons_succ, i64_w, i32_w]
            rfl
           refine pure_ (i := 1) (N := some 66) (v := ?_) (a' := ?_) #[true, true, false, false, false, false, false, false, false, false, false, false] rfl rfl (any_of HT_.out (by kernel_rfl)) (fun _ _ _ h => h) (Or.inl ⟨by rfl, ?_⟩) ?_ ?_
           rotate_left
           ·intro w'
            go_simp
            with_reducible rfl
           rotate_left
           ·simp only [Act.put, List.setIfInBounds_toArray, List.set_cons_zero, List.set_cons_succ, i64_w, i32_w]
            rfl
           refine pure_ (i := 2) (N := some 67) (v := ?_) (a' := ?_) #[true, true, true, false, false, false, false, false, false, false, false, false] rfl rfl (any_of HT_.out (by kernel_rfl)) (fun _ _ _ h => h) (Or.inl ⟨by rfl, ?_⟩) ?_ ?_
           rotate_left
           ·intro w'
            go_simp
            with_reducible rfl
           rotate_left
           ·simp only [Act.put, List.setIfInBounds_toArray, List.set_cons_zero, List.set_cons_succ, i64_w, i32_w]
            rfl
           refine pure_ (i := 3) (N := some 68) (v := ?_) (a' := ?_) #[true, true, true, true, false, false, false, false, false, false, false, false] rfl rfl (any_of HT_.out (by kernel_rfl)) (fun _ _ _ h => h) (Or.inl ⟨by rfl, ?_⟩) ?_ ?_
           rotate_left
           ·intro w'
            go_simp
            with_reducible rfl
           rotate_left
           ·simp only [Act.put, List.setIfInBounds_toArray, List.set_cons_zero, List.set_cons_succ, i64_w, i32_w]
            rfl
           refine pure_ (i := 4) (N := some 69) (v := ?_) (a' := ?_) #[true, true, true, true, true, false, false, false, false, false, false, false] rfl rfl (any_of HT_.out (by kernel_rfl)) (fun _ _ _ h => h) (Or.inl ⟨by rfl, ?_⟩) ?_ ?_
           rotate_left
           ·intro w'
            go_simp
            with_reducible rfl
           rotate_left
           ·simp only [Act.put, List.setIfInBounds_toArray, List.set_cons_zero, List.set_cons_succ, i64_w, i32_w]
            rfl
           refine pure_ (i := 5) (N := some 70) (v := ?_) (a' := ?_) #[true, true, true, true, true, true, false, false, false, false, false, false] rfl rfl (any_of HT_.out (by kernel_rfl)) (fun _ _ _ h => h) (Or.inl ⟨by rfl, ?_⟩) ?_ ?_
           rotate_left
           ·intro w'
            go_simp
            with_reducible rfl
           rotate_left
           ·simp only [Act.put, List.setIfInBounds_toArray, List.set_cons_zero, List.set_cons_succ, i64_w, i32_w]
            rfl
           refine take_ (i := 6) (N := some 71) (v := ?_) (a' := ?_) #[true, true, true, true, true, true, true, false, false, false, false, false] rfl rfl (take_ofW HT_.out HW_.out (by kernel_rfl)) (fun _ _ _ h => h) (Or.inl ⟨by rfl, ?_⟩) hHeld ?_ ?_
           rotate_left
           ·rintro w' ⟨s0, s1, s2, s3, s4, s5, s6, s7, s8, s9, s10, s11, s12, s13, s14⟩
            go_simp
            with_reducible rfl
           rotate_left
           ·simp only [Act.put, List.setIfInBounds_toArray, List.set_cons_zero, List.set_cons_succ, i64_w, i32_w]
            rfl
           refine take_ (i := 7) (N := some 72) (v := ?_) (a' := ?_) #[true, true, true, true, true, true, true, true, false, false, false, false] rfl rfl (take_ofW HT_.out HW_.out (by kernel_rfl)) (fun _ _ _ h => h) (Or.inl ⟨by rfl, ?_⟩) hHeld ?_ ?_
           rotate_left
           ·rintro w' ⟨s0, s1, s2, s3, s4, s5, s6, s7, s8, s9, s10, s11, s12, s13, s14⟩
            go_simp
            with_reducible rfl
           rotate_left
           ·simp only [Act.put, List.setIfInBounds_toArray, List.set_cons_zero, List.set_cons_succ, i64_w, i32_w]
            rfl
           refine one_ (i := 8) (N := some 73) #[true, true, true, true, true, true, true, true, true, false, false, false] rfl rfl (one_of HT_.out (by kernel_rfl)) (by decide) (fun K hK => ?_)
           refine goes_ Try.func35 (by kernel_rfl) rfl #[.agg #[.int .i64 ((rd_T31 x8_1 t32).f3.f0), .int .i64 ((rd_T31 x8_1 t32).f3.f1), .int .i64 ((rd_T31 x8_1 t32).f3.f2)], .agg #[.int .i64 a2_0, .int .i64 a2_1, .int .i64 a2_2]] (by rfl) rfl rfl (by (try simp only [List.map_toArray, List.map_cons, List.map_nil]); first | done | rfl | (simp only [List.length_drop, List.length_take]; rfl)) ?_
           with_reducible refine (r10_Sub.calls ((rd_T31 x8_1 t32).f3.f0) ((rd_T31 x8_1 t32).f3.f1) ((rd_T31 x8_1 t32).f3.f2) a2_0 a2_1 a2_2 t34 t35 t36 _ A49.out).mono ?_
           rintro e w53 ⟨rfl, hb⟩
           have HS3_ := (hb.cell (World.block_lt_of_cell? _ _ (hHeld.2.2.2.1))).trans (hHeld.2.2.2.1)
           have HS4_ := (hb.cell (World.block_lt_of_cell? _ _ (hHeld.2.2.2.2.1))).trans (hHeld.2.2.2.2.1)
           have HS5_ := (hb.cell (World.block_lt_of_cell? _ _ (hHeld.2.2.2.2.2.1))).trans (hHeld.2.2.2.2.2.1)
           have HS6_ := (hb.cell (World.block_lt_of_cell? _ _ (hHeld.2.2.2.2.2.2.1))).trans (hHeld.2.2.2.2.2.2.1)
           have HS7_ := (hb.cell (World.block_lt_of_cell? _ _ (hHeld.2.2.2.2.2.2.2.1))).trans (hHeld.2.2.2.2.2.2.2.1)
           have HS8_ := (hb.cell (World.block_lt_of_cell? _ _ (hHeld.2.2.2.2.2.2.2.2.1))).trans (hHeld.2.2.2.2.2.2.2.2.1)
           have HS9_ := (hb.cell (World.block_lt_of_cell? _ _ (hHeld.2.2.2.2.2.2.2.2.2.1))).trans (hHeld.2.2.2.2.2.2.2.2.2.1)
           have HS10_ := (hb.cell (World.block_lt_of_cell? _ _ (hHeld.2.2.2.2.2.2.2.2.2.2.1))).trans (hHeld.2.2.2.2.2.2.2.2.2.2.1)
           have HS11_ := (hb.cell (World.block_lt_of_cell? _ _ (hHeld.2.2.2.2.2.2.2.2.2.2.2.1))).trans (hHeld.2.2.2.2.2.2.2.2.2.2.2.1)
           have HS12_ := (hb.cell (World.block_lt_of_cell? _ _ (hHeld.2.2.2.2.2.2.2.2.2.2.2.2.1))).trans (hHeld.2.2.2.2.2.2.2.2.2.2.2.2.1)
           have HS13_ := (hb.cell (World.block_lt_of_cell? _ _ (hHeld.2.2.2.2.2.2.2.2.2.2.2.2.2.1))).trans (hHeld.2.2.2.2.2.2.2.2.2.2.2.2.2.1)
           have HS14_ := (hb.cell (World.block_lt_of_cell? _ _ (hHeld.2.2.2.2.2.2.2.2.2.2.2.2.2.2))).trans (hHeld.2.2.2.2.2.2.2.2.2.2.2.2.2.2)
           refine ⟨_, rfl, ?_⟩
           have n0_ := Aside0.mk (Kd.R_below (by (with_reducible repeat (first|apply Kd.R_alloc|apply Kd.R_drewN|apply Kd.R_drew));exact HO_7.out) hb)
           have n1_ := Aside0.mk (Kd.R_below (by (with_reducible repeat (first|apply Kd.R_alloc|apply Kd.R_drewN|apply Kd.R_drew));exact HO_8.out) hb)
           have n2_ := Aside0.mk (blk_below (g := gb1) (o := .cells #[.int .i64 a2_0, .int .i64 a2_1, .int .i64 a2_2] 27 (0, 0)) (by (with_reducible repeat (first|refine blk_drewN ?_ _|refine blk_drew ?_|refine blk_alloc ?_ _));exact BK1.out) hb)
           have n3_ := Aside0.mk (blk_below (g := gb2) (o := .cells #[.slice none 0 0, .int .i64 0] 67 (0, 0)) (by (with_reducible repeat (first|refine blk_drewN ?_ _|refine blk_drew ?_|refine blk_alloc ?_ _));exact BK2.out) hb)
           have n4_ := Aside0.mk (below_step (by repeat (first|(with_reducible first|exact HB.out|apply below_alloc|apply pw_below_drewN|apply below_drew1|refine below_set ?_ GE1.out|refine below_set ?_ GE2.out)|exact HB.out)) hb)
           clear HO_7
           clear HO_8
           clear BK1
           clear BK2
           clear HB
           have HO_7 := n0_
           have HO_8 := n1_
           have BK1 := n2_
           have BK2 := n3_
           have HB := n4_
           clear n0_ n1_ n2_ n3_ n4_
           (try clear hb)
           (try clear hb2)
           (try clear hk)
           (try clear hi)
           have p50 : 0 ≤ (t32 : Int) := of_decide_eq_true (by first|(with_reducible assumption)|assumption)
           have q50 : (t32 : Int) < ((x8_1.length : Int) : Int) := of_decide_eq_true (by first|(with_reducible assumption)|assumption)
           obtain ⟨go50, co50, eo50, gb50, gl50, cl50, HG50⟩ := Kd.R_form HO_8.out (by omega)
           (first | cases eo50 | (injection eo50 with ea_ en_ ec_; (first | subst ea_ | (injection ea_ with ea_; subst ea_)); subst ec_; clear en_))
           have GB50 := Aside0.mk gb50
           have GG50 := Aside0.mk HG50
           clear gb50 gl50 HG50
           (first | simp only [add_plain] at hx33_0 | skip)
           (first | simp only [add_plain] at hx33_1 | skip)
           (first | simp only [add_plain] at hx33_2 | skip)
           (first | simp only [add_plain] at hx33_3 | skip)
           (first | simp only [add_plain] at hx33_4 | skip)
           (first | simp only [add_plain] at hx33_5 | skip)
           (first | simp only [add_plain] at hx33_6 | skip)
           (first | simp only [add_plain] at hx33_7 | skip)
           (first | simp only [add_plain] at hx33_8 | skip)
           (first | simp only [add_plain] at hx33_9 | skip)
           (first | simp only [add_plain] at hx33_10 | skip)
           (first | simp only [add_plain] at hx33_11 | skip)
           obtain ⟨ce50, hcl50, hM50, hcc50, hfr50⟩ := Kd.R_elem HO_8.out z31 (t32 : Int) p50 q50
           obtain rfl := k31_openM hM50
           have hx50_0 : World.cell? _ ⟨go50, (t32 : Int).toNat * 12, none⟩ = some (.string ((rd_T31 x8_1 t32).f0)) := hcc50 0 _ rfl
           have hx50_1 : World.cell? _ ⟨go50, (t32 : Int).toNat * 12 + 1, none⟩ = some (.string ((rd_T31 x8_1 t32).f1)) := hcc50 1 _ rfl
           have hx50_2 : World.cell? _ ⟨go50, (t32 : Int).toNat * 12 + 2, none⟩ = some (.int .i64 ((rd_T31 x8_1 t32).f2.f0)) := hcc50 2 _ rfl
           have hx50_3 : World.cell? _ ⟨go50, (t32 : Int).toNat * 12 + 3, none⟩ = some (.int .i64 ((rd_T31 x8_1 t32).f2.f1)) := hcc50 3 _ rfl
           have hx50_4 : World.cell? _ ⟨go50, (t32 : Int).toNat * 12 + 4, none⟩ = some (.int .i64 ((rd_T31 x8_1 t32).f2.f2)) := hcc50 4 _ rfl
           have hx50_5 : World.cell? _ ⟨go50, (t32 : Int).toNat * 12 + 5, none⟩ = some (.int .i64 ((rd_T31 x8_1 t32).f3.f0)) := hcc50 5 _ rfl
           have hx50_6 : World.cell? _ ⟨go50, (t32 : Int).toNat * 12 + 6, none⟩ = some (.int .i64 ((rd_T31 x8_1 t32).f3.f1)) := hcc50 6 _ rfl
           have hx50_7 : World.cell? _ ⟨go50, (t32 : Int).toNat * 12 + 7, none⟩ = some (.int .i64 ((rd_T31 x8_1 t32).f3.f2)) := hcc50 7 _ rfl
           have hx50_8 : World.cell? _ ⟨go50, (t32 : Int).toNat * 12 + 8, none⟩ = some (.int .i64 ((rd_T31 x8_1 t32).f4.f0)) := hcc50 8 _ rfl
           have hx50_9 : World.cell? _ ⟨go50, (t32 : Int).toNat * 12 + 9, none⟩ = some (.int .i64 ((rd_T31 x8_1 t32).f4.f1)) := hcc50 9 _ rfl
           have hx50_10 : World.cell? _ ⟨go50, (t32 : Int).toNat * 12 + 10, none⟩ = some (.int .i64 ((rd_T31 x8_1 t32).f4.f2)) := hcc50 10 _ rfl
           have hx50_11 : World.cell? _ ⟨go50, (t32 : Int).toNat * 12 + 11, none⟩ = some (.int .i64 ((rd_T31 x8_1 t32).f5)) := hcc50 11 _ rfl
           have hf50_0 : World.frozen? _ ⟨go50, (t32 : Int).toNat * 12, none⟩ = false := hfr50 0
           have hf50_1 : World.frozen? _ ⟨go50, (t32 : Int).toNat * 12 + 1, none⟩ = false := hfr50 1
           have hf50_2 : World.frozen? _ ⟨go50, (t32 : Int).toNat * 12 + 2, none⟩ = false := hfr50 2
           have hf50_3 : World.frozen? _ ⟨go50, (t32 : Int).toNat * 12 + 3, none⟩ = false := hfr50 3
           have hf50_4 : World.frozen? _ ⟨go50, (t32 : Int).toNat * 12 + 4, none⟩ = false := hfr50 4
           have hf50_5 : World.frozen? _ ⟨go50, (t32 : Int).toNat * 12 + 5, none⟩ = false := hfr50 5
           have hf50_6 : World.frozen? _ ⟨go50, (t32 : Int).toNat * 12 + 6, none⟩ = false := hfr50 6
           have hf50_7 : World.frozen? _ ⟨go50, (t32 : Int).toNat * 12 + 7, none⟩ = false := hfr50 7
           have hf50_8 : World.frozen? _ ⟨go50, (t32 : Int).toNat * 12 + 8, none⟩ = false := hfr50 8
           have hf50_9 : World.frozen? _ ⟨go50, (t32 : Int).toNat * 12 + 9, none⟩ = false := hfr50 9
           have hf50_10 : World.frozen? _ ⟨go50, (t32 : Int).toNat * 12 + 10, none⟩ = false := hfr50 10
           have hf50_11 : World.frozen? _ ⟨go50, (t32 : Int).toNat * 12 + 11, none⟩ = false := hfr50 11
           clear hcl50 hcc50 hfr50 hM50
           replace p50 := eq_true p50
           replace q50 := eq_true q50
           obtain ⟨ce54, hcl54, hM54, hcc54, hfr54⟩ := Kd.R_elem HO_8.out z31 (t32 : Int) (of_decide_eq_true (by first|(with_reducible assumption)|assumption)) (by have h_ : (t32 : Int) < ((x8_1.length : Int) : Int) := of_decide_eq_true (by first|(with_reducible assumption)|assumption);first|exact h_|(have e_ := (Kd.R_reads' HO_8.out).1;omega)|simpa using h_)
           obtain rfl := k31_openM hM54
           have HP54 := (Kd.R_seg HO_8.out (t32 : Int) (of_decide_eq_true (by first|(with_reducible assumption)|assumption)) (by have h_ : (t32 : Int) < ((x8_1.length : Int) : Int) := of_decide_eq_true (by first|(with_reducible assumption)|assumption);first|exact h_|(have e_ := (Kd.R_reads' HO_8.out).1;omega)|simpa using h_) (seg := [.int .i64 t34, .int .i64 t35, .int .i64 t36]) (j := 5) hcl54 hcc54 (show 8 ≤ 12 from by decide) (x' := (⟨(rd_T31 x8_1 t32).f0, (rd_T31 x8_1 t32).f1, (⟨(rd_T31 x8_1 t32).f2.f0, (rd_T31 x8_1 t32).f2.f1, (rd_T31 x8_1 t32).f2.f2⟩ : S27), (⟨t34, t35, t36⟩ : S27), (⟨(rd_T31 x8_1 t32).f4.f0, (rd_T31 x8_1 t32).f4.f1, (rd_T31 x8_1 t32).f4.f2⟩ : S27), (rd_T31 x8_1 t32).f5⟩ : S31)) (k31_mkM _ _ _ (⟨(rd_T31 x8_1 t32).f0, (rd_T31 x8_1 t32).f1, (⟨(rd_T31 x8_1 t32).f2.f0, (rd_T31 x8_1 t32).f2.f1, (rd_T31 x8_1 t32).f2.f2⟩ : S27), (⟨t34, t35, t36⟩ : S27), (⟨(rd_T31 x8_1 t32).f4.f0, (rd_T31 x8_1 t32).f4.f1, (rd_T31 x8_1 t32).f4.f2⟩ : S27), (rd_T31 x8_1 t32).f5⟩ : S31) ) (fun _ hk => hk)).1
           rw [← Ny37.out] at HP54
           have HQ54 := Aside0.mk HP54
           clear hcl54 hcc54 hfr54 hM54 HP54
           refine hK.out _ _ ⟨(blk_cell BK1.out 0).trans rfl, (blk_cell BK1.out 1).trans rfl, (blk_cell BK1.out 2).trans rfl, HS3_, HS4_, HS5_, HS6_, HS7_, HS8_, HS9_, HS10_, HS11_, HS12_, HS13_, HS14_⟩ (fun hHeld => ?_)
           clear hK K
           refine norm_ (a' := ?_) ?_ ?_
           rotate_left
           ·show Act.put _ (some 73) _ = _
            simp only [Act.put, List.setIfInBounds_toArray, List.set_cons_zero, List.set_cons_succ, i64_w, i32_w]
            rfl
           refine pure_ (i := 9) (N := some 74) (v := ?_) (a' := ?_) #[true, true, true, true, true, true, true, true, true, true, false, false] rfl rfl (any_of HT_.out (by kernel_rfl)) (fun _ _ _ h => h) (Or.inl ⟨by rfl, ?_⟩) ?_ ?_
           rotate_left
           ·intro w'
            go_simp
            with_reducible rfl
           rotate_left
           ·simp only [Act.put, List.setIfInBounds_toArray, List.set_cons_zero, List.set_cons_succ, i64_w, i32_w]
            rfl
           refine pure_ (i := 10) (N := some 75) (v := ?_) (a' := ?_) #[true, true, true, true, true, true, true, true, true, true, true, false] rfl rfl (any_of HT_.out (by kernel_rfl)) (fun _ _ _ h => h) (Or.inl ⟨by rfl, ?_⟩) ?_ ?_
           rotate_left
           ·intro w'
            go_simp
            with_reducible rfl
           rotate_left
           ·simp only [Act.put, List.setIfInBounds_toArray, List.set_cons_zero, List.set_cons_succ, i64_w, i32_w]
            rfl
           refine last_ (i := 11) (N := none) #[true, true, true, true, true, true, true, true, true, true, true, true] rfl rfl (one_of HT_.out (by kernel_rfl)) (by decide) (fun K hK => ?_)
           refine skip_ (w1 := ?_) (by rfl) rfl ?_ ?_
           rotate_left
           ·go_simp
            rfl
           refine hK.out _ _ ?_
           clear hK K
           refine done_ (done_of HT_.out (by kernel_rfl)) ?_
           have n0_ : Aside0 (Kd.R Kd.string 9 (((w53.setCell ⟨go50, (t32 : Int).toNat * 12 + 5, none⟩ (.int .i64 t34)).setCell ⟨go50, (t32 : Int).toNat * 12 + 6, none⟩ (.int .i64 t35)).setCell ⟨go50, (t32 : Int).toNat * 12 + 7, none⟩ (.int .i64 t36)) w.heap.size (fun _ => True) (.slice Ao31 t3.length co31) t3) := ⟨by (with_reducible repeat (first|apply Kd.R_alloc|apply Kd.R_drewN|apply Kd.R_drew));exact Kd.R_mono (Kd.R_far (p := ⟨go50, (t32 : Int).toNat * 12 + 7, none⟩) (Kd.R_far (p := ⟨go50, (t32 : Int).toNat * 12 + 6, none⟩) (Kd.R_far (p := ⟨go50, (t32 : Int).toNat * 12 + 5, none⟩) (Kd.R_types HO_7.out GG50.out (by decide)) (fun _ hk => hk.2) (.int .i64 t34)) (fun _ hk => hk.2) (.int .i64 t35)) (fun _ hk => hk.2) (.int .i64 t36)) (fun _ hk => trivial)⟩
           have n1_ : Aside0 (Kd.R k31 31 (((w53.setCell ⟨go50, (t32 : Int).toNat * 12 + 5, none⟩ (.int .i64 t34)).setCell ⟨go50, (t32 : Int).toNat * 12 + 6, none⟩ (.int .i64 t35)).setCell ⟨go50, (t32 : Int).toNat * 12 + 7, none⟩ (.int .i64 t36)) w.heap.size (fun _ => True) (.slice (some ⟨go50, 0, none⟩) x8_1.length co51) y37) := ⟨by (with_reducible repeat (first|apply Kd.R_alloc|apply Kd.R_drewN|apply Kd.R_drew));exact HQ54.out⟩
           have n2_ : Aside0 ((((w53.setCell ⟨go50, (t32 : Int).toNat * 12 + 5, none⟩ (.int .i64 t34)).setCell ⟨go50, (t32 : Int).toNat * 12 + 6, none⟩ (.int .i64 t35)).setCell ⟨go50, (t32 : Int).toNat * 12 + 7, none⟩ (.int .i64 t36)).heap[gb1]? = some (.cells #[.int .i64 a2_0, .int .i64 a2_1, .int .i64 a2_2] 27 (0, 0))) := ⟨by (with_reducible repeat (first|refine blk_drewN ?_ _|refine blk_drew ?_|refine blk_alloc ?_ _));refine blk_far ?_ (by have h_ := Kd.R_ne HO_8.out BK1.out (by decide);intro e_;exact h_ (by rw [e_];rfl)) _;(with_reducible repeat (first|refine blk_drewN ?_ _|refine blk_drew ?_|refine blk_alloc ?_ _));refine blk_far ?_ (by have h_ := Kd.R_ne HO_8.out BK1.out (by decide);intro e_;exact h_ (by rw [e_];rfl)) _;(with_reducible repeat (first|refine blk_drewN ?_ _|refine blk_drew ?_|refine blk_alloc ?_ _));refine blk_far ?_ (by have h_ := Kd.R_ne HO_8.out BK1.out (by decide);intro e_;exact h_ (by rw [e_];rfl)) _;(with_reducible repeat (first|refine blk_drewN ?_ _|refine blk_drew ?_|refine blk_alloc ?_ _));exact BK1.out⟩
           have n3_ : Aside0 ((((w53.setCell ⟨go50, (t32 : Int).toNat * 12 + 5, none⟩ (.int .i64 t34)).setCell ⟨go50, (t32 : Int).toNat * 12 + 6, none⟩ (.int .i64 t35)).setCell ⟨go50, (t32 : Int).toNat * 12 + 7, none⟩ (.int .i64 t36)).heap[gb2]? = some (.cells #[.slice none 0 0, .int .i64 0] 67 (0, 0))) := ⟨by (with_reducible repeat (first|refine blk_drewN ?_ _|refine blk_drew ?_|refine blk_alloc ?_ _));refine blk_far ?_ (by have h_ := Kd.R_ne HO_8.out BK2.out (by decide);intro e_;exact h_ (by rw [e_];rfl)) _;(with_reducible repeat (first|refine blk_drewN ?_ _|refine blk_drew ?_|refine blk_alloc ?_ _));refine blk_far ?_ (by have h_ := Kd.R_ne HO_8.out BK2.out (by decide);intro e_;exact h_ (by rw [e_];rfl)) _;(with_reducible repeat (first|refine blk_drewN ?_ _|refine blk_drew ?_|refine blk_alloc ?_ _));refine blk_far ?_ (by have h_ := Kd.R_ne HO_8.out BK2.out (by decide);intro e_;exact h_ (by rw [e_];rfl)) _;(with_reducible repeat (first|refine blk_drewN ?_ _|refine blk_drew ?_|refine blk_alloc ?_ _));exact BK2.out⟩
           have n4_ : Aside0 (Below w.heap.size w (((w53.setCell ⟨go50, (t32 : Int).toNat * 12 + 5, none⟩ (.int .i64 t34)).setCell ⟨go50, (t32 : Int).toNat * 12 + 6, none⟩ (.int .i64 t35)).setCell ⟨go50, (t32 : Int).toNat * 12 + 7, none⟩ (.int .i64 t36))) := ⟨by repeat (first|(with_reducible first|exact HB.out|apply below_alloc|apply pw_below_drewN|apply below_drew1|refine below_set ?_ GB50.out|refine below_set ?_ GB50.out|refine below_set ?_ GB50.out|refine below_set ?_ GE1.out|refine below_set ?_ GE2.out)|exact HB.out)⟩
           (try clear HO_7)
           (try clear HO_8)
           (try clear BK1)
           (try clear BK2)
           (try clear HB)
           generalize (((w53.setCell ⟨go50, (t32 : Int).toNat * 12 + 5, none⟩ (.int .i64 t34)).setCell ⟨go50, (t32 : Int).toNat * 12 + 6, none⟩ (.int .i64 t35)).setCell ⟨go50, (t32 : Int).toNat * 12 + 7, none⟩ (.int .i64 t36)) = w55 at n0_ n1_ n2_ n3_ n4_ ⊢
           have HO_7 := n0_
           have HO_8 := n1_
           have BK1 := n2_
           have BK2 := n3_
           have HB := n4_
           clear n0_ n1_ n2_ n3_ n4_
           have hnb56 := NB2_1.out
           have hnc56 := NB1_2.out
           have hcz57_0 : w55.cell? ⟨gb2, 0, none⟩ = some (.slice none 0 0) := (blk_cell BK2.out 0).trans rfl
           have hcz57_1 : w55.cell? ⟨gb2, 1, none⟩ = some (.int .i64 0) := (blk_cell BK2.out 1).trans rfl
           have hfz57_0 := blk_frozen BK2.out 0
           have hfz57_1 := blk_frozen BK2.out 1
           try go_wp2
           refine bodyPost_ret (results_cell_row rfl _ _ gb2 67 #[.slice (some ⟨go50, 0, none⟩) x8_1.length co51, .int .i64 0] (0, 0) _ rfl (by (with_reducible repeat (first|refine blk_drewN ?_ _|refine blk_drew ?_|refine blk_alloc ?_ _));refine blk_put (cs := #[.slice (some ⟨go50, 0, none⟩) x8_1.length co51, .int .i64 0]) ?_ 1 _ rfl;(with_reducible repeat (first|refine blk_drewN ?_ _|refine blk_drew ?_|refine blk_alloc ?_ _));refine blk_put (cs := #[.slice none 0 0, .int .i64 0]) ?_ 0 _ rfl;(with_reducible repeat (first|refine blk_drewN ?_ _|refine blk_drew ?_|refine blk_alloc ?_ _));exact BK2.out) Try.underlying67 rfl (by kernel_rfl)) rfl ?_
           exact ⟨_, by first|rfl|(simp [errW_none, errW_some] <;> rfl)|(simp [*, errW_none, errW_some] <;> rfl), by (with_reducible repeat (first|apply Kd.R_alloc|apply Kd.R_drewN|apply Kd.R_drew));exact Kd.R_mono (Kd.R_far (p := ⟨gb2, 1, none⟩) (Kd.R_far (p := ⟨gb2, 0, none⟩) (Kd.R_types HO_8.out BK2.out (by decide)) (fun _ hk => hk.2) (.slice (some ⟨go50, 0, none⟩) x8_1.length co51)) (fun _ hk => hk.2) (.int .i64 0)) (fun _ hk => trivial), by repeat (first|(with_reducible first|exact HB.out|apply below_alloc|apply pw_below_drewN|apply below_drew1|refine below_set ?_ GE1.out|refine below_set ?_ GE2.out)|exact HB.out)⟩
          ·rw [if_neg c48] at H
           exact absurd H (by simp)
         ·rw [if_neg c47] at H
          exact absurd H (by simp)
     ·replace c23 := Bool.eq_false_iff.mpr c23
      subst c23
      have H1 : ((r10_no.f 1).bind fun bt14 => (some (bt14.1, bt14.2))) = some (r1, r2) := by rw [if_neg (show ¬ (false = true) by decide)] at H; exact H
      clear H
      have H := H1
      clear H1
      replace H := Option.bind_eq_some_iff.mp H
      obtain ⟨⟨t14, t17⟩, A580, H⟩ := H
      replace H : (some (t14, t17)) = some (r1, r2) := H
      have A58 := Aside0.mk A580
      clear A580
      simp only [Option.some.injEq, Prod.mk.injEq] at H
      obtain ⟨rfl, rfl⟩ := H
      go_enter Try.func77, Try.ntmps77
      try go_wp2_with (first|((with_reducible refine gate_dst (N := 5) rfl ?_);refine box_event ?hg (N := 5) ?hd (cs := #[.int .i64 a2_0, .int .i64 a2_1, .int .i64 a2_2]) (t := 27) ?hr ?_;(case hd => rfl);(case hg => rfl);(case hr => first|(go_simp;done)|(go_simp;rfl));intro gb1 hg w59 hbox hb;have n0_ := Aside0.mk (below_step (by repeat (first|(with_reducible first|exact HB.out|apply below_alloc|apply pw_below_drewN|apply below_drew1)|exact HB.out)) hb);have n1_ := Aside0.mk (hbox);have n2_ := Aside0.mk ((by rw [hg];exact (below_size (by repeat (first|(with_reducible first|exact HB.out|apply below_alloc|apply pw_below_drewN|apply below_drew1)|exact HB.out))) : w.heap.size ≤ gb1));have n3_ := Aside0.mk ((by rw [hg];exact (below_size (by repeat (first|(with_reducible first|exact HB.out|apply below_alloc|apply pw_below_drewN|apply below_drew1)|exact HB.out))) : w.heap.size ≤ gb1));clear HB;have HB := n0_;have BK1 := n1_;have GW1 := n2_;have GE1 := n3_;clear n0_ n1_ n2_ n3_;clear hb hbox hg)|((with_reducible refine gate_dst (N := 6) rfl ?_);refine box_event ?hg (N := 6) ?hd (cs := #[.slice none 0 0, .int .i64 0]) (t := 67) ?hr ?_;(case hd => rfl);(case hg => rfl);(case hr => first|(go_simp;done)|(go_simp;rfl));intro gb2 hg w60 hbox hb;have n0_ := Aside0.mk (blk_below (g := gb1) (o := .cells #[.int .i64 a2_0, .int .i64 a2_1, .int .i64 a2_2] 27 (0, 0)) (by (with_reducible repeat (first|refine blk_drewN ?_ _|refine blk_drew ?_|refine blk_alloc ?_ _));exact BK1.out) hb);have n1_ := Aside0.mk (below_step (by repeat (first|(with_reducible first|exact HB.out|apply below_alloc|apply pw_below_drewN|apply below_drew1|refine below_set ?_ GE1.out)|exact HB.out)) hb);have n2_ := Aside0.mk (hbox);have n3_ := Aside0.mk ((by rw [hg];exact (below_size (by repeat (first|(with_reducible first|exact HB.out|apply below_alloc|apply pw_below_drewN|apply below_drew1|refine below_set ?_ GE1.out)|exact HB.out))) : w.heap.size ≤ gb2));have n4_ := Aside0.mk ((by rw [hg];exact (below_size (by repeat (first|(with_reducible first|exact HB.out|apply below_alloc|apply pw_below_drewN|apply below_drew1|refine below_set ?_ GE1.out)|exact HB.out))) : w.heap.size ≤ gb2));have n5_ := Aside0.mk ((by rw [hg];exact Nat.ne_of_lt (blk_lt (g := gb1) (o := .cells #[.int .i64 a2_0, .int .i64 a2_1, .int .i64 a2_2] 27 (0, 0)) (by (with_reducible repeat (first|refine blk_drewN ?_ _|refine blk_drew ?_|refine blk_alloc ?_ _));exact BK1.out)) : gb1 ≠ gb2));have n6_ := Aside0.mk ((by rw [hg];exact Nat.ne_of_gt (blk_lt (g := gb1) (o := .cells #[.int .i64 a2_0, .int .i64 a2_1, .int .i64 a2_2] 27 (0, 0)) (by (with_reducible repeat (first|refine blk_drewN ?_ _|refine blk_drew ?_|refine blk_alloc ?_ _));exact BK1.out)) : gb2 ≠ gb1));clear BK1;clear HB;have BK1 := n0_;have HB := n1_;have BK2 := n2_;have GW2 := n3_;have GE2 := n4_;have NB1_2 := n5_;have NB2_1 := n6_;clear n0_ n1_ n2_ n3_ n4_ n5_ n6_;clear hb hbox hg)|((with_reducible refine gate_callee (f := 106) rfl ?_);refine goesL_ (some 14) rfl rfl Try.func106 (by kernel_rfl) rfl #[.slice A0 l0.length c0, .string a1] rfl (by (try simp only [List.map_toArray, List.map_cons, List.map_nil]);first|done|rfl|(simp only [List.length_drop, List.length_take];rfl)) ?_;(with_reducible refine (r10_Up.calls k _ _ l0 a1 t3 _ ?side1 ?side2 A4.out).mono ?_);(case side1 => repeat (first|exact (Kd.C_below HR0.out HB.out)|(with_reducible refine Kd.C_alloc ?_ _)|(with_reducible refine Kd.C_drewN ?_ _)|(with_reducible refine Kd.C_drew ?_)));(case side2 => exact HC0.out);rintro e w61 ⟨v4, rfl, ho0, hb⟩;refine ⟨_, rfl, ?_⟩;have n0_ := Aside0.mk (Kd.R_lower ho0 (below_size (by repeat (first|(with_reducible first|exact HB.out|apply below_alloc|apply pw_below_drewN|apply below_drew1|refine below_set ?_ GE1.out|refine below_set ?_ GE2.out)|exact HB.out))));have n1_ := Aside0.mk (blk_below (g := gb1) (o := .cells #[.int .i64 a2_0, .int .i64 a2_1, .int .i64 a2_2] 27 (0, 0)) (by (with_reducible repeat (first|refine blk_drewN ?_ _|refine blk_drew ?_|refine blk_alloc ?_ _));exact BK1.out) hb);have n2_ := Aside0.mk (blk_below (g := gb2) (o := .cells #[.slice none 0 0, .int .i64 0] 67 (0, 0)) (by (with_reducible repeat (first|refine blk_drewN ?_ _|refine blk_drew ?_|refine blk_alloc ?_ _));exact BK2.out) hb);have n3_ := Aside0.mk (below_step (by repeat (first|(with_reducible first|exact HB.out|apply below_alloc|apply pw_below_drewN|apply below_drew1|refine below_set ?_ GE1.out|refine below_set ?_ GE2.out)|exact HB.out)) hb);clear BK1;clear BK2;clear HB;have HO5 := n0_;have BK1 := n1_;have BK2 := n2_;have HB := n3_;clear n0_ n1_ n2_ n3_;(try clear hb);(try clear hb2);(try clear hk);(try clear hi);(try clear ho0);have hnb62 := NB1_2.out;have hnc62 := NB2_1.out;have hcz63_0 : w61.cell? ⟨gb1, 0, none⟩ = some (.int .i64 a2_0) := (blk_cell BK1.out 0).trans rfl;have hcz63_1 : w61.cell? ⟨gb1, 1, none⟩ = some (.int .i64 a2_1) := (blk_cell BK1.out 1).trans rfl;have hcz63_2 : w61.cell? ⟨gb1, 2, none⟩ = some (.int .i64 a2_2) := (blk_cell BK1.out 2).trans rfl;have hfz63_0 := blk_frozen BK1.out 0;have hfz63_1 := blk_frozen BK1.out 1;have hfz63_2 := blk_frozen BK1.out 2)|((with_reducible refine gate_callee (f := 65) rfl ?_);refine goesL_ (some 17) rfl rfl Try.func65 (by kernel_rfl) rfl #[.agg #[.int .i64 a2_0, .int .i64 a2_1, .int .i64 a2_2]] rfl (by (try simp only [List.map_toArray, List.map_cons, List.map_nil]);first|done|rfl|(simp only [List.length_drop, List.length_take];rfl)) ?_;(with_reducible refine (r10_MayVec.calls a2_0 a2_1 a2_2 true _ A5.out).mono ?_);rintro e w64 ⟨rfl, hb⟩;refine ⟨_, rfl, ?_⟩;have n0_ := Aside0.mk (Kd.R_below (by (with_reducible repeat (first|apply Kd.R_alloc|apply Kd.R_drewN|apply Kd.R_drew));exact HO5.out) hb);have n1_ := Aside0.mk (blk_below (g := gb1) (o := .cells #[.int .i64 a2_0, .int .i64 a2_1, .int .i64 a2_2] 27 (0, 0)) (by (with_reducible repeat (first|refine blk_drewN ?_ _|refine blk_drew ?_|refine blk_alloc ?_ _));exact BK1.out) hb);have n2_ := Aside0.mk (blk_below (g := gb2) (o := .cells #[.slice none 0 0, .int .i64 0] 67 (0, 0)) (by (with_reducible repeat (first|refine blk_drewN ?_ _|refine blk_drew ?_|refine blk_alloc ?_ _));exact BK2.out) hb);have n3_ := Aside0.mk (below_step (by repeat (first|(with_reducible first|exact HB.out|apply below_alloc|apply pw_below_drewN|apply below_drew1|refine below_set ?_ GE1.out|refine below_set ?_ GE2.out)|exact HB.out)) hb);clear HO5;clear BK1;clear BK2;clear HB;have HO5 := n0_;have BK1 := n1_;have BK2 := n2_;have HB := n3_;clear n0_ n1_ n2_ n3_;(try clear hb);(try clear hb2);(try clear hk);(try clear hi);obtain ⟨Ao65, co65, eo65⟩ := Kd.R_slice HO5.out;subst eo65))
      have n0_ := Aside0.mk (Kd.R_drew HO5.out)
      have n1_ := Aside0.mk (blk_drew BK1.out)
      have n2_ := Aside0.mk (blk_drew BK2.out)
      have n3_ := Aside0.mk (below_drew1 HB.out)
      clear HO5
      clear BK1
      clear BK2
      clear HB
      have HO5 := n0_
      have BK1 := n1_
      have BK2 := n2_
      have HB := n3_
      clear n0_ n1_ n2_ n3_
      have p12 : 0 ≤ (t11 : Int) := of_decide_eq_true (by first|(with_reducible assumption)|assumption)
      have q12 : t11 < (l0.length : Int) := of_decide_eq_true (by first|(with_reducible assumption)|assumption)
      obtain ⟨ad12, e12, hx12_0, hx12_1, hx12_2, hx12_3, hx12_4, hx12_5, hx12_6, hx12_7, hx12_8, hx12_9, hx12_10, hx12_11⟩ := at_T31 HR0.out t11 p12 q12
      have hw12_11 := hx12_11
      have hw12_10 := hx12_10
      have hw12_9 := hx12_9
      have hw12_8 := hx12_8
      have hw12_7 := hx12_7
      have hw12_6 := hx12_6
      have hw12_5 := hx12_5
      have hw12_4 := hx12_4
      have hw12_3 := hx12_3
      have hw12_2 := hx12_2
      have hw12_1 := hx12_1
      have hw12_0 := hx12_0
      cases e12
      replace hx12_0 := (HB.out.cell (World.block_lt_of_cell? w _ hx12_0)).trans hx12_0
      replace hx12_1 := (HB.out.cell (World.block_lt_of_cell? w _ hx12_1)).trans hx12_1
      replace hx12_2 := (HB.out.cell (World.block_lt_of_cell? w _ hx12_2)).trans hx12_2
      replace hx12_3 := (HB.out.cell (World.block_lt_of_cell? w _ hx12_3)).trans hx12_3
      replace hx12_4 := (HB.out.cell (World.block_lt_of_cell? w _ hx12_4)).trans hx12_4
      replace hx12_5 := (HB.out.cell (World.block_lt_of_cell? w _ hx12_5)).trans hx12_5
      replace hx12_6 := (HB.out.cell (World.block_lt_of_cell? w _ hx12_6)).trans hx12_6
      replace hx12_7 := (HB.out.cell (World.block_lt_of_cell? w _ hx12_7)).trans hx12_7
      replace hx12_8 := (HB.out.cell (World.block_lt_of_cell? w _ hx12_8)).trans hx12_8
      replace hx12_9 := (HB.out.cell (World.block_lt_of_cell? w _ hx12_9)).trans hx12_9
      replace hx12_10 := (HB.out.cell (World.block_lt_of_cell? w _ hx12_10)).trans hx12_10
      replace hx12_11 := (HB.out.cell (World.block_lt_of_cell? w _ hx12_11)).trans hx12_11
      replace p12 := eq_true p12
      replace q12 := eq_true q12
      refine start_ (n := 11) (S := fun w' => w'.cell? ⟨gb1, 0, none⟩ = some (.int .i64 a2_0) ∧ w'.cell? ⟨gb1, 1, none⟩ = some (.int .i64 a2_1) ∧ w'.cell? ⟨gb1, 2, none⟩ = some (.int .i64 a2_2) ∧ w'.cell? (ad12.add ((t11).toNat * 12)) = some (.string ((rd_T31 l0 t11).f0)) ∧ w'.cell? ⟨(ad12.add ((t11).toNat * 12)).block, (ad12.add ((t11).toNat * 12)).off + 1, none⟩ = some (.string ((rd_T31 l0 t11).f1)) ∧ w'.cell? ⟨(ad12.add ((t11).toNat * 12)).block, (ad12.add ((t11).toNat * 12)).off + 2, none⟩ = some (.int .i64 ((rd_T31 l0 t11).f2.f0)) ∧ w'.cell? ⟨(ad12.add ((t11).toNat * 12)).block, (ad12.add ((t11).toNat * 12)).off + 3, none⟩ = some (.int .i64 ((rd_T31 l0 t11).f2.f1)) ∧ w'.cell? ⟨(ad12.add ((t11).toNat * 12)).block, (ad12.add ((t11).toNat * 12)).off + 4, none⟩ = some (.int .i64 ((rd_T31 l0 t11).f2.f2)) ∧ w'.cell? ⟨(ad12.add ((t11).toNat * 12)).block, (ad12.add ((t11).toNat * 12)).off + 5, none⟩ = some (.int .i64 ((rd_T31 l0 t11).f3.f0)) ∧ w'.cell? ⟨(ad12.add ((t11).toNat * 12)).block, (ad12.add ((t11).toNat * 12)).off + 6, none⟩ = some (.int .i64 ((rd_T31 l0 t11).f3.f1)) ∧ w'.cell? ⟨(ad12.add ((t11).toNat * 12)).block, (ad12.add ((t11).toNat * 12)).off + 7, none⟩ = some (.int .i64 ((rd_T31 l0 t11).f3.f2)) ∧ w'.cell? ⟨(ad12.add ((t11).toNat * 12)).block, (ad12.add ((t11).toNat * 12)).off + 8, none⟩ = some (.int .i64 ((rd_T31 l0 t11).f4.f0)) ∧ w'.cell? ⟨(ad12.add ((t11).toNat * 12)).block, (ad12.add ((t11).toNat * 12)).off + 9, none⟩ = some (.int .i64 ((rd_T31 l0 t11).f4.f1)) ∧ w'.cell? ⟨(ad12.add ((t11).toNat * 12)).block, (ad12.add ((t11).toNat * 12)).off + 10, none⟩ = some (.int .i64 ((rd_T31 l0 t11).f4.f2)) ∧ w'.cell? ⟨(ad12.add ((t11).toNat * 12)).block, (ad12.add ((t11).toNat * 12)).off + 11, none⟩ = some (.int .i64 ((rd_T31 l0 t11).f5))) (ds := []) #[false, false, false, false, false, false, false, false, false, false, false] (by kernel_rfl) rfl rfl ⟨(blk_cell BK1.out 0).trans rfl, (blk_cell BK1.out 1).trans rfl, (blk_cell BK1.out 2).trans rfl, ((HB.out.cell (World.block_lt_of_cell? w _ hw12_0)).trans hw12_0), ((HB.out.cell (World.block_lt_of_cell? w _ hw12_1)).trans hw12_1), ((HB.out.cell (World.block_lt_of_cell? w _ hw12_2)).trans hw12_2), ((HB.out.cell (World.block_lt_of_cell? w _ hw12_3)).trans hw12_3), ((HB.out.cell (World.block_lt_of_cell? w _ hw12_4)).trans hw12_4), ((HB.out.cell (World.block_lt_of_cell? w _ hw12_5)).trans hw12_5), ((HB.out.cell (World.block_lt_of_cell? w _ hw12_6)).trans hw12_6), ((HB.out.cell (World.block_lt_of_cell? w _ hw12_7)).trans hw12_7), ((HB.out.cell (World.block_lt_of_cell? w _ hw12_8)).trans hw12_8), ((HB.out.cell (World.block_lt_of_cell? w _ hw12_9)).trans hw12_9), ((HB.out.cell (World.block_lt_of_cell? w _ hw12_10)).trans hw12_10), ((HB.out.cell (World.block_lt_of_cell? w _ hw12_11)).trans hw12_11)⟩ (fun hHeld => ?_); refine with_tabW r10_Release.tab6 r10_Release.bits6 (fun HT_ HW_ => ?_)
      generalize w64.drew = w66 at HO5 BK1 BK2 HB hx12_0 hx12_1 hx12_10 hx12_11 hx12_2 hx12_3 hx12_4 hx12_5 hx12_6 hx12_7 hx12_8 hx12_9 hHeld ⊢
      refine pure_ (i := 1) (N := some 27) (v := ?_) (a' := ?_) #[false, true, false, false, false, false, false, false, false, false, false] rfl rfl (any_of HT_.out (by kernel_rfl)) (fun _ _ _ h => h) (Or.inl ⟨by rfl, ?_⟩) ?_ ?_
      rotate_left
      ·intro w'
       go_simp
       with_reducible rfl
      rotate_left
      ·simp only [Act.put, List.setIfInBounds_toArray, List.set_cons_zero, List.set_cons_succ, i64_w, i32_w]
       rfl
      refine pure_ (i := 2) (N := some 28) (v := ?_) (a' := ?_) #[false, true, true, false, false, false, false, false, false, false, false] rfl rfl (any_of HT_.out (by kernel_rfl)) (fun _ _ _ h => h) (Or.inl ⟨by rfl, ?_⟩) ?_ ?_
      rotate_left
      ·intro w'
       go_simp
       with_reducible rfl
      rotate_left
      ·simp only [Act.put, List.setIfInBounds_toArray, List.set_cons_zero, List.set_cons_succ, i64_w, i32_w]
       rfl
      refine pure_ (i := 3) (N := some 29) (v := ?_) (a' := ?_) #[false, true, true, true, false, false, false, false, false, false, false] rfl rfl (any_of HT_.out (by kernel_rfl)) (fun _ _ _ h => h) (Or.inl ⟨by rfl, ?_⟩) ?_ ?_
      rotate_left
      ·intro w'
       go_simp
       with_reducible rfl
      rotate_left
      ·simp only [Act.put, List.setIfInBounds_toArray, List.set_cons_zero, List.set_cons_succ, i64_w, i32_w]
       rfl
      refine take_ (i := 0) (N := some 26) (v := ?_) (a' := ?_) #[true, true, true, true, false, false, false, false, false, false, false] rfl rfl (take_ofW HT_.out HW_.out (by kernel_rfl)) (fun _ _ _ h => h) (Or.inl ⟨by rfl, ?_⟩) hHeld ?_ ?_
      rotate_left
      ·rintro w' ⟨s0, s1, s2, s3, s4, s5, s6, s7, s8, s9, s10, s11, s12, s13, s14⟩
       go_simp
       with_reducible rfl
      rotate_left
      ·simp only [Act.put, List.setIfInBounds_toArray, List.set_cons_zero, List.set_cons_succ, i64_w, i32_w]
       rfl
      refine one_ (i := 4) (N := some 30) #[true, true, true, true, true, false, false, false, false, false, false] rfl rfl (one_of HT_.out (by kernel_rfl)) (by decide) (fun K hK => ?_)
      refine goes_ Try.func50 (by kernel_rfl) rfl #[.slice (some ad12) l0.length c0, .string a1] (by rfl) rfl rfl (by (try simp only [List.map_toArray, List.map_cons, List.map_nil]); first | done | rfl | (simp only [List.length_drop, List.length_take]; rfl)) ?_
      with_reducible refine (r10_Find.calls k _ _ l0 a1 t11 _ ?side1 ?side2 A19.out).mono ?_
      (case side1 => repeat (first|exact (Kd.C_below HR0.out HB.out)|(with_reducible refine Kd.C_alloc ?_ _)|(with_reducible refine Kd.C_drewN ?_ _)|(with_reducible refine Kd.C_drew ?_)))
      (case side2 => exact HC0.out)
      rintro e w' ⟨rfl, ⟨nd, rfl⟩⟩
      refine ⟨_, rfl, ?_⟩
      refine hK.out _ _ ⟨(blk_cell BK1.out 0).trans rfl, (blk_cell BK1.out 1).trans rfl, (blk_cell BK1.out 2).trans rfl, ((HB.out.cell (World.block_lt_of_cell? w _ hw12_0)).trans hw12_0), ((HB.out.cell (World.block_lt_of_cell? w _ hw12_1)).trans hw12_1), ((HB.out.cell (World.block_lt_of_cell? w _ hw12_2)).trans hw12_2), ((HB.out.cell (World.block_lt_of_cell? w _ hw12_3)).trans hw12_3), ((HB.out.cell (World.block_lt_of_cell? w _ hw12_4)).trans hw12_4), ((HB.out.cell (World.block_lt_of_cell? w _ hw12_5)).trans hw12_5), ((HB.out.cell (World.block_lt_of_cell? w _ hw12_6)).trans hw12_6), ((HB.out.cell (World.block_lt_of_cell? w _ hw12_7)).trans hw12_7), ((HB.out.cell (World.block_lt_of_cell? w _ hw12_8)).trans hw12_8), ((HB.out.cell (World.block_lt_of_cell? w _ hw12_9)).trans hw12_9), ((HB.out.cell (World.block_lt_of_cell? w _ hw12_10)).trans hw12_10), ((HB.out.cell (World.block_lt_of_cell? w _ hw12_11)).trans hw12_11)⟩ (fun hHeld => ?_)
      clear hK K
      refine norm_ (a' := ?_) ?_ ?_
      rotate_left
      ·show Act.put _ (some 30) _ = _
       simp only [Act.put, List.setIfInBounds_toArray, List.set_cons_zero, List.set_cons_succ, i64_w, i32_w]
       rfl
      refine pure_ (i := 5) (N := some 31) (v := ?_) (a' := ?_) #[true, true, true, true, true, true, false, false, false, false, false] rfl rfl (any_of HT_.out (by kernel_rfl)) (fun _ _ _ h => h) (Or.inl ⟨by rfl, ?_⟩) ?_ ?_
      rotate_left
      ·intro w'
       go_simp
       with_reducible rfl
      rotate_left
      ·simp only [Act.put, List.setIfInBounds_toArray, List.set_cons_zero, List.set_cons_succ, i64_w, i32_w]
       rfl
      refine pure_ (i := 6) (N := some 32) (v := ?_) (a' := ?_) #[true, true, true, true, true, true, true, false, false, false, false] rfl rfl (any_of HT_.out (by kernel_rfl)) (fun _ _ _ h => h) (Or.inl ⟨by rfl, ?_⟩) ?_ ?_
      rotate_left
      ·intro w'
       go_simp
       with_reducible rfl
      rotate_left
      ·simp only [Act.put, List.setIfInBounds_toArray, List.set_cons_zero, List.set_cons_succ, i64_w, i32_w]
       rfl
      refine take_ (i := 7) (N := some 33) (v := ?_) (a' := ?_) #[true, true, true, true, true, true, true, true, false, false, false] rfl rfl (take_ofW HT_.out HW_.out (by kernel_rfl)) (fun _ _ _ h => h) (Or.inl ⟨by rfl, ?_⟩) hHeld ?_ ?_
      rotate_left
      ·rintro w' ⟨s0, s1, s2, s3, s4, s5, s6, s7, s8, s9, s10, s11, s12, s13, s14⟩
       go_simp
       with_reducible rfl
      rotate_left
      ·simp only [Act.put, List.setIfInBounds_toArray, List.set_cons_zero, List.set_cons_succ, i64_w, i32_w]
       rfl
      refine one_ (i := 8) (N := some 34) #[true, true, true, true, true, true, true, true, true, false, false] rfl rfl (one_of HT_.out (by kernel_rfl)) (by decide) (fun K hK => ?_)
      refine goes_ Try.func34 (by kernel_rfl) rfl #[.agg #[.int .i64 a2_0, .int .i64 a2_1, .int .i64 a2_2], .agg #[.int .i64 ((rd_T31 l0 t11).f3.f0), .int .i64 ((rd_T31 l0 t11).f3.f1), .int .i64 ((rd_T31 l0 t11).f3.f2)]] (by rfl) rfl rfl (by (try simp only [List.map_toArray, List.map_cons, List.map_nil]); first | done | rfl | (simp only [List.length_drop, List.length_take]; rfl)) ?_
      with_reducible refine (r10_Le.calls a2_0 a2_1 a2_2 ((rd_T31 l0 t11).f3.f0) ((rd_T31 l0 t11).f3.f1) ((rd_T31 l0 t11).f3.f2) false _ A22.out).mono ?_
      rintro e w67 ⟨rfl, hb⟩
      refine ⟨_, rfl, ?_⟩
      have n0_ := Aside0.mk (Kd.R_below (by (with_reducible repeat (first|apply Kd.R_alloc|apply Kd.R_drewN|apply Kd.R_drew));exact HO5.out) hb)
      have n1_ := Aside0.mk (blk_below (g := gb1) (o := .cells #[.int .i64 a2_0, .int .i64 a2_1, .int .i64 a2_2] 27 (0, 0)) (by (with_reducible repeat (first|refine blk_drewN ?_ _|refine blk_drew ?_|refine blk_alloc ?_ _));exact BK1.out) hb)
      have n2_ := Aside0.mk (blk_below (g := gb2) (o := .cells #[.slice none 0 0, .int .i64 0] 67 (0, 0)) (by (with_reducible repeat (first|refine blk_drewN ?_ _|refine blk_drew ?_|refine blk_alloc ?_ _));exact BK2.out) hb)
      have n3_ := Aside0.mk (below_step (by repeat (first|(with_reducible first|exact HB.out|apply below_alloc|apply pw_below_drewN|apply below_drew1|refine below_set ?_ GE1.out|refine below_set ?_ GE2.out)|exact HB.out)) hb)
      clear HO5
      clear BK1
      clear BK2
      clear HB
      have HO5 := n0_
      have BK1 := n1_
      have BK2 := n2_
      have HB := n3_
      clear n0_ n1_ n2_ n3_
      (try clear hb)
      (try clear hb2)
      (try clear hk)
      (try clear hi)
      refine hK.out _ _ ⟨(blk_cell BK1.out 0).trans rfl, (blk_cell BK1.out 1).trans rfl, (blk_cell BK1.out 2).trans rfl, ((HB.out.cell (World.block_lt_of_cell? w _ hw12_0)).trans hw12_0), ((HB.out.cell (World.block_lt_of_cell? w _ hw12_1)).trans hw12_1), ((HB.out.cell (World.block_lt_of_cell? w _ hw12_2)).trans hw12_2), ((HB.out.cell (World.block_lt_of_cell? w _ hw12_3)).trans hw12_3), ((HB.out.cell (World.block_lt_of_cell? w _ hw12_4)).trans hw12_4), ((HB.out.cell (World.block_lt_of_cell? w _ hw12_5)).trans hw12_5), ((HB.out.cell (World.block_lt_of_cell? w _ hw12_6)).trans hw12_6), ((HB.out.cell (World.block_lt_of_cell? w _ hw12_7)).trans hw12_7), ((HB.out.cell (World.block_lt_of_cell? w _ hw12_8)).trans hw12_8), ((HB.out.cell (World.block_lt_of_cell? w _ hw12_9)).trans hw12_9), ((HB.out.cell (World.block_lt_of_cell? w _ hw12_10)).trans hw12_10), ((HB.out.cell (World.block_lt_of_cell? w _ hw12_11)).trans hw12_11)⟩ (fun hHeld => ?_)
      clear hK K
      refine norm_ (a' := ?_) ?_ ?_
      rotate_left
      ·show Act.put _ (some 34) _ = _
       simp only [Act.put, List.setIfInBounds_toArray, List.set_cons_zero, List.set_cons_succ, i64_w, i32_w]
       rfl
      refine pure_ (i := 9) (N := some 35) (v := ?_) (a' := ?_) #[true, true, true, true, true, true, true, true, true, true, false] rfl rfl (any_of HT_.out (by kernel_rfl)) (fun _ _ _ h => h) (Or.inl ⟨by rfl, ?_⟩) ?_ ?_
      rotate_left
      ·intro w'
       go_simp
       with_reducible rfl
      rotate_left
      ·simp only [Act.put, List.setIfInBounds_toArray, List.set_cons_zero, List.set_cons_succ, i64_w, i32_w]
       rfl
      refine pure_ (i := 10) (N := some 25) (v := ?_) (a' := ?_) #[true, true, true, true, true, true, true, true, true, true, true] rfl rfl (any_of HT_.out (by kernel_rfl)) (fun _ _ _ h => h) (Or.inl ⟨by rfl, ?_⟩) ?_ ?_
      rotate_left
      ·intro w'
       go_simp
       with_reducible rfl
      rotate_left
      ·simp only [Act.put, List.setIfInBounds_toArray, List.set_cons_zero, List.set_cons_succ, i64_w, i32_w]
       rfl
      refine done_ (done_of HT_.out (by kernel_rfl)) ?_
      try go_wp2_with (first|((with_reducible refine gate_callee (f := 113) rfl ?_);refine goesL_ (some 36) rfl rfl Try.func113 (by kernel_rfl) rfl #[.int .i64 1] rfl (by (try simp only [List.map_toArray, List.map_cons, List.map_nil]);first|done|rfl|(simp only [List.length_drop, List.length_take];rfl)) ?_;(with_reducible refine (r10_no.calls 1 t14 t17 _ A58.out).mono ?_);rintro e w68 ⟨v15, rfl, ho0, hb⟩;refine ⟨_, rfl, ?_⟩;have n0_ := Aside0.mk (Kd.R_below (by (with_reducible repeat (first|apply Kd.R_alloc|apply Kd.R_drewN|apply Kd.R_drew));exact HO5.out) hb);have n1_ := Aside0.mk (Kd.R_lower ho0 (below_size (by repeat (first|(with_reducible first|exact HB.out|apply below_alloc|apply pw_below_drewN|apply below_drew1|refine below_set ?_ GE1.out|refine below_set ?_ GE2.out)|exact HB.out))));have n2_ := Aside0.mk (blk_below (g := gb1) (o := .cells #[.int .i64 a2_0, .int .i64 a2_1, .int .i64 a2_2] 27 (0, 0)) (by (with_reducible repeat (first|refine blk_drewN ?_ _|refine blk_drew ?_|refine blk_alloc ?_ _));exact BK1.out) hb);have n3_ := Aside0.mk (blk_below (g := gb2) (o := .cells #[.slice none 0 0, .int .i64 0] 67 (0, 0)) (by (with_reducible repeat (first|refine blk_drewN ?_ _|refine blk_drew ?_|refine blk_alloc ?_ _));exact BK2.out) hb);have n4_ := Aside0.mk (below_step (by repeat (first|(with_reducible first|exact HB.out|apply below_alloc|apply pw_below_drewN|apply below_drew1|refine below_set ?_ GE1.out|refine below_set ?_ GE2.out)|exact HB.out)) hb);clear HO5;clear BK1;clear BK2;clear HB;have HO5 := n0_;have HO16 := n1_;have BK1 := n2_;have BK2 := n3_;have HB := n4_;clear n0_ n1_ n2_ n3_ n4_;(try clear hb);(try clear hb2);(try clear hk);(try clear hi);(try clear ho0);obtain ⟨Ao69, co69, eo69⟩ := Kd.R_slice HO16.out;subst eo69;have hcz70_0 : w68.cell? ⟨gb2, 0, none⟩ = some (.slice none 0 0) := (blk_cell BK2.out 0).trans rfl;have hcz70_1 : w68.cell? ⟨gb2, 1, none⟩ = some (.int .i64 0) := (blk_cell BK2.out 1).trans rfl;have hfz70_0 := blk_frozen BK2.out 0;have hfz70_1 := blk_frozen BK2.out 1))
      refine bodyPost_ret (results_cell_row rfl _ _ gb2 67 #[.slice Ao69 t14.length co69, .int .i64 t17] (0, 0) _ rfl (by (with_reducible repeat (first|refine blk_drewN ?_ _|refine blk_drew ?_|refine blk_alloc ?_ _));refine blk_put (cs := #[.slice Ao69 t14.length co69, .int .i64 0]) ?_ 1 _ rfl;(with_reducible repeat (first|refine blk_drewN ?_ _|refine blk_drew ?_|refine blk_alloc ?_ _));refine blk_put (cs := #[.slice none 0 0, .int .i64 0]) ?_ 0 _ rfl;(with_reducible repeat (first|refine blk_drewN ?_ _|refine blk_drew ?_|refine blk_alloc ?_ _));exact BK2.out) Try.underlying67 rfl (by kernel_rfl)) rfl ?_
      exact ⟨_, by first|rfl|(simp [errW_none, errW_some] <;> rfl)|(simp [*, errW_none, errW_some] <;> rfl), by (with_reducible repeat (first|apply Kd.R_alloc|apply Kd.R_drewN|apply Kd.R_drew));exact Kd.R_mono (Kd.R_far (p := ⟨gb2, 1, none⟩) (Kd.R_far (p := ⟨gb2, 0, none⟩) (Kd.R_types HO16.out BK2.out (by decide)) (fun _ hk => hk.2) (.slice Ao69 t14.length co69)) (fun _ hk => hk.2) (.int .i64 t17)) (fun _ hk => trivial), by repeat (first|(with_reducible first|exact HB.out|apply below_alloc|apply pw_below_drewN|apply below_drew1|refine below_set ?_ GE1.out|refine below_set ?_ GE2.out)|exact HB.out)⟩
    ·rw [if_neg c21] at H
     exact absurd H (by simp)
   ·rw [if_neg c20] at H
    exact absurd H (by simp)
 ·replace c6 := Bool.eq_false_iff.mpr c6
  subst c6
  have H1 : ((r10_no.f 1).bind fun bt18 => (some (bt18.1, bt18.2))) = some (r1, r2) := by rw [if_neg (show ¬ (false = true) by decide)] at H; exact H
  clear H
  have H := H1
  clear H1
  replace H := Option.bind_eq_some_iff.mp H
  obtain ⟨⟨t18, t21⟩, A710, H⟩ := H
  replace H : (some (t18, t21)) = some (r1, r2) := H
  have A71 := Aside0.mk A710
  clear A710
  simp only [Option.some.injEq, Prod.mk.injEq] at H
  obtain ⟨rfl, rfl⟩ := H
  go_enter Try.func77, Try.ntmps77
  go_wp2_with (first|((with_reducible refine gate_dst (N := 5) rfl ?_);refine box_event ?hg (N := 5) ?hd (cs := #[.int .i64 a2_0, .int .i64 a2_1, .int .i64 a2_2]) (t := 27) ?hr ?_;(case hd => rfl);(case hg => rfl);(case hr => first|(go_simp;done)|(go_simp;rfl));intro gb1 hg w72 hbox hb;have n0_ := Aside0.mk (below_step (by repeat (first|(with_reducible first|exact HB.out|apply below_alloc|apply pw_below_drewN|apply below_drew1)|exact HB.out)) hb);have n1_ := Aside0.mk (hbox);have n2_ := Aside0.mk ((by rw [hg];exact (below_size (by repeat (first|(with_reducible first|exact HB.out|apply below_alloc|apply pw_below_drewN|apply below_drew1)|exact HB.out))) : w.heap.size ≤ gb1));have n3_ := Aside0.mk ((by rw [hg];exact (below_size (by repeat (first|(with_reducible first|exact HB.out|apply below_alloc|apply pw_below_drewN|apply below_drew1)|exact HB.out))) : w.heap.size ≤ gb1));clear HB;have HB := n0_;have BK1 := n1_;have GW1 := n2_;have GE1 := n3_;clear n0_ n1_ n2_ n3_;clear hb hbox hg)|((with_reducible refine gate_dst (N := 6) rfl ?_);refine box_event ?hg (N := 6) ?hd (cs := #[.slice none 0 0, .int .i64 0]) (t := 67) ?hr ?_;(case hd => rfl);(case hg => rfl);(case hr => first|(go_simp;done)|(go_simp;rfl));intro gb2 hg w73 hbox hb;have n0_ := Aside0.mk (blk_below (g := gb1) (o := .cells #[.int .i64 a2_0, .int .i64 a2_1, .int .i64 a2_2] 27 (0, 0)) (by (with_reducible repeat (first|refine blk_drewN ?_ _|refine blk_drew ?_|refine blk_alloc ?_ _));exact BK1.out) hb);have n1_ := Aside0.mk (below_step (by repeat (first|(with_reducible first|exact HB.out|apply below_alloc|apply pw_below_drewN|apply below_drew1|refine below_set ?_ GE1.out)|exact HB.out)) hb);have n2_ := Aside0.mk (hbox);have n3_ := Aside0.mk ((by rw [hg];exact (below_size (by repeat (first|(with_reducible first|exact HB.out|apply below_alloc|apply pw_below_drewN|apply below_drew1|refine below_set ?_ GE1.out)|exact HB.out))) : w.heap.size ≤ gb2));have n4_ := Aside0.mk ((by rw [hg];exact (below_size (by repeat (first|(with_reducible first|exact HB.out|apply below_alloc|apply pw_below_drewN|apply below_drew1|refine below_set ?_ GE1.out)|exact HB.out))) : w.heap.size ≤ gb2));have n5_ := Aside0.mk ((by rw [hg];exact Nat.ne_of_lt (blk_lt (g := gb1) (o := .cells #[.int .i64 a2_0, .int .i64 a2_1, .int .i64 a2_2] 27 (0, 0)) (by (with_reducible repeat (first|refine blk_drewN ?_ _|refine blk_drew ?_|refine blk_alloc ?_ _));exact BK1.out)) : gb1 ≠ gb2));have n6_ := Aside0.mk ((by rw [hg];exact Nat.ne_of_gt (blk_lt (g := gb1) (o := .cells #[.int .i64 a2_0, .int .i64 a2_1, .int .i64 a2_2] 27 (0, 0)) (by (with_reducible repeat (first|refine blk_drewN ?_ _|refine blk_drew ?_|refine blk_alloc ?_ _));exact BK1.out)) : gb2 ≠ gb1));clear BK1;clear HB;have BK1 := n0_;have HB := n1_;have BK2 := n2_;have GW2 := n3_;have GE2 := n4_;have NB1_2 := n5_;have NB2_1 := n6_;clear n0_ n1_ n2_ n3_ n4_ n5_ n6_;clear hb hbox hg)|((with_reducible refine gate_callee (f := 106) rfl ?_);refine goesL_ (some 14) rfl rfl Try.func106 (by kernel_rfl) rfl #[.slice A0 l0.length c0, .string a1] rfl (by (try simp only [List.map_toArray, List.map_cons, List.map_nil]);first|done|rfl|(simp only [List.length_drop, List.length_take];rfl)) ?_;(with_reducible refine (r10_Up.calls k _ _ l0 a1 t3 _ ?side1 ?side2 A4.out).mono ?_);(case side1 => repeat (first|exact (Kd.C_below HR0.out HB.out)|(with_reducible refine Kd.C_alloc ?_ _)|(with_reducible refine Kd.C_drewN ?_ _)|(with_reducible refine Kd.C_drew ?_)));(case side2 => exact HC0.out);rintro e w74 ⟨v4, rfl, ho0, hb⟩;refine ⟨_, rfl, ?_⟩;have n0_ := Aside0.mk (Kd.R_lower ho0 (below_size (by repeat (first|(with_reducible first|exact HB.out|apply below_alloc|apply pw_below_drewN|apply below_drew1|refine below_set ?_ GE1.out|refine below_set ?_ GE2.out)|exact HB.out))));have n1_ := Aside0.mk (blk_below (g := gb1) (o := .cells #[.int .i64 a2_0, .int .i64 a2_1, .int .i64 a2_2] 27 (0, 0)) (by (with_reducible repeat (first|refine blk_drewN ?_ _|refine blk_drew ?_|refine blk_alloc ?_ _));exact BK1.out) hb);have n2_ := Aside0.mk (blk_below (g := gb2) (o := .cells #[.slice none 0 0, .int .i64 0] 67 (0, 0)) (by (with_reducible repeat (first|refine blk_drewN ?_ _|refine blk_drew ?_|refine blk_alloc ?_ _));exact BK2.out) hb);have n3_ := Aside0.mk (below_step (by repeat (first|(with_reducible first|exact HB.out|apply below_alloc|apply pw_below_drewN|apply below_drew1|refine below_set ?_ GE1.out|refine below_set ?_ GE2.out)|exact HB.out)) hb);clear BK1;clear BK2;clear HB;have HO5 := n0_;have BK1 := n1_;have BK2 := n2_;have HB := n3_;clear n0_ n1_ n2_ n3_;(try clear hb);(try clear hb2);(try clear hk);(try clear hi);(try clear ho0);have hnb75 := NB1_2.out;have hnc75 := NB2_1.out;have hcz76_0 : w74.cell? ⟨gb1, 0, none⟩ = some (.int .i64 a2_0) := (blk_cell BK1.out 0).trans rfl;have hcz76_1 : w74.cell? ⟨gb1, 1, none⟩ = some (.int .i64 a2_1) := (blk_cell BK1.out 1).trans rfl;have hcz76_2 : w74.cell? ⟨gb1, 2, none⟩ = some (.int .i64 a2_2) := (blk_cell BK1.out 2).trans rfl;have hfz76_0 := blk_frozen BK1.out 0;have hfz76_1 := blk_frozen BK1.out 1;have hfz76_2 := blk_frozen BK1.out 2)|((with_reducible refine gate_callee (f := 65) rfl ?_);refine goesL_ (some 17) rfl rfl Try.func65 (by kernel_rfl) rfl #[.agg #[.int .i64 a2_0, .int .i64 a2_1, .int .i64 a2_2]] rfl (by (try simp only [List.map_toArray, List.map_cons, List.map_nil]);first|done|rfl|(simp only [List.length_drop, List.length_take];rfl)) ?_;(with_reducible refine (r10_MayVec.calls a2_0 a2_1 a2_2 false _ A5.out).mono ?_);rintro e w77 ⟨rfl, hb⟩;refine ⟨_, rfl, ?_⟩;have n0_ := Aside0.mk (Kd.R_below (by (with_reducible repeat (first|apply Kd.R_alloc|apply Kd.R_drewN|apply Kd.R_drew));exact HO5.out) hb);have n1_ := Aside0.mk (blk_below (g := gb1) (o := .cells #[.int .i64 a2_0, .int .i64 a2_1, .int .i64 a2_2] 27 (0, 0)) (by (with_reducible repeat (first|refine blk_drewN ?_ _|refine blk_drew ?_|refine blk_alloc ?_ _));exact BK1.out) hb);have n2_ := Aside0.mk (blk_below (g := gb2) (o := .cells #[.slice none 0 0, .int .i64 0] 67 (0, 0)) (by (with_reducible repeat (first|refine blk_drewN ?_ _|refine blk_drew ?_|refine blk_alloc ?_ _));exact BK2.out) hb);have n3_ := Aside0.mk (below_step (by repeat (first|(with_reducible first|exact HB.out|apply below_alloc|apply pw_below_drewN|apply below_drew1|refine below_set ?_ GE1.out|refine below_set ?_ GE2.out)|exact HB.out)) hb);clear HO5;clear BK1;clear BK2;clear HB;have HO5 := n0_;have BK1 := n1_;have BK2 := n2_;have HB := n3_;clear n0_ n1_ n2_ n3_;(try clear hb);(try clear hb2);(try clear hk);(try clear hi))|((with_reducible refine gate_callee (f := 113) rfl ?_);refine goesL_ (some 19) rfl rfl Try.func113 (by kernel_rfl) rfl #[.int .i64 1] rfl (by (try simp only [List.map_toArray, List.map_cons, List.map_nil]);first|done|rfl|(simp only [List.length_drop, List.length_take];rfl)) ?_;(with_reducible refine (r10_no.calls 1 t18 t21 _ A71.out).mono ?_);rintro e w78 ⟨v19, rfl, ho0, hb⟩;refine ⟨_, rfl, ?_⟩;have n0_ := Aside0.mk (Kd.R_below (by (with_reducible repeat (first|apply Kd.R_alloc|apply Kd.R_drewN|apply Kd.R_drew));exact HO5.out) hb);have n1_ := Aside0.mk (Kd.R_lower ho0 (below_size (by repeat (first|(with_reducible first|exact HB.out|apply below_alloc|apply pw_below_drewN|apply below_drew1|refine below_set ?_ GE1.out|refine below_set ?_ GE2.out)|exact HB.out))));have n2_ := Aside0.mk (blk_below (g := gb1) (o := .cells #[.int .i64 a2_0, .int .i64 a2_1, .int .i64 a2_2] 27 (0, 0)) (by (with_reducible repeat (first|refine blk_drewN ?_ _|refine blk_drew ?_|refine blk_alloc ?_ _));exact BK1.out) hb);have n3_ := Aside0.mk (blk_below (g := gb2) (o := .cells #[.slice none 0 0, .int .i64 0] 67 (0, 0)) (by (with_reducible repeat (first|refine blk_drewN ?_ _|refine blk_drew ?_|refine blk_alloc ?_ _));exact BK2.out) hb);have n4_ := Aside0.mk (below_step (by repeat (first|(with_reducible first|exact HB.out|apply below_alloc|apply pw_below_drewN|apply below_drew1|refine below_set ?_ GE1.out|refine below_set ?_ GE2.out)|exact HB.out)) hb);clear HO5;clear BK1;clear BK2;clear HB;have HO5 := n0_;have HO20 := n1_;have BK1 := n2_;have BK2 := n3_;have HB := n4_;clear n0_ n1_ n2_ n3_ n4_;(try clear hb);(try clear hb2);(try clear hk);(try clear hi);(try clear ho0);obtain ⟨Ao79, co79, eo79⟩ := Kd.R_slice HO20.out;subst eo79;have hcz80_0 : w78.cell? ⟨gb2, 0, none⟩ = some (.slice none 0 0) := (blk_cell BK2.out 0).trans rfl;have hcz80_1 : w78.cell? ⟨gb2, 1, none⟩ = some (.int .i64 0) := (blk_cell BK2.out 1).trans rfl;have hfz80_0 := blk_frozen BK2.out 0;have hfz80_1 := blk_frozen BK2.out 1))
  refine bodyPost_ret (results_cell_row rfl _ _ gb2 67 #[.slice Ao79 t18.length co79, .int .i64 t21] (0, 0) _ rfl (by (with_reducible repeat (first|refine blk_drewN ?_ _|refine blk_drew ?_|refine blk_alloc ?_ _));refine blk_put (cs := #[.slice Ao79 t18.length co79, .int .i64 0]) ?_ 1 _ rfl;(with_reducible repeat (first|refine blk_drewN ?_ _|refine blk_drew ?_|refine blk_alloc ?_ _));refine blk_put (cs := #[.slice none 0 0, .int .i64 0]) ?_ 0 _ rfl;(with_reducible repeat (first|refine blk_drewN ?_ _|refine blk_drew ?_|refine blk_alloc ?_ _));exact BK2.out) Try.underlying67 rfl (by kernel_rfl)) rfl ?_
  exact ⟨_, by first|rfl|(simp [errW_none, errW_some] <;> rfl)|(simp [*, errW_none, errW_some] <;> rfl), by (with_reducible repeat (first|apply Kd.R_alloc|apply Kd.R_drewN|apply Kd.R_drew));exact Kd.R_mono (Kd.R_far (p := ⟨gb2, 1, none⟩) (Kd.R_far (p := ⟨gb2, 0, none⟩) (Kd.R_types HO20.out BK2.out (by decide)) (fun _ hk => hk.2) (.slice Ao79 t18.length co79)) (fun _ hk => hk.2) (.int .i64 t21)) (fun _ hk => trivial), by repeat (first|(with_reducible first|exact HB.out|apply below_alloc|apply pw_below_drewN|apply below_drew1|refine below_set ?_ GE1.out|refine below_set ?_ GE2.out)|exact HB.out)⟩
end Go.Proofs.Ytcgefpklljclgaa.Print

namespace Go.Proofs.Ytcgefpklljclgaa.Print
open Go.RowKit Go.Proofs.YtcgefpklljclgaaW.PrintWords Go.Proofs.YtcgefpklljclgaaW.PrintLast Go.Proofs.YtcgefpklljclgaaW.PrintMore
attribute [local go_sem] max2_int min2_int max_two min_two max_three min_three max_four min_four   -- for this text's walks alone
set_option linter.unusedVariables false
set_option linter.unusedSimpArgs false
/-! ### law1_Num: function 61 -/
def law1_Num.f (a0 : Int) : Option (Int) := some a0
set_option maxHeartbeats 8000000 in
set_option maxRecDepth 100000 in
theorem law1_Num.calls (a0 : Int) (r : Int) (w : World) (h : law1_Num.f a0 = some r) :
  Calls Try.prog 61 #[.int .i64 a0] w fun e w' => e = .returned (.int .i64 r) ∧ Drawn0 w w' := by
 have H : (some a0) = some r := h
 clear h
 obtain rfl := Option.some.inj H
 go_enter Try.func61, Try.ntmps61
 go_wp2
 go_ret
 exact ⟨by first | rfl | (simp; done) | (simp [*]; done), by repeat (first | exact Drawn0.refl _ | apply Drawn0.step)⟩
end Go.Proofs.Ytcgefpklljclgaa.Print

namespace Go.Proofs.Ytcgefpklljclgaa.Print
open Go.RowKit Go.Proofs.YtcgefpklljclgaaW.PrintWords Go.Proofs.YtcgefpklljclgaaW.PrintLast Go.Proofs.YtcgefpklljclgaaW.PrintMore
attribute [local go_sem] max2_int min2_int max_two min_two max_three min_three max_four min_four   -- for this text's walks alone
set_option linter.unusedVariables false
set_option linter.unusedSimpArgs false
/-! ### law14_awake: function 59 -/
def law14_awake.f (k : Nat)  : Option (Bool) := (admit_Admit.f k ([] : List (S31)) (⟨#[97]⟩ : ByteArray) 0 0 0).bind fun bt1 => ((admit_Admit.f k (([(⟨(⟨#[97]⟩ : ByteArray), (⟨#[]⟩ : ByteArray), (⟨5, 0, 0⟩ : S27), (⟨0, 0, 0⟩ : S27), (⟨0, 0, 0⟩ : S27), 1⟩ : S31)] : List (S31))) (⟨#[97]⟩ : ByteArray) 3 0 0).bind fun bt8 => ((law1_Num.f bt1.2).bind fun t12 => (if t12 = 2 then ((law1_Num.f bt8.2).bind fun t13 => (if t13 = 0 then (if (bt8.1.length : Int) = 1 then (if 0 < (bt8.1.length : Int) then (if ((rd_T31 bt8.1 0).f3.f0) = 3 then (some (((rd_T31 bt8.1 0).f4.f0) == 3)) else (some false)) else (none)) else (some false)) else (some false))) else (some false))))
theorem law14_awake.mono : ∀ k, LeO (law14_awake.f k ) (law14_awake.f (k + 1) ) := by
 intro  k
 unfold law14_awake.f
 repeat' first
   | (with_reducible exact admit_Admit.mono _ _ _ _ _ _)
   | (with_reducible exact LeO.refl _)
   | (with_reducible exact LeO.none _)
   | (with_reducible refine LeO.ite ?_ ?_)
   | (with_reducible refine LeO.bind ?_ (fun _ => ?_))
   | exact admit_Admit.mono _ _ _ _ _ _
   | exact LeO.none _
   | refine LeO.ite ?_ ?_
   | refine LeO.bind ?_ (fun _ => ?_)
set_option maxHeartbeats 8000000 in
set_option maxRecDepth 100000 in
theorem law14_awake.calls (k : Nat)  (r : Bool) (w : World) (h : law14_awake.f k  = some r) :
  Calls Try.prog 59 #[] w fun e w' => e = .returned (.bool r) ∧ Below w.heap.size w w' := by
 have hu27 := Try.underlying27
 have hu31 := Try.underlying31
 have HB := Aside0.mk (Below.refl w.heap.size w)
 have H : ((admit_Admit.f k ([] : List (S31)) (⟨#[97]⟩ : ByteArray) 0 0 0).bind fun bt1 => ((admit_Admit.f k (([(⟨(⟨#[97]⟩ : ByteArray), (⟨#[]⟩ : ByteArray), (⟨5, 0, 0⟩ : S27), (⟨0, 0, 0⟩ : S27), (⟨0, 0, 0⟩ : S27), 1⟩ : S31)] : List (S31))) (⟨#[97]⟩ : ByteArray) 3 0 0).bind fun bt8 => ((law1_Num.f bt1.2).bind fun t12 => (if t12 = 2 then ((law1_Num.f bt8.2).bind fun t13 => (if t13 = 0 then (if (bt8.1.length : Int) = 1 then (if 0 < (bt8.1.length : Int) then (if ((rd_T31 bt8.1 0).f3.f0) = 3 then (some (((rd_T31 bt8.1 0).f4.f0) == 3)) else (some false)) else (none)) else (some false)) else (some false))) else (some false))))) = some r := h
 clear h
 replace H := Option.bind_eq_some_iff.mp H
 obtain ⟨⟨t1, t4⟩, A10, H⟩ := H
 replace H : ((admit_Admit.f k (([(⟨(⟨#[97]⟩ : ByteArray), (⟨#[]⟩ : ByteArray), (⟨5, 0, 0⟩ : S27), (⟨0, 0, 0⟩ : S27), (⟨0, 0, 0⟩ : S27), 1⟩ : S31)] : List (S31))) (⟨#[97]⟩ : ByteArray) 3 0 0).bind fun bt8 => ((law1_Num.f t4).bind fun t12 => (if t12 = 2 then ((law1_Num.f bt8.2).bind fun t13 => (if t13 = 0 then (if (bt8.1.length : Int) = 1 then (if 0 < (bt8.1.length : Int) then (if ((rd_T31 bt8.1 0).f3.f0) = 3 then (some (((rd_T31 bt8.1 0).f4.f0) == 3)) else (some false)) else (none)) else (some false)) else (some false))) else (some false)))) = some r := H
 have A1 := Aside0.mk A10
 clear A10
 obtain ⟨y5, hy5⟩ : ∃ y_ : List (S31), y_ = (([(⟨(⟨#[97]⟩ : ByteArray), (⟨#[]⟩ : ByteArray), (⟨5, 0, 0⟩ : S27), (⟨0, 0, 0⟩ : S27), (⟨0, 0, 0⟩ : S27), 1⟩ : S31)] : List (S31))) := ⟨_, rfl⟩
 replace H : ((admit_Admit.f k y5 (⟨#[97]⟩ : ByteArray) 3 0 0).bind fun bt8 => ((law1_Num.f t4).bind fun t12 => (if t12 = 2 then ((law1_Num.f bt8.2).bind fun t13 => (if t13 = 0 then (if (bt8.1.length : Int) = 1 then (if 0 < (bt8.1.length : Int) then (if ((rd_T31 bt8.1 0).f3.f0) = 3 then (some (((rd_T31 bt8.1 0).f4.f0) == 3)) else (some false)) else (none)) else (some false)) else (some false))) else (some false)))) = some r := by first|(rw [hy5];with_reducible exact H)|(have H2_ := (Option.bind_some _ _).symm.trans H;rw [hy5];with_reducible exact H2_)|(have H2_ := (Option.bind_some _ _).symm.trans H;with_reducible exact H2_)|with_reducible exact H|(rw [hy5];exact H)|exact H
 have Ny5 := Aside0.mk hy5
 clear hy5
 replace H := Option.bind_eq_some_iff.mp H
 obtain ⟨⟨t8, t11⟩, A20, H⟩ := H
 replace H : ((law1_Num.f t4).bind fun t12 => (if t12 = 2 then ((law1_Num.f t11).bind fun t13 => (if t13 = 0 then (if (t8.length : Int) = 1 then (if 0 < (t8.length : Int) then (if ((rd_T31 t8 0).f3.f0) = 3 then (some (((rd_T31 t8 0).f4.f0) == 3)) else (some false)) else (none)) else (some false)) else (some false))) else (some false))) = some r := H
 have A2 := Aside0.mk A20
 clear A20
 replace H := Option.bind_eq_some_iff.mp H
 obtain ⟨t12, A30, H⟩ := H
 replace H : (if t12 = 2 then ((law1_Num.f t11).bind fun t13 => (if t13 = 0 then (if (t8.length : Int) = 1 then (if 0 < (t8.length : Int) then (if ((rd_T31 t8 0).f3.f0) = 3 then (some (((rd_T31 t8 0).f4.f0) == 3)) else (some false)) else (none)) else (some false)) else (some false))) else (some false)) = some r := H
 have A3 := Aside0.mk A30
 clear A30
 by_cases c4 : t12 = 2
 ·rw [if_pos c4] at H
  have c4b0 : (t12 == 2) = true := beq_iff_eq.mpr c4
  have c4b1 : (t12 != 2) = false := bne_eq_false_iff_eq.mpr c4
  clear c4
  replace H := Option.bind_eq_some_iff.mp H
  obtain ⟨t13, A50, H⟩ := H
  replace H : (if t13 = 0 then (if (t8.length : Int) = 1 then (if 0 < (t8.length : Int) then (if ((rd_T31 t8 0).f3.f0) = 3 then (some (((rd_T31 t8 0).f4.f0) == 3)) else (some false)) else (none)) else (some false)) else (some false)) = some r := H
  have A5 := Aside0.mk A50
  clear A50
  by_cases c6 : t13 = 0
  ·rw [if_pos c6] at H
   have c6b0 : (t13 == 0) = true := beq_iff_eq.mpr c6
   have c6b1 : (t13 != 0) = false := bne_eq_false_iff_eq.mpr c6
   clear c6
   by_cases c7 : (t8.length : Int) = 1
   ·rw [if_pos c7] at H
    have c7b0 : ((t8.length : Int) == 1) = true := beq_iff_eq.mpr c7
    have c7b1 : ((t8.length : Int) != 1) = false := bne_eq_false_iff_eq.mpr c7
    clear c7
    by_cases c8 : 0 < (t8.length : Int)
    ·rw [if_pos c8] at H
     have c8b0 : decide (0 < (t8.length : Int)) = true := decide_eq_true c8
     have c8b1 : decide (0 < t8.length) = true := decide_eq_true (by omega)
     clear c8
     by_cases c9 : ((rd_T31 t8 0).f3.f0) = 3
     ·rw [if_pos c9] at H
      have c9b0 : (((rd_T31 t8 0).f3.f0) == 3) = true := beq_iff_eq.mpr c9
      have c9b1 : (((rd_T31 t8 0).f3.f0) != 3) = false := bne_eq_false_iff_eq.mpr c9
      clear c9
      obtain rfl := Option.some.inj H
      go_enter Try.func59, Try.ntmps59
      go_wp2_with (first|((with_reducible refine gate_callee (f := 60) rfl ?_);refine goesL_ (some 7) rfl rfl Try.func60 (by kernel_rfl) rfl #[.slice none 0 0, .string (⟨#[97]⟩ : ByteArray), .agg #[.int .i64 0, .int .i64 0, .int .i64 0]] rfl (by (try simp only [List.map_toArray, List.map_cons, List.map_nil]);first|done|rfl|(simp only [List.length_drop, List.length_take];rfl)) ?_;(refine (admit_Admit.calls k _ _ ([] : List (S31)) (⟨#[97]⟩ : ByteArray) 0 0 0 t1 t4 _ ?side1 ?side2 A1.out).mono ?_);(case side1 => exact Kd.C_nil _ _);(case side2 => exact Nat.le_refl _);rintro e w10 ⟨v2, rfl, ho0, hb⟩;refine ⟨_, rfl, ?_⟩;have n0_ := Aside0.mk (Kd.R_lower ho0 (below_size (by repeat (first|(with_reducible first|exact HB.out|apply below_alloc|apply pw_below_drewN|apply below_drew1)|exact HB.out))));have n1_ := Aside0.mk (below_step (by repeat (first|(with_reducible first|exact HB.out|apply below_alloc|apply pw_below_drewN|apply below_drew1)|exact HB.out)) hb);clear HB;have HO3 := n0_;have HB := n1_;clear n0_ n1_;(try clear hb);(try clear hb2);(try clear hk);(try clear hi);(try clear ho0))|((with_reducible refine gate_dst (N := 13) rfl ?_);(try (refine gate_guard (by rfl) ?_;dsimp only));refine Kd.R_lit k31 _ 31 ?hg (N := 13) ?hd (xs := ([(⟨(⟨#[97]⟩ : ByteArray), (⟨#[]⟩ : ByteArray), (⟨5, 0, 0⟩ : S27), (⟨0, 0, 0⟩ : S27), (⟨0, 0, 0⟩ : S27), 1⟩ : S31)] : List (S31))) (inner := [.string (⟨#[97]⟩ : ByteArray), .string (⟨#[]⟩ : ByteArray), .int .i64 5, .int .i64 0, .int .i64 0, .int .i64 0, .int .i64 0, .int .i64 0, .int .i64 0, .int .i64 0, .int .i64 0, .int .i64 1]) (ok := fun _ => True) (okp := fun _ => True) ?hr ?hp (fun _ hk => hk) trivial (Below.refl _ _) (Nat.le_refl _) (by simp) ?_;(case hd => rfl);(case hg => rfl);(case hr => first|(go_simp;done)|(go_simp;rfl));(case hp => exact (Reps.front (show Kd.M k31 _ _ _ (⟨(⟨#[97]⟩ : ByteArray), (⟨#[]⟩ : ByteArray), (⟨5, 0, 0⟩ : S27), (⟨0, 0, 0⟩ : S27), (⟨0, 0, 0⟩ : S27), 1⟩ : S31) [.string (⟨#[97]⟩ : ByteArray), .string (⟨#[]⟩ : ByteArray), .int .i64 5, .int .i64 0, .int .i64 0, .int .i64 0, .int .i64 0, .int .i64 0, .int .i64 0, .int .i64 0, .int .i64 0, .int .i64 1] from (k31_mkM _ _ _ (⟨(⟨#[97]⟩ : ByteArray), (⟨#[]⟩ : ByteArray), (⟨5, 0, 0⟩ : S27), (⟨0, 0, 0⟩ : S27), (⟨0, 0, 0⟩ : S27), 1⟩ : S31) )) rfl (Reps.none _ _) rfl));intro v6 w11 ho12 hb hg_ hnew_;clear hg_ hnew_;(first|rw [← Ny5.out] at ho12|(simp only [Int.reduceToNat] at ho12;rw [← Ny5.out] at ho12));have n0_ := Aside0.mk (Kd.R_elder' (by (with_reducible repeat (first|apply Kd.R_alloc|apply Kd.R_drewN|apply Kd.R_drew));exact HO3.out) (Kd.R_base ho12) hb);have n1_ := Aside0.mk (Kd.R_lower (Kd.R_new' ho12 (Kd.R_lt (by (with_reducible repeat (first|apply Kd.R_alloc|apply Kd.R_drewN|apply Kd.R_drew));exact HO3.out))) (below_size (by repeat (first|(with_reducible first|exact HB.out|apply below_alloc|apply pw_below_drewN|apply below_drew1)|exact HB.out))));have n2_ := Aside0.mk (below_step (by repeat (first|(with_reducible first|exact HB.out|apply below_alloc|apply pw_below_drewN|apply below_drew1)|exact HB.out)) hb);clear HO3;clear HB;have HO3 := n0_;have HO7 := n1_;have HB := n2_;clear n0_ n1_ n2_;clear hb ho12;obtain ⟨Ao13, co13, eo13⟩ := Kd.R_slice HO7.out;subst eo13)|((with_reducible refine gate_callee (f := 60) rfl ?_);refine goesL_ (some 15) rfl rfl Try.func60 (by kernel_rfl) rfl #[.slice Ao13 y5.length co13, .string (⟨#[97]⟩ : ByteArray), .agg #[.int .i64 3, .int .i64 0, .int .i64 0]] rfl (by (try simp only [List.map_toArray, List.map_cons, List.map_nil]);first|done|rfl|(simp only [List.length_drop, List.length_take];rfl)) ?_;(with_reducible refine (admit_Admit.calls k _ _ y5 (⟨#[97]⟩ : ByteArray) 3 0 0 t8 t11 _ ?side1 ?side2 A2.out).mono ?_);(case side1 => repeat (first|exact (Kd.R_reads' HO7.out).2.2|(with_reducible refine Kd.C_alloc ?_ _)|(with_reducible refine Kd.C_drewN ?_ _)|(with_reducible refine Kd.C_drew ?_)));(case side2 => exact (Kd.R_reads' HO7.out).2.1);rintro e w14 ⟨v9, rfl, ho0, hb⟩;refine ⟨_, rfl, ?_⟩;have n0_ := Aside0.mk (Kd.R_elder' (by (with_reducible repeat (first|apply Kd.R_alloc|apply Kd.R_drewN|apply Kd.R_drew));exact HO3.out) (Kd.R_base ho0) hb);have n1_ := Aside0.mk (Kd.R_elder' (by (with_reducible repeat (first|apply Kd.R_alloc|apply Kd.R_drewN|apply Kd.R_drew));exact HO7.out) (Kd.R_base ho0) hb);have n2_ := Aside0.mk (Kd.R_lower (Kd.R_new' (Kd.R_new' ho0 (Kd.R_lt (by (with_reducible repeat (first|apply Kd.R_alloc|apply Kd.R_drewN|apply Kd.R_drew));exact HO3.out))) (Kd.R_lt (by (with_reducible repeat (first|apply Kd.R_alloc|apply Kd.R_drewN|apply Kd.R_drew));exact HO7.out))) (below_size (by repeat (first|(with_reducible first|exact HB.out|apply below_alloc|apply pw_below_drewN|apply below_drew1)|exact HB.out))));have n3_ := Aside0.mk (below_step (by repeat (first|(with_reducible first|exact HB.out|apply below_alloc|apply pw_below_drewN|apply below_drew1)|exact HB.out)) hb);clear HO3;clear HO7;clear HB;have HO3 := n0_;have HO7 := n1_;have HO10 := n2_;have HB := n3_;clear n0_ n1_ n2_ n3_;(try clear hb);(try clear hb2);(try clear hk);(try clear hi);(try clear ho0))|((with_reducible refine gate_callee (f := 61) rfl ?_);refine goesL_ (some 19) rfl rfl Try.func61 (by kernel_rfl) rfl #[.int .i64 t4] rfl (by (try simp only [List.map_toArray, List.map_cons, List.map_nil]);first|done|rfl|(simp only [List.length_drop, List.length_take];rfl)) ?_;(with_reducible refine (law1_Num.calls t4 t12 _ A3.out).mono ?_);rintro e w' ⟨rfl, ⟨nd, rfl⟩⟩;refine ⟨_, rfl, ?_⟩)|(go_at_call 61;(with_reducible refine (law1_Num.calls t11 t13 _ A5.out).mono ?_);rintro e w' ⟨rfl, ⟨nd, rfl⟩⟩;obtain ⟨Ao15, co15, eo15⟩ := Kd.R_slice HO10.out;subst eo15;have p14 : 0 ≤ (0 : Int) := (by omega);have q14 : 0 < (t8.length : Int) := of_decide_eq_true (by first|(with_reducible assumption)|assumption);obtain ⟨ad14, e14, hx14_0, hx14_1, hx14_2, hx14_3, hx14_4, hx14_5, hx14_6, hx14_7, hx14_8, hx14_9, hx14_10, hx14_11⟩ := at_T31 (Kd.R_reads' HO10.out).2.2 0 p14 q14;cases e14;have qi14 : (0 < t8.length) = True := eq_true (by omega);(try rw [show ((0 : Int)).toNat = 0 from rfl] at hx14_0);(try rw [show 0 * 12 = 0 from rfl] at hx14_0);(try rw [Addr.add_zero'] at hx14_0);(try rw [show ((0 : Int)).toNat = 0 from rfl] at hx14_1);(try rw [show 0 * 12 = 0 from rfl] at hx14_1);(try rw [Addr.add_zero'] at hx14_1);(try rw [show ((0 : Int)).toNat = 0 from rfl] at hx14_2);(try rw [show 0 * 12 = 0 from rfl] at hx14_2);(try rw [Addr.add_zero'] at hx14_2);(try rw [show ((0 : Int)).toNat = 0 from rfl] at hx14_3);(try rw [show 0 * 12 = 0 from rfl] at hx14_3);(try rw [Addr.add_zero'] at hx14_3);(try rw [show ((0 : Int)).toNat = 0 from rfl] at hx14_4);(try rw [show 0 * 12 = 0 from rfl] at hx14_4);(try rw [Addr.add_zero'] at hx14_4);(try rw [show ((0 : Int)).toNat = 0 from rfl] at hx14_5);(try rw [show 0 * 12 = 0 from rfl] at hx14_5);(try rw [Addr.add_zero'] at hx14_5);(try rw [show ((0 : Int)).toNat = 0 from rfl] at hx14_6);(try rw [show 0 * 12 = 0 from rfl] at hx14_6);(try rw [Addr.add_zero'] at hx14_6);(try rw [show ((0 : Int)).toNat = 0 from rfl] at hx14_7);(try rw [show 0 * 12 = 0 from rfl] at hx14_7);(try rw [Addr.add_zero'] at hx14_7);(try rw [show ((0 : Int)).toNat = 0 from rfl] at hx14_8);(try rw [show 0 * 12 = 0 from rfl] at hx14_8);(try rw [Addr.add_zero'] at hx14_8);(try rw [show ((0 : Int)).toNat = 0 from rfl] at hx14_9);(try rw [show 0 * 12 = 0 from rfl] at hx14_9);(try rw [Addr.add_zero'] at hx14_9);(try rw [show ((0 : Int)).toNat = 0 from rfl] at hx14_10);(try rw [show 0 * 12 = 0 from rfl] at hx14_10);(try rw [Addr.add_zero'] at hx14_10);(try rw [show ((0 : Int)).toNat = 0 from rfl] at hx14_11);(try rw [show 0 * 12 = 0 from rfl] at hx14_11);(try rw [Addr.add_zero'] at hx14_11);replace p14 := eq_true p14;replace q14 := eq_true q14;have p15 : 0 ≤ (0 : Int) := (by omega);have q15 : 0 < (t8.length : Int) := of_decide_eq_true (by first|(with_reducible assumption)|assumption);obtain ⟨ad15, e15, hx15_0, hx15_1, hx15_2, hx15_3, hx15_4, hx15_5, hx15_6, hx15_7, hx15_8, hx15_9, hx15_10, hx15_11⟩ := at_T31 (Kd.R_reads' HO10.out).2.2 0 p15 q15;obtain rfl : ad14 = ad15 := (by injection e15);have qi15 : (0 < t8.length) = True := eq_true (by omega);(try rw [show ((0 : Int)).toNat = 0 from rfl] at hx15_0);(try rw [show 0 * 12 = 0 from rfl] at hx15_0);(try rw [Addr.add_zero'] at hx15_0);(try rw [show ((0 : Int)).toNat = 0 from rfl] at hx15_1);(try rw [show 0 * 12 = 0 from rfl] at hx15_1);(try rw [Addr.add_zero'] at hx15_1);(try rw [show ((0 : Int)).toNat = 0 from rfl] at hx15_2);(try rw [show 0 * 12 = 0 from rfl] at hx15_2);(try rw [Addr.add_zero'] at hx15_2);(try rw [show ((0 : Int)).toNat = 0 from rfl] at hx15_3);(try rw [show 0 * 12 = 0 from rfl] at hx15_3);(try rw [Addr.add_zero'] at hx15_3);(try rw [show ((0 : Int)).toNat = 0 from rfl] at hx15_4);(try rw [show 0 * 12 = 0 from rfl] at hx15_4);(try rw [Addr.add_zero'] at hx15_4);(try rw [show ((0 : Int)).toNat = 0 from rfl] at hx15_5);(try rw [show 0 * 12 = 0 from rfl] at hx15_5);(try rw [Addr.add_zero'] at hx15_5);(try rw [show ((0 : Int)).toNat = 0 from rfl] at hx15_6);(try rw [show 0 * 12 = 0 from rfl] at hx15_6);(try rw [Addr.add_zero'] at hx15_6);(try rw [show ((0 : Int)).toNat = 0 from rfl] at hx15_7);(try rw [show 0 * 12 = 0 from rfl] at hx15_7);(try rw [Addr.add_zero'] at hx15_7);(try rw [show ((0 : Int)).toNat = 0 from rfl] at hx15_8);(try rw [show 0 * 12 = 0 from rfl] at hx15_8);(try rw [Addr.add_zero'] at hx15_8);(try rw [show ((0 : Int)).toNat = 0 from rfl] at hx15_9);(try rw [show 0 * 12 = 0 from rfl] at hx15_9);(try rw [Addr.add_zero'] at hx15_9);(try rw [show ((0 : Int)).toNat = 0 from rfl] at hx15_10);(try rw [show 0 * 12 = 0 from rfl] at hx15_10);(try rw [Addr.add_zero'] at hx15_10);(try rw [show ((0 : Int)).toNat = 0 from rfl] at hx15_11);(try rw [show 0 * 12 = 0 from rfl] at hx15_11);(try rw [Addr.add_zero'] at hx15_11);replace p15 := eq_true p15;replace q15 := eq_true q15))
      go_ret
      exact ⟨by first|rfl|(simp [errW_none, errW_some] <;> rfl)|(simp [*, errW_none, errW_some] <;> rfl), by repeat (first|(with_reducible first|exact HB.out|apply below_alloc|apply pw_below_drewN|apply below_drew1)|exact HB.out)⟩
     ·rw [if_neg c9] at H
      have c9b0 : (((rd_T31 t8 0).f3.f0) == 3) = false := beq_eq_false_iff_ne.mpr c9
      have c9b1 : (((rd_T31 t8 0).f3.f0) != 3) = true := bne_iff_ne.mpr c9
      obtain rfl := Option.some.inj H
      go_enter Try.func59, Try.ntmps59
      go_wp2_with (first|((with_reducible refine gate_callee (f := 60) rfl ?_);refine goesL_ (some 7) rfl rfl Try.func60 (by kernel_rfl) rfl #[.slice none 0 0, .string (⟨#[97]⟩ : ByteArray), .agg #[.int .i64 0, .int .i64 0, .int .i64 0]] rfl (by (try simp only [List.map_toArray, List.map_cons, List.map_nil]);first|done|rfl|(simp only [List.length_drop, List.length_take];rfl)) ?_;(refine (admit_Admit.calls k _ _ ([] : List (S31)) (⟨#[97]⟩ : ByteArray) 0 0 0 t1 t4 _ ?side1 ?side2 A1.out).mono ?_);(case side1 => exact Kd.C_nil _ _);(case side2 => exact Nat.le_refl _);rintro e w16 ⟨v2, rfl, ho0, hb⟩;refine ⟨_, rfl, ?_⟩;have n0_ := Aside0.mk (Kd.R_lower ho0 (below_size (by repeat (first|(with_reducible first|exact HB.out|apply below_alloc|apply pw_below_drewN|apply below_drew1)|exact HB.out))));have n1_ := Aside0.mk (below_step (by repeat (first|(with_reducible first|exact HB.out|apply below_alloc|apply pw_below_drewN|apply below_drew1)|exact HB.out)) hb);clear HB;have HO3 := n0_;have HB := n1_;clear n0_ n1_;(try clear hb);(try clear hb2);(try clear hk);(try clear hi);(try clear ho0))|((with_reducible refine gate_dst (N := 13) rfl ?_);(try (refine gate_guard (by rfl) ?_;dsimp only));refine Kd.R_lit k31 _ 31 ?hg (N := 13) ?hd (xs := ([(⟨(⟨#[97]⟩ : ByteArray), (⟨#[]⟩ : ByteArray), (⟨5, 0, 0⟩ : S27), (⟨0, 0, 0⟩ : S27), (⟨0, 0, 0⟩ : S27), 1⟩ : S31)] : List (S31))) (inner := [.string (⟨#[97]⟩ : ByteArray), .string (⟨#[]⟩ : ByteArray), .int .i64 5, .int .i64 0, .int .i64 0, .int .i64 0, .int .i64 0, .int .i64 0, .int .i64 0, .int .i64 0, .int .i64 0, .int .i64 1]) (ok := fun _ => True) (okp := fun _ => True) ?hr ?hp (fun _ hk => hk) trivial (Below.refl _ _) (Nat.le_refl _) (by simp) ?_;(case hd => rfl);(case hg => rfl);(case hr => first|(go_simp;done)|(go_simp;rfl));(case hp => exact (Reps.front (show Kd.M k31 _ _ _ (⟨(⟨#[97]⟩ : ByteArray), (⟨#[]⟩ : ByteArray), (⟨5, 0, 0⟩ : S27), (⟨0, 0, 0⟩ : S27), (⟨0, 0, 0⟩ : S27), 1⟩ : S31) [.string (⟨#[97]⟩ : ByteArray), .string (⟨#[]⟩ : ByteArray), .int .i64 5, .int .i64 0, .int .i64 0, .int .i64 0, .int .i64 0, .int .i64 0, .int .i64 0, .int .i64 0, .int .i64 0, .int .i64 1] from (k31_mkM _ _ _ (⟨(⟨#[97]⟩ : ByteArray), (⟨#[]⟩ : ByteArray), (⟨5, 0, 0⟩ : S27), (⟨0, 0, 0⟩ : S27), (⟨0, 0, 0⟩ : S27), 1⟩ : S31) )) rfl (Reps.none _ _) rfl));intro v6 w17 ho18 hb hg_ hnew_;clear hg_ hnew_;(first|rw [← Ny5.out] at ho18|(simp only [Int.reduceToNat] at ho18;rw [← Ny5.out] at ho18));have n0_ := Aside0.mk (Kd.R_elder' (by (with_reducible repeat (first|apply Kd.R_alloc|apply Kd.R_drewN|apply Kd.R_drew));exact HO3.out) (Kd.R_base ho18) hb);have n1_ := Aside0.mk (Kd.R_lower (Kd.R_new' ho18 (Kd.R_lt (by (with_reducible repeat (first|apply Kd.R_alloc|apply Kd.R_drewN|apply Kd.R_drew));exact HO3.out))) (below_size (by repeat (first|(with_reducible first|exact HB.out|apply below_alloc|apply pw_below_drewN|apply below_drew1)|exact HB.out))));have n2_ := Aside0.mk (below_step (by repeat (first|(with_reducible first|exact HB.out|apply below_alloc|apply pw_below_drewN|apply below_drew1)|exact HB.out)) hb);clear HO3;clear HB;have HO3 := n0_;have HO7 := n1_;have HB := n2_;clear n0_ n1_ n2_;clear hb ho18;obtain ⟨Ao19, co19, eo19⟩ := Kd.R_slice HO7.out;subst eo19)|((with_reducible refine gate_callee (f := 60) rfl ?_);refine goesL_ (some 15) rfl rfl Try.func60 (by kernel_rfl) rfl #[.slice Ao19 y5.length co19, .string (⟨#[97]⟩ : ByteArray), .agg #[.int .i64 3, .int .i64 0, .int .i64 0]] rfl (by (try simp only [List.map_toArray, List.map_cons, List.map_nil]);first|done|rfl|(simp only [List.length_drop, List.length_take];rfl)) ?_;(with_reducible refine (admit_Admit.calls k _ _ y5 (⟨#[97]⟩ : ByteArray) 3 0 0 t8 t11 _ ?side1 ?side2 A2.out).mono ?_);(case side1 => repeat (first|exact (Kd.R_reads' HO7.out).2.2|(with_reducible refine Kd.C_alloc ?_ _)|(with_reducible refine Kd.C_drewN ?_ _)|(with_reducible refine Kd.C_drew ?_)));(case side2 => exact (Kd.R_reads' HO7.out).2.1);rintro e w20 ⟨v9, rfl, ho0, hb⟩;refine ⟨_, rfl, ?_⟩;have n0_ := Aside0.mk (Kd.R_elder' (by (with_reducible repeat (first|apply Kd.R_alloc|apply Kd.R_drewN|apply Kd.R_drew));exact HO3.out) (Kd.R_base ho0) hb);have n1_ := Aside0.mk (Kd.R_elder' (by (with_reducible repeat (first|apply Kd.R_alloc|apply Kd.R_drewN|apply Kd.R_drew));exact HO7.out) (Kd.R_base ho0) hb);have n2_ := Aside0.mk (Kd.R_lower (Kd.R_new' (Kd.R_new' ho0 (Kd.R_lt (by (with_reducible repeat (first|apply Kd.R_alloc|apply Kd.R_drewN|apply Kd.R_drew));exact HO3.out))) (Kd.R_lt (by (with_reducible repeat (first|apply Kd.R_alloc|apply Kd.R_drewN|apply Kd.R_drew));exact HO7.out))) (below_size (by repeat (first|(with_reducible first|exact HB.out|apply below_alloc|apply pw_below_drewN|apply below_drew1)|exact HB.out))));have n3_ := Aside0.mk (below_step (by repeat (first|(with_reducible first|exact HB.out|apply below_alloc|apply pw_below_drewN|apply below_drew1)|exact HB.out)) hb);clear HO3;clear HO7;clear HB;have HO3 := n0_;have HO7 := n1_;have HO10 := n2_;have HB := n3_;clear n0_ n1_ n2_ n3_;(try clear hb);(try clear hb2);(try clear hk);(try clear hi);(try clear ho0))|((with_reducible refine gate_callee (f := 61) rfl ?_);refine goesL_ (some 19) rfl rfl Try.func61 (by kernel_rfl) rfl #[.int .i64 t4] rfl (by (try simp only [List.map_toArray, List.map_cons, List.map_nil]);first|done|rfl|(simp only [List.length_drop, List.length_take];rfl)) ?_;(with_reducible refine (law1_Num.calls t4 t12 _ A3.out).mono ?_);rintro e w' ⟨rfl, ⟨nd, rfl⟩⟩;refine ⟨_, rfl, ?_⟩)|(go_at_call 61;(with_reducible refine (law1_Num.calls t11 t13 _ A5.out).mono ?_);rintro e w' ⟨rfl, ⟨nd, rfl⟩⟩;obtain ⟨Ao21, co21, eo21⟩ := Kd.R_slice HO10.out;subst eo21;have p14 : 0 ≤ (0 : Int) := (by omega);have q14 : 0 < (t8.length : Int) := of_decide_eq_true (by first|(with_reducible assumption)|assumption);obtain ⟨ad14, e14, hx14_0, hx14_1, hx14_2, hx14_3, hx14_4, hx14_5, hx14_6, hx14_7, hx14_8, hx14_9, hx14_10, hx14_11⟩ := at_T31 (Kd.R_reads' HO10.out).2.2 0 p14 q14;cases e14;have qi14 : (0 < t8.length) = True := eq_true (by omega);(try rw [show ((0 : Int)).toNat = 0 from rfl] at hx14_0);(try rw [show 0 * 12 = 0 from rfl] at hx14_0);(try rw [Addr.add_zero'] at hx14_0);(try rw [show ((0 : Int)).toNat = 0 from rfl] at hx14_1);(try rw [show 0 * 12 = 0 from rfl] at hx14_1);(try rw [Addr.add_zero'] at hx14_1);(try rw [show ((0 : Int)).toNat = 0 from rfl] at hx14_2);(try rw [show 0 * 12 = 0 from rfl] at hx14_2);(try rw [Addr.add_zero'] at hx14_2);(try rw [show ((0 : Int)).toNat = 0 from rfl] at hx14_3);(try rw [show 0 * 12 = 0 from rfl] at hx14_3);(try rw [Addr.add_zero'] at hx14_3);(try rw [show ((0 : Int)).toNat = 0 from rfl] at hx14_4);(try rw [show 0 * 12 = 0 from rfl] at hx14_4);(try rw [Addr.add_zero'] at hx14_4);(try rw [show ((0 : Int)).toNat = 0 from rfl] at hx14_5);(try rw [show 0 * 12 = 0 from rfl] at hx14_5);(try rw [Addr.add_zero'] at hx14_5);(try rw [show ((0 : Int)).toNat = 0 from rfl] at hx14_6);(try rw [show 0 * 12 = 0 from rfl] at hx14_6);(try rw [Addr.add_zero'] at hx14_6);(try rw [show ((0 : Int)).toNat = 0 from rfl] at hx14_7);(try rw [show 0 * 12 = 0 from rfl] at hx14_7);(try rw [Addr.add_zero'] at hx14_7);(try rw [show ((0 : Int)).toNat = 0 from rfl] at hx14_8);(try rw [show 0 * 12 = 0 from rfl] at hx14_8);(try rw [Addr.add_zero'] at hx14_8);(try rw [show ((0 : Int)).toNat = 0 from rfl] at hx14_9);(try rw [show 0 * 12 = 0 from rfl] at hx14_9);(try rw [Addr.add_zero'] at hx14_9);(try rw [show ((0 : Int)).toNat = 0 from rfl] at hx14_10);(try rw [show 0 * 12 = 0 from rfl] at hx14_10);(try rw [Addr.add_zero'] at hx14_10);(try rw [show ((0 : Int)).toNat = 0 from rfl] at hx14_11);(try rw [show 0 * 12 = 0 from rfl] at hx14_11);(try rw [Addr.add_zero'] at hx14_11);replace p14 := eq_true p14;replace q14 := eq_true q14))
      go_ret
      exact ⟨by first|rfl|(simp [errW_none, errW_some] <;> rfl)|(simp [*, errW_none, errW_some] <;> rfl), by repeat (first|(with_reducible first|exact HB.out|apply below_alloc|apply pw_below_drewN|apply below_drew1)|exact HB.out)⟩
    ·rw [if_neg c8] at H
     exact absurd H (by simp)
   ·rw [if_neg c7] at H
    have c7b0 : ((t8.length : Int) == 1) = false := beq_eq_false_iff_ne.mpr c7
    have c7b1 : ((t8.length : Int) != 1) = true := bne_iff_ne.mpr c7
    obtain rfl := Option.some.inj H
    go_enter Try.func59, Try.ntmps59
    go_wp2_with (first|((with_reducible refine gate_callee (f := 60) rfl ?_);refine goesL_ (some 7) rfl rfl Try.func60 (by kernel_rfl) rfl #[.slice none 0 0, .string (⟨#[97]⟩ : ByteArray), .agg #[.int .i64 0, .int .i64 0, .int .i64 0]] rfl (by (try simp only [List.map_toArray, List.map_cons, List.map_nil]);first|done|rfl|(simp only [List.length_drop, List.length_take];rfl)) ?_;(refine (admit_Admit.calls k _ _ ([] : List (S31)) (⟨#[97]⟩ : ByteArray) 0 0 0 t1 t4 _ ?side1 ?side2 A1.out).mono ?_);(case side1 => exact Kd.C_nil _ _);(case side2 => exact Nat.le_refl _);rintro e w22 ⟨v2, rfl, ho0, hb⟩;refine ⟨_, rfl, ?_⟩;have n0_ := Aside0.mk (Kd.R_lower ho0 (below_size (by repeat (first|(with_reducible first|exact HB.out|apply below_alloc|apply pw_below_drewN|apply below_drew1)|exact HB.out))));have n1_ := Aside0.mk (below_step (by repeat (first|(with_reducible first|exact HB.out|apply below_alloc|apply pw_below_drewN|apply below_drew1)|exact HB.out)) hb);clear HB;have HO3 := n0_;have HB := n1_;clear n0_ n1_;(try clear hb);(try clear hb2);(try clear hk);(try clear hi);(try clear ho0))|((with_reducible refine gate_dst (N := 13) rfl ?_);(try (refine gate_guard (by rfl) ?_;dsimp only));refine Kd.R_lit k31 _ 31 ?hg (N := 13) ?hd (xs := ([(⟨(⟨#[97]⟩ : ByteArray), (⟨#[]⟩ : ByteArray), (⟨5, 0, 0⟩ : S27), (⟨0, 0, 0⟩ : S27), (⟨0, 0, 0⟩ : S27), 1⟩ : S31)] : List (S31))) (inner := [.string (⟨#[97]⟩ : ByteArray), .string (⟨#[]⟩ : ByteArray), .int .i64 5, .int .i64 0, .int .i64 0, .int .i64 0, .int .i64 0, .int .i64 0, .int .i64 0, .int .i64 0, .int .i64 0, .int .i64 1]) (ok := fun _ => True) (okp := fun _ => True) ?hr ?hp (fun _ hk => hk) trivial (Below.refl _ _) (Nat.le_refl _) (by simp) ?_;(case hd => rfl);(case hg => rfl);(case hr => first|(go_simp;done)|(go_simp;rfl));(case hp => exact (Reps.front (show Kd.M k31 _ _ _ (⟨(⟨#[97]⟩ : ByteArray), (⟨#[]⟩ : ByteArray), (⟨5, 0, 0⟩ : S27), (⟨0, 0, 0⟩ : S27), (⟨0, 0, 0⟩ : S27), 1⟩ : S31) [.string (⟨#[97]⟩ : ByteArray), .string (⟨#[]⟩ : ByteArray), .int .i64 5, .int .i64 0, .int .i64 0, .int .i64 0, .int .i64 0, .int .i64 0, .int .i64 0, .int .i64 0, .int .i64 0, .int .i64 1] from (k31_mkM _ _ _ (⟨(⟨#[97]⟩ : ByteArray), (⟨#[]⟩ : ByteArray), (⟨5, 0, 0⟩ : S27), (⟨0, 0, 0⟩ : S27), (⟨0, 0, 0⟩ : S27), 1⟩ : S31) )) rfl (Reps.none _ _) rfl));intro v6 w23 ho24 hb hg_ hnew_;clear hg_ hnew_;(first|rw [← Ny5.out] at ho24|(simp only [Int.reduceToNat] at ho24;rw [← Ny5.out] at ho24));have n0_ := Aside0.mk (Kd.R_elder' (by (with_reducible repeat (first|apply Kd.R_alloc|apply Kd.R_drewN|apply Kd.R_drew));exact HO3.out) (Kd.R_base ho24) hb);have n1_ := Aside0.mk (Kd.R_lower (Kd.R_new' ho24 (Kd.R_lt (by (with_reducible repeat (first|apply Kd.R_alloc|apply Kd.R_drewN|apply Kd.R_drew));exact HO3.out))) (below_size (by repeat (first|(with_reducible first|exact HB.out|apply below_alloc|apply pw_below_drewN|apply below_drew1)|exact HB.out))));have n2_ := Aside0.mk (below_step (by repeat (first|(with_reducible first|exact HB.out|apply below_alloc|apply pw_below_drewN|apply below_drew1)|exact HB.out)) hb);clear HO3;clear HB;have HO3 := n0_;have HO7 := n1_;have HB := n2_;clear n0_ n1_ n2_;clear hb ho24;obtain ⟨Ao25, co25, eo25⟩ := Kd.R_slice HO7.out;subst eo25)|((with_reducible refine gate_callee (f := 60) rfl ?_);refine goesL_ (some 15) rfl rfl Try.func60 (by kernel_rfl) rfl #[.slice Ao25 y5.length co25, .string (⟨#[97]⟩ : ByteArray), .agg #[.int .i64 3, .int .i64 0, .int .i64 0]] rfl (by (try simp only [List.map_toArray, List.map_cons, List.map_nil]);first|done|rfl|(simp only [List.length_drop, List.length_take];rfl)) ?_;(with_reducible refine (admit_Admit.calls k _ _ y5 (⟨#[97]⟩ : ByteArray) 3 0 0 t8 t11 _ ?side1 ?side2 A2.out).mono ?_);(case side1 => repeat (first|exact (Kd.R_reads' HO7.out).2.2|(with_reducible refine Kd.C_alloc ?_ _)|(with_reducible refine Kd.C_drewN ?_ _)|(with_reducible refine Kd.C_drew ?_)));(case side2 => exact (Kd.R_reads' HO7.out).2.1);rintro e w26 ⟨v9, rfl, ho0, hb⟩;refine ⟨_, rfl, ?_⟩;have n0_ := Aside0.mk (Kd.R_elder' (by (with_reducible repeat (first|apply Kd.R_alloc|apply Kd.R_drewN|apply Kd.R_drew));exact HO3.out) (Kd.R_base ho0) hb);have n1_ := Aside0.mk (Kd.R_elder' (by (with_reducible repeat (first|apply Kd.R_alloc|apply Kd.R_drewN|apply Kd.R_drew));exact HO7.out) (Kd.R_base ho0) hb);have n2_ := Aside0.mk (Kd.R_lower (Kd.R_new' (Kd.R_new' ho0 (Kd.R_lt (by (with_reducible repeat (first|apply Kd.R_alloc|apply Kd.R_drewN|apply Kd.R_drew));exact HO3.out))) (Kd.R_lt (by (with_reducible repeat (first|apply Kd.R_alloc|apply Kd.R_drewN|apply Kd.R_drew));exact HO7.out))) (below_size (by repeat (first|(with_reducible first|exact HB.out|apply below_alloc|apply pw_below_drewN|apply below_drew1)|exact HB.out))));have n3_ := Aside0.mk (below_step (by repeat (first|(with_reducible first|exact HB.out|apply below_alloc|apply pw_below_drewN|apply below_drew1)|exact HB.out)) hb);clear HO3;clear HO7;clear HB;have HO3 := n0_;have HO7 := n1_;have HO10 := n2_;have HB := n3_;clear n0_ n1_ n2_ n3_;(try clear hb);(try clear hb2);(try clear hk);(try clear hi);(try clear ho0))|((with_reducible refine gate_callee (f := 61) rfl ?_);refine goesL_ (some 19) rfl rfl Try.func61 (by kernel_rfl) rfl #[.int .i64 t4] rfl (by (try simp only [List.map_toArray, List.map_cons, List.map_nil]);first|done|rfl|(simp only [List.length_drop, List.length_take];rfl)) ?_;(with_reducible refine (law1_Num.calls t4 t12 _ A3.out).mono ?_);rintro e w' ⟨rfl, ⟨nd, rfl⟩⟩;refine ⟨_, rfl, ?_⟩)|(go_at_call 61;(with_reducible refine (law1_Num.calls t11 t13 _ A5.out).mono ?_);rintro e w' ⟨rfl, ⟨nd, rfl⟩⟩;obtain ⟨Ao27, co27, eo27⟩ := Kd.R_slice HO10.out;subst eo27))
    go_ret
    exact ⟨by first|rfl|(simp [errW_none, errW_some] <;> rfl)|(simp [*, errW_none, errW_some] <;> rfl), by repeat (first|(with_reducible first|exact HB.out|apply below_alloc|apply pw_below_drewN|apply below_drew1)|exact HB.out)⟩
  ·rw [if_neg c6] at H
   have c6b0 : (t13 == 0) = false := beq_eq_false_iff_ne.mpr c6
   have c6b1 : (t13 != 0) = true := bne_iff_ne.mpr c6
   obtain rfl := Option.some.inj H
   go_enter Try.func59, Try.ntmps59
   go_wp2_with (first|((with_reducible refine gate_callee (f := 60) rfl ?_);refine goesL_ (some 7) rfl rfl Try.func60 (by kernel_rfl) rfl #[.slice none 0 0, .string (⟨#[97]⟩ : ByteArray), .agg #[.int .i64 0, .int .i64 0, .int .i64 0]] rfl (by (try simp only [List.map_toArray, List.map_cons, List.map_nil]);first|done|rfl|(simp only [List.length_drop, List.length_take];rfl)) ?_;(refine (admit_Admit.calls k _ _ ([] : List (S31)) (⟨#[97]⟩ : ByteArray) 0 0 0 t1 t4 _ ?side1 ?side2 A1.out).mono ?_);(case side1 => exact Kd.C_nil _ _);(case side2 => exact Nat.le_refl _);rintro e w28 ⟨v2, rfl, ho0, hb⟩;refine ⟨_, rfl, ?_⟩;have n0_ := Aside0.mk (Kd.R_lower ho0 (below_size (by repeat (first|(with_reducible first|exact HB.out|apply below_alloc|apply pw_below_drewN|apply below_drew1)|exact HB.out))));have n1_ := Aside0.mk (below_step (by repeat (first|(with_reducible first|exact HB.out|apply below_alloc|apply pw_below_drewN|apply below_drew1)|exact HB.out)) hb);clear HB;have HO3 := n0_;have HB := n1_;clear n0_ n1_;(try clear hb);(try clear hb2);(try clear hk);(try clear hi);(try clear ho0))|((with_reducible refine gate_dst (N := 13) rfl ?_);(try (refine gate_guard (by rfl) ?_;dsimp only));refine Kd.R_lit k31 _ 31 ?hg (N := 13) ?hd (xs := ([(⟨(⟨#[97]⟩ : ByteArray), (⟨#[]⟩ : ByteArray), (⟨5, 0, 0⟩ : S27), (⟨0, 0, 0⟩ : S27), (⟨0, 0, 0⟩ : S27), 1⟩ : S31)] : List (S31))) (inner := [.string (⟨#[97]⟩ : ByteArray), .string (⟨#[]⟩ : ByteArray), .int .i64 5, .int .i64 0, .int .i64 0, .int .i64 0, .int .i64 0, .int .i64 0, .int .i64 0, .int .i64 0, .int .i64 0, .int .i64 1]) (ok := fun _ => True) (okp := fun _ => True) ?hr ?hp (fun _ hk => hk) trivial (Below.refl _ _) (Nat.le_refl _) (by simp) ?_;(case hd => rfl);(case hg => rfl);(case hr => first|(go_simp;done)|(go_simp;rfl));(case hp => exact (Reps.front (show Kd.M k31 _ _ _ (⟨(⟨#[97]⟩ : ByteArray), (⟨#[]⟩ : ByteArray), (⟨5, 0, 0⟩ : S27), (⟨0, 0, 0⟩ : S27), (⟨0, 0, 0⟩ : S27), 1⟩ : S31) [.string (⟨#[97]⟩ : ByteArray), .string (⟨#[]⟩ : ByteArray), .int .i64 5, .int .i64 0, .int .i64 0, .int .i64 0, .int .i64 0, .int .i64 0, .int .i64 0, .int .i64 0, .int .i64 0, .int .i64 1] from (k31_mkM _ _ _ (⟨(⟨#[97]⟩ : ByteArray), (⟨#[]⟩ : ByteArray), (⟨5, 0, 0⟩ : S27), (⟨0, 0, 0⟩ : S27), (⟨0, 0, 0⟩ : S27), 1⟩ : S31) )) rfl (Reps.none _ _) rfl));intro v6 w29 ho30 hb hg_ hnew_;clear hg_ hnew_;(first|rw [← Ny5.out] at ho30|(simp only [Int.reduceToNat] at ho30;rw [← Ny5.out] at ho30));have n0_ := Aside0.mk (Kd.R_elder' (by (with_reducible repeat (first|apply Kd.R_alloc|apply Kd.R_drewN|apply Kd.R_drew));exact HO3.out) (Kd.R_base ho30) hb);have n1_ := Aside0.mk (Kd.R_lower (Kd.R_new' ho30 (Kd.R_lt (by (with_reducible repeat (first|apply Kd.R_alloc|apply Kd.R_drewN|apply Kd.R_drew));exact HO3.out))) (below_size (by repeat (first|(with_reducible first|exact HB.out|apply below_alloc|apply pw_below_drewN|apply below_drew1)|exact HB.out))));have n2_ := Aside0.mk (below_step (by repeat (first|(with_reducible first|exact HB.out|apply below_alloc|apply pw_below_drewN|apply below_drew1)|exact HB.out)) hb);clear HO3;clear HB;have HO3 := n0_;have HO7 := n1_;have HB := n2_;clear n0_ n1_ n2_;clear hb ho30;obtain ⟨Ao31, co31, eo31⟩ := Kd.R_slice HO7.out;subst eo31)|((with_reducible refine gate_callee (f := 60) rfl ?_);refine goesL_ (some 15) rfl rfl Try.func60 (by kernel_rfl) rfl #[.slice Ao31 y5.length co31, .string (⟨#[97]⟩ : ByteArray), .agg #[.int .i64 3, .int .i64 0, .int .i64 0]] rfl (by (try simp only [List.map_toArray, List.map_cons, List.map_nil]);first|done|rfl|(simp only [List.length_drop, List.length_take];rfl)) ?_;(with_reducible refine (admit_Admit.calls k _ _ y5 (⟨#[97]⟩ : ByteArray) 3 0 0 t8 t11 _ ?side1 ?side2 A2.out).mono ?_);(case side1 => repeat (first|exact (Kd.R_reads' HO7.out).2.2|(with_reducible refine Kd.C_alloc ?_ _)|(with_reducible refine Kd.C_drewN ?_ _)|(with_reducible refine Kd.C_drew ?_)));(case side2 => exact (Kd.R_reads' HO7.out).2.1);rintro e w32 ⟨v9, rfl, ho0, hb⟩;refine ⟨_, rfl, ?_⟩;have n0_ := Aside0.mk (Kd.R_elder' (by (with_reducible repeat (first|apply Kd.R_alloc|apply Kd.R_drewN|apply Kd.R_drew));exact HO3.out) (Kd.R_base ho0) hb);have n1_ := Aside0.mk (Kd.R_elder' (by (with_reducible repeat (first|apply Kd.R_alloc|apply Kd.R_drewN|apply Kd.R_drew));exact HO7.out) (Kd.R_base ho0) hb);have n2_ := Aside0.mk (Kd.R_lower (Kd.R_new' (Kd.R_new' ho0 (Kd.R_lt (by (with_reducible repeat (first|apply Kd.R_alloc|apply Kd.R_drewN|apply Kd.R_drew));exact HO3.out))) (Kd.R_lt (by (with_reducible repeat (first|apply Kd.R_alloc|apply Kd.R_drewN|apply Kd.R_drew));exact HO7.out))) (below_size (by repeat (first|(with_reducible first|exact HB.out|apply below_alloc|apply pw_below_drewN|apply below_drew1)|exact HB.out))));have n3_ := Aside0.mk (below_step (by repeat (first|(with_reducible first|exact HB.out|apply below_alloc|apply pw_below_drewN|apply below_drew1)|exact HB.out)) hb);clear HO3;clear HO7;clear HB;have HO3 := n0_;have HO7 := n1_;have HO10 := n2_;have HB := n3_;clear n0_ n1_ n2_ n3_;(try clear hb);(try clear hb2);(try clear hk);(try clear hi);(try clear ho0))|((with_reducible refine gate_callee (f := 61) rfl ?_);refine goesL_ (some 19) rfl rfl Try.func61 (by kernel_rfl) rfl #[.int .i64 t4] rfl (by (try simp only [List.map_toArray, List.map_cons, List.map_nil]);first|done|rfl|(simp only [List.length_drop, List.length_take];rfl)) ?_;(with_reducible refine (law1_Num.calls t4 t12 _ A3.out).mono ?_);rintro e w' ⟨rfl, ⟨nd, rfl⟩⟩;refine ⟨_, rfl, ?_⟩)|(go_at_call 61;(with_reducible refine (law1_Num.calls t11 t13 _ A5.out).mono ?_);rintro e w' ⟨rfl, ⟨nd, rfl⟩⟩))
   go_ret
   exact ⟨by first|rfl|(simp [errW_none, errW_some] <;> rfl)|(simp [*, errW_none, errW_some] <;> rfl), by repeat (first|(with_reducible first|exact HB.out|apply below_alloc|apply pw_below_drewN|apply below_drew1)|exact HB.out)⟩
 ·rw [if_neg c4] at H
  have c4b0 : (t12 == 2) = false := beq_eq_false_iff_ne.mpr c4
  have c4b1 : (t12 != 2) = true := bne_iff_ne.mpr c4
  obtain rfl := Option.some.inj H
  go_enter Try.func59, Try.ntmps59
  go_wp2_with (first|((with_reducible refine gate_callee (f := 60) rfl ?_);refine goesL_ (some 7) rfl rfl Try.func60 (by kernel_rfl) rfl #[.slice none 0 0, .string (⟨#[97]⟩ : ByteArray), .agg #[.int .i64 0, .int .i64 0, .int .i64 0]] rfl (by (try simp only [List.map_toArray, List.map_cons, List.map_nil]);first|done|rfl|(simp only [List.length_drop, List.length_take];rfl)) ?_;(refine (admit_Admit.calls k _ _ ([] : List (S31)) (⟨#[97]⟩ : ByteArray) 0 0 0 t1 t4 _ ?side1 ?side2 A1.out).mono ?_);(case side1 => exact Kd.C_nil _ _);(case side2 => exact Nat.le_refl _);rintro e w33 ⟨v2, rfl, ho0, hb⟩;refine ⟨_, rfl, ?_⟩;have n0_ := Aside0.mk (Kd.R_lower ho0 (below_size (by repeat (first|(with_reducible first|exact HB.out|apply below_alloc|apply pw_below_drewN|apply below_drew1)|exact HB.out))));have n1_ := Aside0.mk (below_step (by repeat (first|(with_reducible first|exact HB.out|apply below_alloc|apply pw_below_drewN|apply below_drew1)|exact HB.out)) hb);clear HB;have HO3 := n0_;have HB := n1_;clear n0_ n1_;(try clear hb);(try clear hb2);(try clear hk);(try clear hi);(try clear ho0))|((with_reducible refine gate_dst (N := 13) rfl ?_);(try (refine gate_guard (by rfl) ?_;dsimp only));refine Kd.R_lit k31 _ 31 ?hg (N := 13) ?hd (xs := ([(⟨(⟨#[97]⟩ : ByteArray), (⟨#[]⟩ : ByteArray), (⟨5, 0, 0⟩ : S27), (⟨0, 0, 0⟩ : S27), (⟨0, 0, 0⟩ : S27), 1⟩ : S31)] : List (S31))) (inner := [.string (⟨#[97]⟩ : ByteArray), .string (⟨#[]⟩ : ByteArray), .int .i64 5, .int .i64 0, .int .i64 0, .int .i64 0, .int .i64 0, .int .i64 0, .int .i64 0, .int .i64 0, .int .i64 0, .int .i64 1]) (ok := fun _ => True) (okp := fun _ => True) ?hr ?hp (fun _ hk => hk) trivial (Below.refl _ _) (Nat.le_refl _) (by simp) ?_;(case hd => rfl);(case hg => rfl);(case hr => first|(go_simp;done)|(go_simp;rfl));(case hp => exact (Reps.front (show Kd.M k31 _ _ _ (⟨(⟨#[97]⟩ : ByteArray), (⟨#[]⟩ : ByteArray), (⟨5, 0, 0⟩ : S27), (⟨0, 0, 0⟩ : S27), (⟨0, 0, 0⟩ : S27), 1⟩ : S31) [.string (⟨#[97]⟩ : ByteArray), .string (⟨#[]⟩ : ByteArray), .int .i64 5, .int .i64 0, .int .i64 0, .int .i64 0, .int .i64 0, .int .i64 0, .int .i64 0, .int .i64 0, .int .i64 0, .int .i64 1] from (k31_mkM _ _ _ (⟨(⟨#[97]⟩ : ByteArray), (⟨#[]⟩ : ByteArray), (⟨5, 0, 0⟩ : S27), (⟨0, 0, 0⟩ : S27), (⟨0, 0, 0⟩ : S27), 1⟩ : S31) )) rfl (Reps.none _ _) rfl));intro v6 w34 ho35 hb hg_ hnew_;clear hg_ hnew_;(first|rw [← Ny5.out] at ho35|(simp only [Int.reduceToNat] at ho35;rw [← Ny5.out] at ho35));have n0_ := Aside0.mk (Kd.R_elder' (by (with_reducible repeat (first|apply Kd.R_alloc|apply Kd.R_drewN|apply Kd.R_drew));exact HO3.out) (Kd.R_base ho35) hb);have n1_ := Aside0.mk (Kd.R_lower (Kd.R_new' ho35 (Kd.R_lt (by (with_reducible repeat (first|apply Kd.R_alloc|apply Kd.R_drewN|apply Kd.R_drew));exact HO3.out))) (below_size (by repeat (first|(with_reducible first|exact HB.out|apply below_alloc|apply pw_below_drewN|apply below_drew1)|exact HB.out))));have n2_ := Aside0.mk (below_step (by repeat (first|(with_reducible first|exact HB.out|apply below_alloc|apply pw_below_drewN|apply below_drew1)|exact HB.out)) hb);clear HO3;clear HB;have HO3 := n0_;have HO7 := n1_;have HB := n2_;clear n0_ n1_ n2_;clear hb ho35;obtain ⟨Ao36, co36, eo36⟩ := Kd.R_slice HO7.out;subst eo36)|((with_reducible refine gate_callee (f := 60) rfl ?_);refine goesL_ (some 15) rfl rfl Try.func60 (by kernel_rfl) rfl #[.slice Ao36 y5.length co36, .string (⟨#[97]⟩ : ByteArray), .agg #[.int .i64 3, .int .i64 0, .int .i64 0]] rfl (by (try simp only [List.map_toArray, List.map_cons, List.map_nil]);first|done|rfl|(simp only [List.length_drop, List.length_take];rfl)) ?_;(with_reducible refine (admit_Admit.calls k _ _ y5 (⟨#[97]⟩ : ByteArray) 3 0 0 t8 t11 _ ?side1 ?side2 A2.out).mono ?_);(case side1 => repeat (first|exact (Kd.R_reads' HO7.out).2.2|(with_reducible refine Kd.C_alloc ?_ _)|(with_reducible refine Kd.C_drewN ?_ _)|(with_reducible refine Kd.C_drew ?_)));(case side2 => exact (Kd.R_reads' HO7.out).2.1);rintro e w37 ⟨v9, rfl, ho0, hb⟩;refine ⟨_, rfl, ?_⟩;have n0_ := Aside0.mk (Kd.R_elder' (by (with_reducible repeat (first|apply Kd.R_alloc|apply Kd.R_drewN|apply Kd.R_drew));exact HO3.out) (Kd.R_base ho0) hb);have n1_ := Aside0.mk (Kd.R_elder' (by (with_reducible repeat (first|apply Kd.R_alloc|apply Kd.R_drewN|apply Kd.R_drew));exact HO7.out) (Kd.R_base ho0) hb);have n2_ := Aside0.mk (Kd.R_lower (Kd.R_new' (Kd.R_new' ho0 (Kd.R_lt (by (with_reducible repeat (first|apply Kd.R_alloc|apply Kd.R_drewN|apply Kd.R_drew));exact HO3.out))) (Kd.R_lt (by (with_reducible repeat (first|apply Kd.R_alloc|apply Kd.R_drewN|apply Kd.R_drew));exact HO7.out))) (below_size (by repeat (first|(with_reducible first|exact HB.out|apply below_alloc|apply pw_below_drewN|apply below_drew1)|exact HB.out))));have n3_ := Aside0.mk (below_step (by repeat (first|(with_reducible first|exact HB.out|apply below_alloc|apply pw_below_drewN|apply below_drew1)|exact HB.out)) hb);clear HO3;clear HO7;clear HB;have HO3 := n0_;have HO7 := n1_;have HO10 := n2_;have HB := n3_;clear n0_ n1_ n2_ n3_;(try clear hb);(try clear hb2);(try clear hk);(try clear hi);(try clear ho0))|((with_reducible refine gate_callee (f := 61) rfl ?_);refine goesL_ (some 19) rfl rfl Try.func61 (by kernel_rfl) rfl #[.int .i64 t4] rfl (by (try simp only [List.map_toArray, List.map_cons, List.map_nil]);first|done|rfl|(simp only [List.length_drop, List.length_take];rfl)) ?_;(with_reducible refine (law1_Num.calls t4 t12 _ A3.out).mono ?_);rintro e w' ⟨rfl, ⟨nd, rfl⟩⟩;refine ⟨_, rfl, ?_⟩))
  go_ret
  exact ⟨by first|rfl|(simp [errW_none, errW_some] <;> rfl)|(simp [*, errW_none, errW_some] <;> rfl), by repeat (first|(with_reducible first|exact HB.out|apply below_alloc|apply pw_below_drewN|apply below_drew1)|exact HB.out)⟩
end Go.Proofs.Ytcgefpklljclgaa.Print

namespace Go.Proofs.Ytcgefpklljclgaa.Print
open Go.RowKit Go.Proofs.YtcgefpklljclgaaW.PrintWords Go.Proofs.YtcgefpklljclgaaW.PrintLast Go.Proofs.YtcgefpklljclgaaW.PrintMore
attribute [local go_sem] max2_int min2_int max_two min_two max_three min_three max_four min_four   -- for this text's walks alone
set_option linter.unusedVariables false
set_option linter.unusedSimpArgs false
mutual
def law12_Great.l0 : Nat → List (S31) → Int → Option (Bool)
 | 0, _, _ => none
 | k + 1, x0, x3 => if x3 < (x0.length : Int) then (law12_Great.j1 k x0 x3 (decide (x3 < 150))) else (law12_Great.j1 k x0 x3 false)
def law12_Great.j1 : Nat → List (S31) → Int → Bool → Option (Bool)
 | 0, _, _, _ => none
 | k + 1, x0, x3, x11 => if x11 = true then (if 0 ≤ x3 then (if x3 < (x0.length : Int) then (if (((rd_T31 x0 x3).f0).size : Int) > 100 then (some true) else (if (((rd_T31 x0 x3).f1).size : Int) > 100 then (some true) else (law12_Great.l0 k x0 (wrap64 (x3 + 1))))) else (none)) else (none)) else (some (decide ((x0.length : Int) > 130)))
end
def law12_Great.f (k : Nat) (l0 : List (S31)) : Option (Bool) := law12_Great.l0 k l0 0
theorem law12_Great.mono_l : ∀ k, (∀ y0 y1, LeO (law12_Great.l0 k y0 y1) (law12_Great.l0 (k + 1) y0 y1)) ∧ (∀ y0 y1 y2, LeO (law12_Great.j1 k y0 y1 y2) (law12_Great.j1 (k + 1) y0 y1 y2))
 | 0 => ⟨fun _ _ r h => by simp [law12_Great.l0] at h, fun _ _ _ r h => by simp [law12_Great.j1] at h⟩
 | k + 1 => by
  obtain ⟨ih0, ih1⟩ := law12_Great.mono_l k
  refine ⟨?_, ?_⟩
  ·intro y0 y1
   unfold law12_Great.l0
   repeat' first
   | (with_reducible exact ih0 _ _)
   | (with_reducible exact ih1 _ _ _)
   | (with_reducible exact LeO.refl _)
   | (with_reducible exact LeO.none _)
   | (with_reducible refine LeO.ite ?_ ?_)
   | (with_reducible refine LeO.bind ?_ (fun _ => ?_))
   | exact ih0 _ _
   | exact ih1 _ _ _
   | exact LeO.none _
   | refine LeO.ite ?_ ?_
   | refine LeO.bind ?_ (fun _ => ?_)
  ·intro y0 y1 y2
   unfold law12_Great.j1
   repeat' first
   | (with_reducible exact ih0 _ _)
   | (with_reducible exact ih1 _ _ _)
   | (with_reducible exact LeO.refl _)
   | (with_reducible exact LeO.none _)
   | (with_reducible refine LeO.ite ?_ ?_)
   | (with_reducible refine LeO.bind ?_ (fun _ => ?_))
   | exact ih0 _ _
   | exact ih1 _ _ _
   | exact LeO.none _
   | refine LeO.ite ?_ ?_
   | refine LeO.bind ?_ (fun _ => ?_)
theorem law12_Great.mono : ∀ a0 k, LeO (law12_Great.f k a0) (law12_Great.f (k + 1) a0) := by
 intro a0 k
 obtain ⟨ih0, ih1⟩ := law12_Great.mono_l k
 unfold law12_Great.f
 repeat' first
   | (with_reducible exact ih0 _ _)
   | (with_reducible exact ih1 _ _ _)
   | (with_reducible exact LeO.refl _)
   | (with_reducible exact LeO.none _)
   | (with_reducible refine LeO.ite ?_ ?_)
   | (with_reducible refine LeO.bind ?_ (fun _ => ?_))
   | exact ih0 _ _
   | exact ih1 _ _ _
   | exact LeO.none _
   | refine LeO.ite ?_ ?_
   | refine LeO.bind ?_ (fun _ => ?_)
set_option maxHeartbeats 8000000 in
set_option maxRecDepth 100000 in
theorem law12_Great.calls (k : Nat) (A0 : Option Addr) (c0 : Nat) (l0 : List (S31)) (r : Bool) (w : World) (hr0 : Kd.C k31 w A0 l0.length l0) (hc0 : l0.length ≤ c0) (h : law12_Great.f k l0 = some r) :
  Calls Try.prog 36 #[.slice A0 l0.length c0] w fun e w' => e = .returned (.bool r) ∧ Drawn0 w w' := by
 have HR0 := Aside0.mk hr0
 have HC0 := Aside0.mk hc0
 clear hr0 hc0
 have H : (law12_Great.l0 k l0 0) = some r := h
 clear h
 have H' := Aside0.mk H
 clear H
 go_enter Try.func36, Try.ntmps36
 go_wp2
 go_loopg [3] k (fun kq v3 w' => ∃ (x3_1 : Int), v3 = .int .i64 x3_1 ∧ Aside0 (law12_Great.l0 kq l0 x3_1 = some r) ∧ Aside0 (kq ≤ k) ∧ Drawn0 w w')
 case atStart => exact ⟨(0), (by first | rfl | (simp; done) | (simp [*]; done)), H', ⟨Nat.le_refl _⟩, by repeat (first | exact Drawn0.refl _ | apply Drawn0.step)⟩
 case round =>
  clear H'
  obtain ⟨x3_1, rfl, HA, HK1, ⟨m1, rfl⟩⟩ := hrel
  cases gk with
  | zero => exact absurd HA.out (by simp [law12_Great.l0])
  | succ k1 =>
   have H := HA.out
   clear HA
   simp only [law12_Great.l0] at H
   have HC2 := Aside0.mk H
   clear H
   go_upto_region 2 with (fail)
   go_cut [11] (fun v11 wc => ∃ (kq : Nat) (x11_1 : Bool), v11 = .bool x11_1 ∧ Aside0 (law12_Great.j1 kq l0 x3_1 x11_1 = some r) ∧ Aside0 (kq ≤ k1) ∧ Drawn0 w wc)
   case first =>
    have H := HC2.out
    clear HC2
    by_cases c3 : x3_1 < (l0.length : Int)
    ·rw [if_pos c3] at H
     have c3b0 : decide (x3_1 < (l0.length : Int)) = true := decide_eq_true c3
     clear c3
     (first | rw [c3b0] | (simp only [i64_w, i32_w]; rw [c3b0]) | skip)
     have H' := Aside0.mk H
     clear H
     go_wp2
     go_meet
     case rel => exact ⟨_, (decide (x3_1 < 150)), (by first|rfl|(simp;done)|(simp [*];done)), H', ⟨by have := HK1.out;first|omega|exact Nat.le_refl _⟩, by repeat (first|exact Drawn0.refl _|apply Drawn0.step)⟩
    ·rw [if_neg c3] at H
     have c3b0 : decide (x3_1 < (l0.length : Int)) = false := decide_eq_false c3
     clear c3
     (first | rw [c3b0] | (simp only [i64_w, i32_w]; rw [c3b0]) | skip)
     have H' := Aside0.mk H
     clear H
     go_wp2
     go_meet
     case rel => exact ⟨_, (false), (by first|rfl|(simp;done)|(simp [*];done)), H', ⟨by have := HK1.out;first|omega|exact Nat.le_refl _⟩, by repeat (first|exact Drawn0.refl _|apply Drawn0.step)⟩
   case rest =>
    clear HC2
    try clear p2
    try clear c3
    try clear c3b0
    obtain ⟨kq, x11_1, rfl, HA, HJ1, ⟨mc1, rfl⟩⟩ := hcut
    cases kq with
    | zero => exact absurd HA.out (by simp [law12_Great.j1])
    | succ kj1 =>
     have H := HA.out
     clear HA
     simp only [law12_Great.j1] at H
     by_cases c4 : x11_1 = true
     ·subst c4
      have H1 : (if 0 ≤ x3_1 then (if x3_1 < (l0.length : Int) then (if (((rd_T31 l0 x3_1).f0).size : Int) > 100 then (some true) else (if (((rd_T31 l0 x3_1).f1).size : Int) > 100 then (some true) else (law12_Great.l0 kj1 l0 (wrap64 (x3_1 + 1))))) else (none)) else (none)) = some r := by rw [if_pos rfl] at H; exact H
      clear H
      have H := H1
      clear H1
      by_cases c5 : 0 ≤ x3_1
      ·rw [if_pos c5] at H
       have c5b0 : decide (0 ≤ x3_1) = true := decide_eq_true c5
       clear c5
       by_cases c6 : x3_1 < (l0.length : Int)
       ·rw [if_pos c6] at H
        have c6b0 : decide (x3_1 < (l0.length : Int)) = true := decide_eq_true c6
        clear c6
        by_cases c7 : (((rd_T31 l0 x3_1).f0).size : Int) > 100
        ·rw [if_pos c7] at H
         have c7b0 : decide (100 < (((rd_T31 l0 x3_1).f0).size : Int)) = true := decide_eq_true c7
         have c7b1 : decide (100 < ((rd_T31 l0 x3_1).f0).size) = true := decide_eq_true (by omega)
         clear c7
         obtain rfl := Option.some.inj H
         have p1 : 0 ≤ (x3_1 : Int) := of_decide_eq_true (by first|(with_reducible assumption)|assumption)
         have q1 : x3_1 < (l0.length : Int) := of_decide_eq_true (by first|(with_reducible assumption)|assumption)
         obtain ⟨ad1, e1, hx1_0, hx1_1, hx1_2, hx1_3, hx1_4, hx1_5, hx1_6, hx1_7, hx1_8, hx1_9, hx1_10, hx1_11⟩ := at_T31 HR0.out x3_1 p1 q1
         cases e1
         replace p1 := eq_true p1
         replace q1 := eq_true q1
         go_wp2
         go_ret
         exact ⟨by first | rfl | (simp; done) | (simp [*]; done), by repeat (first | exact Drawn0.refl _ | apply Drawn0.step)⟩
        ·rw [if_neg c7] at H
         have c7b0 : decide (100 < (((rd_T31 l0 x3_1).f0).size : Int)) = false := decide_eq_false c7
         have c7b1 : decide (100 < ((rd_T31 l0 x3_1).f0).size) = false := decide_eq_false (by omega)
         clear c7
         by_cases c8 : (((rd_T31 l0 x3_1).f1).size : Int) > 100
         ·rw [if_pos c8] at H
          have c8b0 : decide (100 < (((rd_T31 l0 x3_1).f1).size : Int)) = true := decide_eq_true c8
          have c8b1 : decide (100 < ((rd_T31 l0 x3_1).f1).size) = true := decide_eq_true (by omega)
          clear c8
          obtain rfl := Option.some.inj H
          have p1 : 0 ≤ (x3_1 : Int) := of_decide_eq_true (by first|(with_reducible assumption)|assumption)
          have q1 : x3_1 < (l0.length : Int) := of_decide_eq_true (by first|(with_reducible assumption)|assumption)
          obtain ⟨ad1, e1, hx1_0, hx1_1, hx1_2, hx1_3, hx1_4, hx1_5, hx1_6, hx1_7, hx1_8, hx1_9, hx1_10, hx1_11⟩ := at_T31 HR0.out x3_1 p1 q1
          cases e1
          replace p1 := eq_true p1
          replace q1 := eq_true q1
          have p2 : 0 ≤ (x3_1 : Int) := of_decide_eq_true (by first|(with_reducible assumption)|assumption)
          have q2 : x3_1 < (l0.length : Int) := of_decide_eq_true (by first|(with_reducible assumption)|assumption)
          obtain ⟨ad2, e2, hx2_0, hx2_1, hx2_2, hx2_3, hx2_4, hx2_5, hx2_6, hx2_7, hx2_8, hx2_9, hx2_10, hx2_11⟩ := at_T31 HR0.out x3_1 p2 q2
          obtain rfl : ad1 = ad2 := (by injection e2)
          replace p2 := eq_true p2
          replace q2 := eq_true q2
          go_wp2
          go_ret
          exact ⟨by first | rfl | (simp; done) | (simp [*]; done), by repeat (first | exact Drawn0.refl _ | apply Drawn0.step)⟩
         ·rw [if_neg c8] at H
          have c8b0 : decide (100 < (((rd_T31 l0 x3_1).f1).size : Int)) = false := decide_eq_false c8
          have c8b1 : decide (100 < ((rd_T31 l0 x3_1).f1).size) = false := decide_eq_false (by omega)
          clear c8
          have H' := Aside0.mk H
          clear H
          have p1 : 0 ≤ (x3_1 : Int) := of_decide_eq_true (by first|(with_reducible assumption)|assumption)
          have q1 : x3_1 < (l0.length : Int) := of_decide_eq_true (by first|(with_reducible assumption)|assumption)
          obtain ⟨ad1, e1, hx1_0, hx1_1, hx1_2, hx1_3, hx1_4, hx1_5, hx1_6, hx1_7, hx1_8, hx1_9, hx1_10, hx1_11⟩ := at_T31 HR0.out x3_1 p1 q1
          cases e1
          replace p1 := eq_true p1
          replace q1 := eq_true q1
          have p2 : 0 ≤ (x3_1 : Int) := of_decide_eq_true (by first|(with_reducible assumption)|assumption)
          have q2 : x3_1 < (l0.length : Int) := of_decide_eq_true (by first|(with_reducible assumption)|assumption)
          obtain ⟨ad2, e2, hx2_0, hx2_1, hx2_2, hx2_3, hx2_4, hx2_5, hx2_6, hx2_7, hx2_8, hx2_9, hx2_10, hx2_11⟩ := at_T31 HR0.out x3_1 p2 q2
          obtain rfl : ad1 = ad2 := (by injection e2)
          replace p2 := eq_true p2
          replace q2 := eq_true q2
          go_wp2
          go_roundg kj1
          case measure => have := HK1.out; have := HJ1.out; omega
          case rel => exact ⟨(wrap64 (x3_1 + 1)), (by first|rfl|(simp;done)|(simp [*];done)), H', ⟨by have := HK1.out;have := HJ1.out;omega⟩, by repeat (first|exact Drawn0.refl _|apply Drawn0.step)⟩
       ·rw [if_neg c6] at H
        exact absurd H (by simp)
      ·rw [if_neg c5] at H
       exact absurd H (by simp)
     ·replace c4 := Bool.eq_false_iff.mpr c4
      subst c4
      have H1 : (some (decide ((l0.length : Int) > 130))) = some r := by rw [if_neg (show ¬ (false = true) by decide)] at H; exact H
      clear H
      have H := H1
      clear H1
      obtain rfl := Option.some.inj H
      go_wp2
      go_ret
      exact ⟨by first | rfl | (simp; done) | (simp [*]; done), by repeat (first | exact Drawn0.refl _ | apply Drawn0.step)⟩
end Go.Proofs.Ytcgefpklljclgaa.Print
