/- A part of the proof of RoomAll: the machine's side by the kit's print, contracts and lemmas by this session. -/
import Derived.Laws.Strings
import Derived.Deep.Slices
import Derived.Deep.Fields
import Derived.ChangeSame
import Derived.Test.YtcgefpklljclgaaBRoomAll1
import Derived.Test.YtcgefpklljclgaaBRoomAll2
import Derived.Test.YtcgefpklljclgaaBRoomAll3
namespace Go.Proofs.Ytcgefpklljclgaa.Print
open Go.RowKit Go.Proofs.YtcgefpklljclgaaW.PrintWords Go.Proofs.YtcgefpklljclgaaW.PrintLast Go.Proofs.YtcgefpklljclgaaW.PrintMore
attribute [local go_sem] max2_int min2_int max_two min_two max_three min_three max_four min_four   -- for this text's walks alone
set_option linter.unusedVariables false
set_option linter.unusedSimpArgs false
mutual
def r10_Share.l0 : Nat → List (S31) → List ByteArray → Int → Int → Int → Int → Option (Int × Int × Int)
 | 0, _, _, _, _, _, _ => none
 | k + 1, x0, x1, x6, x3000, x3001, x3002 => if x6 < (x0.length : Int) then (if 0 ≤ x6 then ((r10_in.f k x1 ((rd_T31 x0 x6).f0)).bind fun t4 => (if t4 = true then ((r10_Up.f k x0 ((rd_T31 x0 x6).f0)).bind fun t6 => (r10_Share.l1 k x0 x1 x6 t6 false 1 x3000 x3001 x3002)) else (r10_Share.l0 k x0 x1 (wrap64 (x6 + 1)) x3000 x3001 x3002))) else (none)) else (some (x3000, x3001, x3002))
def r10_Share.l1 : Nat → List (S31) → List ByteArray → Int → List ByteArray → Bool → Int → Int → Int → Int → Option (Int × Int × Int)
 | 0, _, _, _, _, _, _, _, _, _ => none
 | k + 1, x0, x1, x6, x7, x8, x9, x3000, x3001, x3002 => if x9 < (x7.length : Int) then (if x8 = true then (r10_Share.l1 k x0 x1 x6 x7 true (wrap64 (x9 + 1)) x3000 x3001 x3002) else (if 0 ≤ x9 then ((r10_in.f k x1 (rdOf ByteArray.empty x7 x9)).bind fun t10 => (r10_Share.l1 k x0 x1 x6 x7 t10 (wrap64 (x9 + 1)) x3000 x3001 x3002)) else (none))) else (if x8 = true then (r10_Share.l0 k x0 x1 (wrap64 (x6 + 1)) x3000 x3001 x3002) else (if 0 ≤ x6 then (if x6 < (x0.length : Int) then ((r10_Add.f x3000 x3001 x3002 ((rd_T31 x0 x6).f4.f0) ((rd_T31 x0 x6).f4.f1) ((rd_T31 x0 x6).f4.f2)).bind fun bt12 => (r10_Share.l0 k x0 x1 (wrap64 (x6 + 1)) bt12.1 bt12.2.1 bt12.2.2)) else (none)) else (none)))
end
def r10_Share.f (k : Nat) (l0 : List (S31)) (l1 : List ByteArray) : Option (Int × Int × Int) := r10_Share.l0 k l0 l1 0 0 0 0
theorem r10_Share.mono_l : ∀ k, (∀ y0 y1 y2 y3 y4 y5, LeO (r10_Share.l0 k y0 y1 y2 y3 y4 y5) (r10_Share.l0 (k + 1) y0 y1 y2 y3 y4 y5)) ∧ (∀ y0 y1 y2 y3 y4 y5 y6 y7 y8, LeO (r10_Share.l1 k y0 y1 y2 y3 y4 y5 y6 y7 y8) (r10_Share.l1 (k + 1) y0 y1 y2 y3 y4 y5 y6 y7 y8))
 | 0 => ⟨fun _ _ _ _ _ _ r h => by simp [r10_Share.l0] at h, fun _ _ _ _ _ _ _ _ _ r h => by simp [r10_Share.l1] at h⟩
 | k + 1 => by
  obtain ⟨ih0, ih1⟩ := r10_Share.mono_l k
  refine ⟨?_, ?_⟩
  ·intro y0 y1 y2 y3 y4 y5
   unfold r10_Share.l0
   repeat' first
   | (with_reducible exact ih0 _ _ _ _ _ _)
   | (with_reducible exact ih1 _ _ _ _ _ _ _ _ _)
   | (with_reducible exact r10_Up.mono _ _ _)
   | (with_reducible exact r10_in.mono _ _ _)
   | (with_reducible exact LeO.refl _)
   | (with_reducible exact LeO.none _)
   | (with_reducible refine LeO.ite ?_ ?_)
   | (with_reducible refine LeO.bind ?_ (fun _ => ?_))
   | exact ih0 _ _ _ _ _ _
   | exact ih1 _ _ _ _ _ _ _ _ _
   | exact r10_Up.mono _ _ _
   | exact r10_in.mono _ _ _
   | exact LeO.none _
   | refine LeO.ite ?_ ?_
   | refine LeO.bind ?_ (fun _ => ?_)
  ·intro y0 y1 y2 y3 y4 y5 y6 y7 y8
   unfold r10_Share.l1
   repeat' first
   | (with_reducible exact ih0 _ _ _ _ _ _)
   | (with_reducible exact ih1 _ _ _ _ _ _ _ _ _)
   | (with_reducible exact r10_Up.mono _ _ _)
   | (with_reducible exact r10_in.mono _ _ _)
   | (with_reducible exact LeO.refl _)
   | (with_reducible exact LeO.none _)
   | (with_reducible refine LeO.ite ?_ ?_)
   | (with_reducible refine LeO.bind ?_ (fun _ => ?_))
   | exact ih0 _ _ _ _ _ _
   | exact ih1 _ _ _ _ _ _ _ _ _
   | exact r10_Up.mono _ _ _
   | exact r10_in.mono _ _ _
   | exact LeO.none _
   | refine LeO.ite ?_ ?_
   | refine LeO.bind ?_ (fun _ => ?_)
theorem r10_Share.mono : ∀ a0 a1 k, LeO (r10_Share.f k a0 a1) (r10_Share.f (k + 1) a0 a1) := by
 intro a0 a1 k
 obtain ⟨ih0, ih1⟩ := r10_Share.mono_l k
 unfold r10_Share.f
 repeat' first
   | (with_reducible exact ih0 _ _ _ _ _ _)
   | (with_reducible exact ih1 _ _ _ _ _ _ _ _ _)
   | (with_reducible exact r10_Up.mono _ _ _)
   | (with_reducible exact r10_in.mono _ _ _)
   | (with_reducible exact LeO.refl _)
   | (with_reducible exact LeO.none _)
   | (with_reducible refine LeO.ite ?_ ?_)
   | (with_reducible refine LeO.bind ?_ (fun _ => ?_))
   | exact ih0 _ _ _ _ _ _
   | exact ih1 _ _ _ _ _ _ _ _ _
   | exact r10_Up.mono _ _ _
   | exact r10_in.mono _ _ _
   | exact LeO.none _
   | refine LeO.ite ?_ ?_
   | refine LeO.bind ?_ (fun _ => ?_)
def r10_Share.T13 : Bool × List (List Nat × List Nat) := (true, [([], []), ([], []), ([], []), ([1, 2], [1, 2]), ([3], [3]), ([4], [4]), ([0, 5], [0, 5]), ([6, 6, 0, 1, 2, 3, 4, 5, 6], [6])])
def r10_Share.B13 : List Nat := [0, 0, 0, 6, 14, 30, 63, 127]
theorem r10_Share.tab13 : rtab .any (opsOf Try.f81 13) = r10_Share.T13 := by kernel_rfl
theorem r10_Share.bits13 : waitsOk r10_Share.T13.2 r10_Share.B13 = true := by kernel_rfl
set_option maxHeartbeats 8000000 in
set_option maxRecDepth 100000 in
theorem r10_Share.calls (k : Nat) (A0 : Option Addr) (c0 : Nat) (l0 : List (S31)) (A1 : Option Addr) (c1 : Nat) (l1 : List ByteArray) (r1 : Int) (r2 : Int) (r3 : Int) (w : World) (hr0 : Kd.C k31 w A0 l0.length l0) (hc0 : l0.length ≤ c0) (hr1 : Kd.C Kd.string w A1 l1.length l1) (hc1 : l1.length ≤ c1) (h : r10_Share.f k l0 l1 = some (r1, r2, r3)) :
  Calls Try.prog 81 #[.slice A0 l0.length c0, .slice A1 l1.length c1] w fun e w' => e = .returned (.agg #[.int .i64 r1, .int .i64 r2, .int .i64 r3]) ∧ Below w.heap.size w w' := by
 have hu27 := Try.underlying27
 have HR0 := Aside0.mk hr0
 have HC0 := Aside0.mk hc0
 clear hr0 hc0
 have HR1 := Aside0.mk hr1
 have HC1 := Aside0.mk hc1
 clear hr1 hc1
 have HB := Aside0.mk (Below.refl w.heap.size w)
 have H : (r10_Share.l0 k l0 l1 0 0 0 0) = some (r1, r2, r3) := h
 clear h
 have H' := Aside0.mk H
 clear H
 go_enter Try.func81, Try.ntmps81
 go_wp2_with (first|((with_reducible refine gate_dst (N := 4) rfl ?_);refine box_event ?hg (N := 4) ?hd (cs := #[.int .i64 0, .int .i64 0, .int .i64 0]) (t := 27) ?hr ?_;(case hd => rfl);(case hg => rfl);(case hr => first|(go_simp;done)|(go_simp;rfl));intro gb1 hg w3 hbox hb;have n0_ := Aside0.mk (below_step (by repeat (first|(with_reducible first|exact HB.out|apply below_alloc|apply pw_below_drewN|apply below_drew1)|exact HB.out)) hb);have n1_ := Aside0.mk (hbox);have n2_ := Aside0.mk ((by rw [hg];exact (below_size (by repeat (first|(with_reducible first|exact HB.out|apply below_alloc|apply pw_below_drewN|apply below_drew1)|exact HB.out))) : w.heap.size ≤ gb1));have n3_ := Aside0.mk ((by rw [hg];exact (below_size (by repeat (first|(with_reducible first|exact HB.out|apply below_alloc|apply pw_below_drewN|apply below_drew1)|exact HB.out))) : w.heap.size ≤ gb1));clear HB;have HB := n0_;have BK1 := n1_;have GW1 := n2_;have GE1 := n3_;clear n0_ n1_ n2_ n3_;clear hb hbox hg)|((with_reducible refine gate_dst (N := 5) rfl ?_);refine box_event ?hg (N := 5) ?hd (cs := #[.int .i64 0, .int .i64 0, .int .i64 0]) (t := 27) ?hr ?_;(case hd => rfl);(case hg => rfl);(case hr => first|(go_simp;done)|(go_simp;rfl));intro gb2 hg w4 hbox hb;have n0_ := Aside0.mk (blk_below (g := gb1) (o := .cells #[.int .i64 0, .int .i64 0, .int .i64 0] 27 (0, 0)) (by (with_reducible repeat (first|refine blk_drewN ?_ _|refine blk_drew ?_|refine blk_alloc ?_ _));exact BK1.out) hb);have n1_ := Aside0.mk (below_step (by repeat (first|(with_reducible first|exact HB.out|apply below_alloc|apply pw_below_drewN|apply below_drew1|refine below_set ?_ GE1.out)|exact HB.out)) hb);have n2_ := Aside0.mk (hbox);have n3_ := Aside0.mk ((by rw [hg];exact (below_size (by repeat (first|(with_reducible first|exact HB.out|apply below_alloc|apply pw_below_drewN|apply below_drew1|refine below_set ?_ GE1.out)|exact HB.out))) : w.heap.size ≤ gb2));have n4_ := Aside0.mk ((by rw [hg];exact (below_size (by repeat (first|(with_reducible first|exact HB.out|apply below_alloc|apply pw_below_drewN|apply below_drew1|refine below_set ?_ GE1.out)|exact HB.out))) : w.heap.size ≤ gb2));have n5_ := Aside0.mk ((by rw [hg];exact Nat.ne_of_lt (blk_lt (g := gb1) (o := .cells #[.int .i64 0, .int .i64 0, .int .i64 0] 27 (0, 0)) (by (with_reducible repeat (first|refine blk_drewN ?_ _|refine blk_drew ?_|refine blk_alloc ?_ _));exact BK1.out)) : gb1 ≠ gb2));have n6_ := Aside0.mk ((by rw [hg];exact Nat.ne_of_gt (blk_lt (g := gb1) (o := .cells #[.int .i64 0, .int .i64 0, .int .i64 0] 27 (0, 0)) (by (with_reducible repeat (first|refine blk_drewN ?_ _|refine blk_drew ?_|refine blk_alloc ?_ _));exact BK1.out)) : gb2 ≠ gb1));clear BK1;clear HB;have BK1 := n0_;have HB := n1_;have BK2 := n2_;have GW2 := n3_;have GE2 := n4_;have NB1_2 := n5_;have NB2_1 := n6_;clear n0_ n1_ n2_ n3_ n4_ n5_ n6_;clear hb hbox hg))
 go_loopg [6] k (fun kq v6 w' => ∃ (x6_1 : Int) (x3000_1 : Int) (x3001_1 : Int) (x3002_1 : Int), v6 = .int .i64 x6_1 ∧ Aside0 (r10_Share.l0 kq l0 l1 x6_1 x3000_1 x3001_1 x3002_1 = some (r1, r2, r3)) ∧ Aside0 (kq ≤ k) ∧ Aside0 (w'.heap[gb1]? = some (.cells #[.int .i64 0, .int .i64 0, .int .i64 0] 27 (0, 0))) ∧ Aside0 (w'.heap[gb2]? = some (.cells #[.int .i64 x3000_1, .int .i64 x3001_1, .int .i64 x3002_1] 27 (0, 0))) ∧ Aside0 (Below w.heap.size w w'))
 case atStart => exact ⟨(0), (0), (0), (0), (by first|rfl|(simp;done)|(simp [*];done)), H', ⟨Nat.le_refl _⟩, ⟨by (with_reducible repeat (first|refine blk_drewN ?_ _|refine blk_drew ?_|refine blk_alloc ?_ _));exact BK1.out⟩, ⟨by (with_reducible repeat (first|refine blk_drewN ?_ _|refine blk_drew ?_|refine blk_alloc ?_ _));exact BK2.out⟩, ⟨by repeat (first|(with_reducible first|exact HB.out|apply below_alloc|apply pw_below_drewN|apply below_drew1|refine below_set ?_ GE1.out|refine below_set ?_ GE2.out)|exact HB.out)⟩⟩
 case round =>
  clear H'
  try clear c1
  try clear p2
  obtain ⟨x6_1, x3000_1, x3001_1, x3002_1, rfl, HA, HK1, BK1, BK2, HB⟩ := hrel
  cases gk with
  | zero => exact absurd HA.out (by simp [r10_Share.l0])
  | succ k1 =>
   have H := HA.out
   clear HA
   simp only [r10_Share.l0] at H
   by_cases c5 : x6_1 < (l0.length : Int)
   ·rw [if_pos c5] at H
    have c5b0 : decide (x6_1 < (l0.length : Int)) = true := decide_eq_true c5
    clear c5
    by_cases c6 : 0 ≤ x6_1
    ·rw [if_pos c6] at H
     have c6b0 : decide (0 ≤ x6_1) = true := decide_eq_true c6
     clear c6
     replace H := Option.bind_eq_some_iff.mp H
     obtain ⟨t4, A70, H⟩ := H
     replace H : (if t4 = true then ((r10_Up.f k1 l0 ((rd_T31 l0 x6_1).f0)).bind fun t6 => (r10_Share.l1 k1 l0 l1 x6_1 t6 false 1 x3000_1 x3001_1 x3002_1)) else (r10_Share.l0 k1 l0 l1 (wrap64 (x6_1 + 1)) x3000_1 x3001_1 x3002_1)) = some (r1, r2, r3) := H
     have A7 := Aside0.mk A70
     clear A70
     by_cases c8 : t4 = true
     ·subst c8
      have H1 : ((r10_Up.f k1 l0 ((rd_T31 l0 x6_1).f0)).bind fun t6 => (r10_Share.l1 k1 l0 l1 x6_1 t6 false 1 x3000_1 x3001_1 x3002_1)) = some (r1, r2, r3) := by rw [if_pos rfl] at H; exact H
      clear H
      have H := H1
      clear H1
      replace H := Option.bind_eq_some_iff.mp H
      obtain ⟨t6, A90, H⟩ := H
      replace H : (r10_Share.l1 k1 l0 l1 x6_1 t6 false 1 x3000_1 x3001_1 x3002_1) = some (r1, r2, r3) := H
      have A9 := Aside0.mk A90
      clear A90
      have H' := Aside0.mk H
      clear H
      have p3 : 0 ≤ (x6_1 : Int) := of_decide_eq_true (by first|(with_reducible assumption)|assumption)
      have q3 : x6_1 < (l0.length : Int) := of_decide_eq_true (by first|(with_reducible assumption)|assumption)
      obtain ⟨ad3, e3, hx3_0, hx3_1, hx3_2, hx3_3, hx3_4, hx3_5, hx3_6, hx3_7, hx3_8, hx3_9, hx3_10, hx3_11⟩ := at_T31 HR0.out x6_1 p3 q3
      cases e3
      replace hx3_0 := (HB.out.cell (World.block_lt_of_cell? w _ hx3_0)).trans hx3_0
      replace hx3_1 := (HB.out.cell (World.block_lt_of_cell? w _ hx3_1)).trans hx3_1
      replace hx3_2 := (HB.out.cell (World.block_lt_of_cell? w _ hx3_2)).trans hx3_2
      replace hx3_3 := (HB.out.cell (World.block_lt_of_cell? w _ hx3_3)).trans hx3_3
      replace hx3_4 := (HB.out.cell (World.block_lt_of_cell? w _ hx3_4)).trans hx3_4
      replace hx3_5 := (HB.out.cell (World.block_lt_of_cell? w _ hx3_5)).trans hx3_5
      replace hx3_6 := (HB.out.cell (World.block_lt_of_cell? w _ hx3_6)).trans hx3_6
      replace hx3_7 := (HB.out.cell (World.block_lt_of_cell? w _ hx3_7)).trans hx3_7
      replace hx3_8 := (HB.out.cell (World.block_lt_of_cell? w _ hx3_8)).trans hx3_8
      replace hx3_9 := (HB.out.cell (World.block_lt_of_cell? w _ hx3_9)).trans hx3_9
      replace hx3_10 := (HB.out.cell (World.block_lt_of_cell? w _ hx3_10)).trans hx3_10
      replace hx3_11 := (HB.out.cell (World.block_lt_of_cell? w _ hx3_11)).trans hx3_11
      replace p3 := eq_true p3
      replace q3 := eq_true q3
      go_wp2_with (first|((with_reducible refine gate_callee (f := 136) rfl ?_);refine goesL_ (some 22) rfl rfl Try.func136 (by kernel_rfl) rfl #[.slice A1 l1.length c1, .string ((rd_T31 l0 x6_1).f0)] rfl (by (try simp only [List.map_toArray, List.map_cons, List.map_nil]);first|done|rfl|(simp only [List.length_drop, List.length_take];rfl)) ?_;(with_reducible refine (r10_in.calls k1 _ _ l1 ((rd_T31 l0 x6_1).f0) true _ ?side1 ?side2 A7.out).mono ?_);(case side1 => repeat (first|exact (Kd.C_below HR1.out HB.out)|(with_reducible refine Kd.C_alloc ?_ _)|(with_reducible refine Kd.C_drewN ?_ _)|(with_reducible refine Kd.C_drew ?_)));(case side2 => exact HC1.out);rintro e w' ⟨rfl, ⟨nd, rfl⟩⟩;refine ⟨_, rfl, ?_⟩;have p5 : 0 ≤ (x6_1 : Int) := of_decide_eq_true (by first|(with_reducible assumption)|assumption);have q5 : x6_1 < (l0.length : Int) := of_decide_eq_true (by first|(with_reducible assumption)|assumption);obtain ⟨ad5, e5, hx5_0, hx5_1, hx5_2, hx5_3, hx5_4, hx5_5, hx5_6, hx5_7, hx5_8, hx5_9, hx5_10, hx5_11⟩ := at_T31 HR0.out x6_1 p5 q5;obtain rfl : ad3 = ad5 := (by injection e5);replace hx5_0 := (HB.out.cell (World.block_lt_of_cell? w _ hx5_0)).trans hx5_0;replace hx5_1 := (HB.out.cell (World.block_lt_of_cell? w _ hx5_1)).trans hx5_1;replace hx5_2 := (HB.out.cell (World.block_lt_of_cell? w _ hx5_2)).trans hx5_2;replace hx5_3 := (HB.out.cell (World.block_lt_of_cell? w _ hx5_3)).trans hx5_3;replace hx5_4 := (HB.out.cell (World.block_lt_of_cell? w _ hx5_4)).trans hx5_4;replace hx5_5 := (HB.out.cell (World.block_lt_of_cell? w _ hx5_5)).trans hx5_5;replace hx5_6 := (HB.out.cell (World.block_lt_of_cell? w _ hx5_6)).trans hx5_6;replace hx5_7 := (HB.out.cell (World.block_lt_of_cell? w _ hx5_7)).trans hx5_7;replace hx5_8 := (HB.out.cell (World.block_lt_of_cell? w _ hx5_8)).trans hx5_8;replace hx5_9 := (HB.out.cell (World.block_lt_of_cell? w _ hx5_9)).trans hx5_9;replace hx5_10 := (HB.out.cell (World.block_lt_of_cell? w _ hx5_10)).trans hx5_10;replace hx5_11 := (HB.out.cell (World.block_lt_of_cell? w _ hx5_11)).trans hx5_11;replace p5 := eq_true p5;replace q5 := eq_true q5)|((with_reducible refine gate_callee (f := 106) rfl ?_);refine goesL_ (some 30) rfl rfl Try.func106 (by kernel_rfl) rfl #[.slice (some ad3) l0.length c0, .string ((rd_T31 l0 x6_1).f0)] rfl (by (try simp only [List.map_toArray, List.map_cons, List.map_nil]);first|done|rfl|(simp only [List.length_drop, List.length_take];rfl)) ?_;(with_reducible refine (r10_Up.calls k1 _ _ l0 ((rd_T31 l0 x6_1).f0) t6 _ ?side1 ?side2 A9.out).mono ?_);(case side1 => repeat (first|exact (Kd.C_below HR0.out (by repeat (first|(with_reducible first|exact HB.out|apply below_alloc|apply pw_below_drewN|apply below_drew1|refine below_set ?_ GE1.out|refine below_set ?_ GE2.out)|exact HB.out)))|(with_reducible refine Kd.C_alloc ?_ _)|(with_reducible refine Kd.C_drewN ?_ _)|(with_reducible refine Kd.C_drew ?_)));(case side2 => exact HC0.out);rintro e w10 ⟨v7, rfl, ho0, hb⟩;refine ⟨_, rfl, ?_⟩;have n0_ := Aside0.mk (Kd.R_lower ho0 (below_size (by repeat (first|(with_reducible first|exact HB.out|apply below_alloc|apply pw_below_drewN|apply below_drew1|refine below_set ?_ GE1.out|refine below_set ?_ GE2.out)|exact HB.out))));have n1_ := Aside0.mk (blk_below (g := gb1) (o := .cells #[.int .i64 0, .int .i64 0, .int .i64 0] 27 (0, 0)) (by (with_reducible repeat (first|refine blk_drewN ?_ _|refine blk_drew ?_|refine blk_alloc ?_ _));exact BK1.out) hb);have n2_ := Aside0.mk (blk_below (g := gb2) (o := .cells #[.int .i64 x3000_1, .int .i64 x3001_1, .int .i64 x3002_1] 27 (0, 0)) (by (with_reducible repeat (first|refine blk_drewN ?_ _|refine blk_drew ?_|refine blk_alloc ?_ _));exact BK2.out) hb);have n3_ := Aside0.mk (below_step (by repeat (first|(with_reducible first|exact HB.out|apply below_alloc|apply pw_below_drewN|apply below_drew1|refine below_set ?_ GE1.out|refine below_set ?_ GE2.out)|exact HB.out)) hb);clear BK1;clear BK2;clear HB;have HO8 := n0_;have BK1 := n1_;have BK2 := n2_;have HB := n3_;clear n0_ n1_ n2_ n3_;(try clear hb);(try clear hb2);(try clear hk);(try clear hi);(try clear ho0)))
      go_loopg [8, 9] k1 (fun kq v8 v9 w' => ∃ (x8_2 : Bool) (x9_2 : Int), v8 = .bool x8_2 ∧ v9 = .int .i64 x9_2 ∧ Aside0 (r10_Share.l1 kq l0 l1 x6_1 t6 x8_2 x9_2 x3000_1 x3001_1 x3002_1 = some (r1, r2, r3)) ∧ Aside0 (kq ≤ k1) ∧ Aside0 (Kd.R Kd.string 9 w' w.heap.size (fun _ => True) v7 t6) ∧ Aside0 (w'.heap[gb1]? = some (.cells #[.int .i64 0, .int .i64 0, .int .i64 0] 27 (0, 0))) ∧ Aside0 (w'.heap[gb2]? = some (.cells #[.int .i64 x3000_1, .int .i64 x3001_1, .int .i64 x3002_1] 27 (0, 0))) ∧ Aside0 (Below w.heap.size w w'))
      case atStart => exact ⟨(false), (1), (by first|rfl|(simp;done)|(simp [*];done)), (by first|rfl|(simp;done)|(simp [*];done)), H', ⟨Nat.le_refl _⟩, ⟨by (with_reducible repeat (first|apply Kd.R_alloc|apply Kd.R_drewN|apply Kd.R_drew));exact HO8.out⟩, ⟨by (with_reducible repeat (first|refine blk_drewN ?_ _|refine blk_drew ?_|refine blk_alloc ?_ _));exact BK1.out⟩, ⟨by (with_reducible repeat (first|refine blk_drewN ?_ _|refine blk_drew ?_|refine blk_alloc ?_ _));exact BK2.out⟩, ⟨by repeat (first|(with_reducible first|exact HB.out|apply below_alloc|apply pw_below_drewN|apply below_drew1|refine below_set ?_ GE1.out|refine below_set ?_ GE2.out)|exact HB.out)⟩⟩
      case round =>
       clear H'
       try clear c1
       try clear p2
       try clear p3
       try clear q3
       try clear hx3
       try clear c5
       try clear c5b0
       try clear p5
       try clear q5
       try clear hx5
       try clear c6
       try clear c6b0
       try clear p6
       try clear c8
       try clear c10
       try clear hx3_0
       try clear hx3_1
       try clear hx3_10
       try clear hx3_11
       try clear hx3_2
       try clear hx3_3
       try clear hx3_4
       try clear hx3_5
       try clear hx3_6
       try clear hx3_7
       try clear hx3_8
       try clear hx3_9
       try clear hx5_0
       try clear hx5_1
       try clear hx5_10
       try clear hx5_11
       try clear hx5_2
       try clear hx5_3
       try clear hx5_4
       try clear hx5_5
       try clear hx5_6
       try clear hx5_7
       try clear hx5_8
       try clear hx5_9
       try clear p2
       try clear p3
       try clear p5
       try clear q3
       try clear q5
       obtain ⟨x8_2, x9_2, rfl, rfl, HA, HK2, HO_7, BK1, BK2, HB⟩ := hrel
       cases gk with
       | zero => exact absurd HA.out (by simp [r10_Share.l1])
       | succ k2 =>
        have H := HA.out
        clear HA
        simp only [r10_Share.l1] at H
        by_cases c11 : x9_2 < (t6.length : Int)
        ·rw [if_pos c11] at H
         have c11b0 : decide (x9_2 < (t6.length : Int)) = true := decide_eq_true c11
         clear c11
         by_cases c12 : x8_2 = true
         ·subst c12
          have H1 : (r10_Share.l1 k2 l0 l1 x6_1 t6 true (wrap64 (x9_2 + 1)) x3000_1 x3001_1 x3002_1) = some (r1, r2, r3) := by rw [if_pos rfl] at H; exact H
          clear H
          have H := H1
          clear H1
          have H' := Aside0.mk H
          clear H
          obtain ⟨Ao13, co13, eo13⟩ := Kd.R_slice HO_7.out
          subst eo13
          go_wp2
          go_roundg k2
          case measure => have := HK1.out; have := HK2.out; omega
          case rel => exact ⟨(true), (wrap64 (x9_2 + 1)), (by first|rfl|(simp;done)|(simp [*];done)), (by first|rfl|(simp;done)|(simp [*];done)), H', ⟨by have := HK1.out;have := HK2.out;omega⟩, ⟨by (with_reducible repeat (first|apply Kd.R_alloc|apply Kd.R_drewN|apply Kd.R_drew));exact HO_7.out⟩, ⟨by (with_reducible repeat (first|refine blk_drewN ?_ _|refine blk_drew ?_|refine blk_alloc ?_ _));exact BK1.out⟩, ⟨by (with_reducible repeat (first|refine blk_drewN ?_ _|refine blk_drew ?_|refine blk_alloc ?_ _));exact BK2.out⟩, ⟨by repeat (first|(with_reducible first|exact HB.out|apply below_alloc|apply pw_below_drewN|apply below_drew1|refine below_set ?_ GE1.out|refine below_set ?_ GE2.out)|exact HB.out)⟩⟩
         ·replace c12 := Bool.eq_false_iff.mpr c12
          subst c12
          have H1 : (if 0 ≤ x9_2 then ((r10_in.f k2 l1 (rdOf ByteArray.empty t6 x9_2)).bind fun t10 => (r10_Share.l1 k2 l0 l1 x6_1 t6 t10 (wrap64 (x9_2 + 1)) x3000_1 x3001_1 x3002_1)) else (none)) = some (r1, r2, r3) := by rw [if_neg (show ¬ (false = true) by decide)] at H; exact H
          clear H
          have H := H1
          clear H1
          by_cases c14 : 0 ≤ x9_2
          ·rw [if_pos c14] at H
           have c14b0 : decide (0 ≤ x9_2) = true := decide_eq_true c14
           clear c14
           replace H := Option.bind_eq_some_iff.mp H
           obtain ⟨t10, A150, H⟩ := H
           replace H : (r10_Share.l1 k2 l0 l1 x6_1 t6 t10 (wrap64 (x9_2 + 1)) x3000_1 x3001_1 x3002_1) = some (r1, r2, r3) := H
           have A15 := Aside0.mk A150
           clear A150
           have H' := Aside0.mk H
           clear H
           obtain ⟨Ao16, co16, eo16⟩ := Kd.R_slice HO_7.out
           subst eo16
           have p9 : 0 ≤ (x9_2 : Int) := of_decide_eq_true (by first|(with_reducible assumption)|assumption)
           have q9 : x9_2 < (t6.length : Int) := of_decide_eq_true (by first|(with_reducible assumption)|assumption)
           obtain ⟨ad9, e9, hx9_0⟩ := Kd.at_string (Kd.R_reads' HO_7.out).2.2 x9_2 p9 q9
           cases e9
           replace p9 := eq_true p9
           replace q9 := eq_true q9
           go_wp2_with (first|(go_at_call 136;(with_reducible refine (r10_in.calls k2 _ _ l1 (rdOf ByteArray.empty t6 x9_2) t10 _ ?side1 ?side2 A15.out).mono ?_);(case side1 => repeat (first|exact (Kd.C_below HR1.out HB.out)|(with_reducible refine Kd.C_alloc ?_ _)|(with_reducible refine Kd.C_drewN ?_ _)|(with_reducible refine Kd.C_drew ?_)));(case side2 => exact HC1.out);rintro e w' ⟨rfl, ⟨nd, rfl⟩⟩))
           go_roundg k2
           case measure => have := HK1.out; have := HK2.out; omega
           case rel => exact ⟨(t10), (wrap64 (x9_2 + 1)), (by first|rfl|(simp;done)|(simp [*];done)), (by first|rfl|(simp;done)|(simp [*];done)), H', ⟨by have := HK1.out;have := HK2.out;omega⟩, ⟨by (with_reducible repeat (first|apply Kd.R_alloc|apply Kd.R_drewN|apply Kd.R_drew));exact HO_7.out⟩, ⟨by (with_reducible repeat (first|refine blk_drewN ?_ _|refine blk_drew ?_|refine blk_alloc ?_ _));exact BK1.out⟩, ⟨by (with_reducible repeat (first|refine blk_drewN ?_ _|refine blk_drew ?_|refine blk_alloc ?_ _));exact BK2.out⟩, ⟨by repeat (first|(with_reducible first|exact HB.out|apply below_alloc|apply pw_below_drewN|apply below_drew1|refine below_set ?_ GE1.out|refine below_set ?_ GE2.out)|exact HB.out)⟩⟩
          ·rw [if_neg c14] at H
           exact absurd H (by simp)
        ·rw [if_neg c11] at H
         have c11b0 : decide (x9_2 < (t6.length : Int)) = false := decide_eq_false c11
         clear c11
         by_cases c17 : x8_2 = true
         ·subst c17
          have H1 : (r10_Share.l0 k2 l0 l1 (wrap64 (x6_1 + 1)) x3000_1 x3001_1 x3002_1) = some (r1, r2, r3) := by rw [if_pos rfl] at H; exact H
          clear H
          have H := H1
          clear H1
          have H' := Aside0.mk H
          clear H
          obtain ⟨Ao18, co18, eo18⟩ := Kd.R_slice HO_7.out
          subst eo18
          go_wp2
          go_roundg k2
          case measure => have := HK1.out; have := HK2.out; omega
          case rel => exact ⟨(wrap64 (x6_1 + 1)), (x3000_1), (x3001_1), (x3002_1), (by first|rfl|(simp;done)|(simp [*];done)), H', ⟨by have := HK1.out;have := HK2.out;omega⟩, ⟨by (with_reducible repeat (first|refine blk_drewN ?_ _|refine blk_drew ?_|refine blk_alloc ?_ _));exact BK1.out⟩, ⟨by (with_reducible repeat (first|refine blk_drewN ?_ _|refine blk_drew ?_|refine blk_alloc ?_ _));exact BK2.out⟩, ⟨by repeat (first|(with_reducible first|exact HB.out|apply below_alloc|apply pw_below_drewN|apply below_drew1|refine below_set ?_ GE1.out|refine below_set ?_ GE2.out)|exact HB.out)⟩⟩
         ·replace c17 := Bool.eq_false_iff.mpr c17
          subst c17
          have H1 : (if 0 ≤ x6_1 then (if x6_1 < (l0.length : Int) then ((r10_Add.f x3000_1 x3001_1 x3002_1 ((rd_T31 l0 x6_1).f4.f0) ((rd_T31 l0 x6_1).f4.f1) ((rd_T31 l0 x6_1).f4.f2)).bind fun bt12 => (r10_Share.l0 k2 l0 l1 (wrap64 (x6_1 + 1)) bt12.1 bt12.2.1 bt12.2.2)) else (none)) else (none)) = some (r1, r2, r3) := by rw [if_neg (show ¬ (false = true) by decide)] at H; exact H
          clear H
          have H := H1
          clear H1
          by_cases c19 : 0 ≤ x6_1
          ·rw [if_pos c19] at H
           have c19b0 : decide (0 ≤ x6_1) = true := decide_eq_true c19
           clear c19
           by_cases c20 : x6_1 < (l0.length : Int)
           ·rw [if_pos c20] at H
            have c20b0 : decide (x6_1 < (l0.length : Int)) = true := decide_eq_true c20
            clear c20
            replace H := Option.bind_eq_some_iff.mp H
            obtain ⟨⟨t12, t13, t14⟩, A210, H⟩ := H
            replace H : (r10_Share.l0 k2 l0 l1 (wrap64 (x6_1 + 1)) t12 t13 t14) = some (r1, r2, r3) := H
            have A21 := Aside0.mk A210
            clear A210
            have H' := Aside0.mk H
            clear H
            obtain ⟨Ao22, co22, eo22⟩ := Kd.R_slice HO_7.out
            subst eo22
            try go_wp2
            have n0_ := Aside0.mk (Kd.R_drew HO_7.out)
            have n1_ := Aside0.mk (blk_drew BK1.out)
            have n2_ := Aside0.mk (blk_drew BK2.out)
            have n3_ := Aside0.mk (below_drew1 HB.out)
            clear HO_7
            clear BK1
            clear BK2
            clear HB
            have HO_7 := n0_
            have BK1 := n1_
            have BK2 := n2_
            have HB := n3_
            clear n0_ n1_ n2_ n3_
            have p11 : 0 ≤ (x6_1 : Int) := of_decide_eq_true (by first|(with_reducible assumption)|assumption)
            have q11 : x6_1 < (l0.length : Int) := of_decide_eq_true (by first|(with_reducible assumption)|assumption)
            obtain ⟨ad11, e11, hx11_0, hx11_1, hx11_2, hx11_3, hx11_4, hx11_5, hx11_6, hx11_7, hx11_8, hx11_9, hx11_10, hx11_11⟩ := at_T31 HR0.out x6_1 p11 q11
            have hw11_11 := hx11_11
            have hw11_10 := hx11_10
            have hw11_9 := hx11_9
            have hw11_8 := hx11_8
            have hw11_7 := hx11_7
            have hw11_6 := hx11_6
            have hw11_5 := hx11_5
            have hw11_4 := hx11_4
            have hw11_3 := hx11_3
            have hw11_2 := hx11_2
            have hw11_1 := hx11_1
            have hw11_0 := hx11_0
            obtain rfl : ad3 = ad11 := (by injection e11)
            replace hx11_0 := (HB.out.cell (World.block_lt_of_cell? w _ hx11_0)).trans hx11_0
            replace hx11_1 := (HB.out.cell (World.block_lt_of_cell? w _ hx11_1)).trans hx11_1
            replace hx11_2 := (HB.out.cell (World.block_lt_of_cell? w _ hx11_2)).trans hx11_2
            replace hx11_3 := (HB.out.cell (World.block_lt_of_cell? w _ hx11_3)).trans hx11_3
            replace hx11_4 := (HB.out.cell (World.block_lt_of_cell? w _ hx11_4)).trans hx11_4
            replace hx11_5 := (HB.out.cell (World.block_lt_of_cell? w _ hx11_5)).trans hx11_5
            replace hx11_6 := (HB.out.cell (World.block_lt_of_cell? w _ hx11_6)).trans hx11_6
            replace hx11_7 := (HB.out.cell (World.block_lt_of_cell? w _ hx11_7)).trans hx11_7
            replace hx11_8 := (HB.out.cell (World.block_lt_of_cell? w _ hx11_8)).trans hx11_8
            replace hx11_9 := (HB.out.cell (World.block_lt_of_cell? w _ hx11_9)).trans hx11_9
            replace hx11_10 := (HB.out.cell (World.block_lt_of_cell? w _ hx11_10)).trans hx11_10
            replace hx11_11 := (HB.out.cell (World.block_lt_of_cell? w _ hx11_11)).trans hx11_11
            replace p11 := eq_true p11
            replace q11 := eq_true q11
            refine start_ (n := 8) (S := fun w' => w'.cell? ⟨gb2, 0, none⟩ = some (.int .i64 x3000_1) ∧ w'.cell? ⟨gb2, 1, none⟩ = some (.int .i64 x3001_1) ∧ w'.cell? ⟨gb2, 2, none⟩ = some (.int .i64 x3002_1) ∧ w'.cell? (ad3.add ((x6_1).toNat * 12)) = some (.string ((rd_T31 l0 x6_1).f0)) ∧ w'.cell? ⟨(ad3.add ((x6_1).toNat * 12)).block, (ad3.add ((x6_1).toNat * 12)).off + 1, none⟩ = some (.string ((rd_T31 l0 x6_1).f1)) ∧ w'.cell? ⟨(ad3.add ((x6_1).toNat * 12)).block, (ad3.add ((x6_1).toNat * 12)).off + 2, none⟩ = some (.int .i64 ((rd_T31 l0 x6_1).f2.f0)) ∧ w'.cell? ⟨(ad3.add ((x6_1).toNat * 12)).block, (ad3.add ((x6_1).toNat * 12)).off + 3, none⟩ = some (.int .i64 ((rd_T31 l0 x6_1).f2.f1)) ∧ w'.cell? ⟨(ad3.add ((x6_1).toNat * 12)).block, (ad3.add ((x6_1).toNat * 12)).off + 4, none⟩ = some (.int .i64 ((rd_T31 l0 x6_1).f2.f2)) ∧ w'.cell? ⟨(ad3.add ((x6_1).toNat * 12)).block, (ad3.add ((x6_1).toNat * 12)).off + 5, none⟩ = some (.int .i64 ((rd_T31 l0 x6_1).f3.f0)) ∧ w'.cell? ⟨(ad3.add ((x6_1).toNat * 12)).block, (ad3.add ((x6_1).toNat * 12)).off + 6, none⟩ = some (.int .i64 ((rd_T31 l0 x6_1).f3.f1)) ∧ w'.cell? ⟨(ad3.add ((x6_1).toNat * 12)).block, (ad3.add ((x6_1).toNat * 12)).off + 7, none⟩ = some (.int .i64 ((rd_T31 l0 x6_1).f3.f2)) ∧ w'.cell? ⟨(ad3.add ((x6_1).toNat * 12)).block, (ad3.add ((x6_1).toNat * 12)).off + 8, none⟩ = some (.int .i64 ((rd_T31 l0 x6_1).f4.f0)) ∧ w'.cell? ⟨(ad3.add ((x6_1).toNat * 12)).block, (ad3.add ((x6_1).toNat * 12)).off + 9, none⟩ = some (.int .i64 ((rd_T31 l0 x6_1).f4.f1)) ∧ w'.cell? ⟨(ad3.add ((x6_1).toNat * 12)).block, (ad3.add ((x6_1).toNat * 12)).off + 10, none⟩ = some (.int .i64 ((rd_T31 l0 x6_1).f4.f2)) ∧ w'.cell? ⟨(ad3.add ((x6_1).toNat * 12)).block, (ad3.add ((x6_1).toNat * 12)).off + 11, none⟩ = some (.int .i64 ((rd_T31 l0 x6_1).f5))) (ds := [7]) #[false, false, false, false, false, false, false, false] (by kernel_rfl) rfl rfl ⟨(blk_cell BK2.out 0).trans rfl, (blk_cell BK2.out 1).trans rfl, (blk_cell BK2.out 2).trans rfl, ((HB.out.cell (World.block_lt_of_cell? w _ hw11_0)).trans hw11_0), ((HB.out.cell (World.block_lt_of_cell? w _ hw11_1)).trans hw11_1), ((HB.out.cell (World.block_lt_of_cell? w _ hw11_2)).trans hw11_2), ((HB.out.cell (World.block_lt_of_cell? w _ hw11_3)).trans hw11_3), ((HB.out.cell (World.block_lt_of_cell? w _ hw11_4)).trans hw11_4), ((HB.out.cell (World.block_lt_of_cell? w _ hw11_5)).trans hw11_5), ((HB.out.cell (World.block_lt_of_cell? w _ hw11_6)).trans hw11_6), ((HB.out.cell (World.block_lt_of_cell? w _ hw11_7)).trans hw11_7), ((HB.out.cell (World.block_lt_of_cell? w _ hw11_8)).trans hw11_8), ((HB.out.cell (World.block_lt_of_cell? w _ hw11_9)).trans hw11_9), ((HB.out.cell (World.block_lt_of_cell? w _ hw11_10)).trans hw11_10), ((HB.out.cell (World.block_lt_of_cell? w _ hw11_11)).trans hw11_11)⟩ (fun hHeld => ?_); refine with_tabW r10_Share.tab13 r10_Share.bits13 (fun HT_ HW_ => ?_)
            generalize wr.drew = w23 at HO_7 BK1 BK2 HB hx11_0 hx11_1 hx11_10 hx11_11 hx11_2 hx11_3 hx11_4 hx11_5 hx11_6 hx11_7 hx11_8 hx11_9 hHeld ⊢
            refine pure_ (i := 1) (N := some 49) (v := ?_) (a' := ?_) #[false, true, false, false, false, false, false, false] rfl rfl (any_of HT_.out (by kernel_rfl)) (fun _ _ _ h => h) (Or.inl ⟨by rfl, ?_⟩) ?_ ?_
            rotate_left
            ·intro w'
             go_simp
             with_reducible rfl
            rotate_left
            ·simp only [Act.put, List.setIfInBounds_toArray, List.set_cons_zero, List.set_cons_succ, i64_w, i32_w]
             rfl
            refine pure_ (i := 2) (N := some 50) (v := ?_) (a' := ?_) #[false, true, true, false, false, false, false, false] rfl rfl (any_of HT_.out (by kernel_rfl)) (fun _ _ _ h => h) (Or.inl ⟨by rfl, ?_⟩) ?_ ?_
            rotate_left
            ·intro w'
             go_simp
             with_reducible rfl
            rotate_left
            ·simp only [Act.put, List.setIfInBounds_toArray, List.set_cons_zero, List.set_cons_succ, i64_w, i32_w]
             rfl
            refine pure_ (i := 3) (N := some 51) (v := ?_) (a' := ?_) #[false, true, true, true, false, false, false, false] rfl rfl (any_of HT_.out (by kernel_rfl)) (fun _ _ _ h => h) (Or.inl ⟨by rfl, ?_⟩) ?_ ?_
            rotate_left
            ·intro w'
             go_simp
             with_reducible rfl
            rotate_left
            ·simp only [Act.put, List.setIfInBounds_toArray, List.set_cons_zero, List.set_cons_succ, i64_w, i32_w]
             rfl
            refine pure_ (i := 4) (N := some 52) (v := ?_) (a' := ?_) #[false, true, true, true, true, false, false, false] rfl rfl (any_of HT_.out (by kernel_rfl)) (fun _ _ _ h => h) (Or.inl ⟨by rfl, ?_⟩) ?_ ?_
            rotate_left
            ·intro w'
             go_simp
             with_reducible rfl
            rotate_left
            ·simp only [Act.put, List.setIfInBounds_toArray, List.set_cons_zero, List.set_cons_succ, i64_w, i32_w]
             rfl
            refine take_ (i := 0) (N := some 48) (v := ?_) (a' := ?_) #[true, true, true, true, true, false, false, false] rfl rfl (take_ofW HT_.out HW_.out (by kernel_rfl)) (fun _ _ _ h => h) (Or.inl ⟨by rfl, ?_⟩) hHeld ?_ ?_
            rotate_left
            ·rintro w' ⟨s0, s1, s2, s3, s4, s5, s6, s7, s8, s9, s10, s11, s12, s13, s14⟩
             go_simp
             with_reducible rfl
            rotate_left
            ·simp only [Act.put, List.setIfInBounds_toArray, List.set_cons_zero, List.set_cons_succ, i64_w, i32_w]
             rfl
            refine take_ (i := 5) (N := some 53) (v := ?_) (a' := ?_) #[true, true, true, true, true, true, false, false] rfl rfl (take_ofW HT_.out HW_.out (by kernel_rfl)) (fun _ _ _ h => h) (Or.inl ⟨by rfl, ?_⟩) hHeld ?_ ?_
            rotate_left
            ·rintro w' ⟨s0, s1, s2, s3, s4, s5, s6, s7, s8, s9, s10, s11, s12, s13, s14⟩
             go_simp
             with_reducible rfl
            rotate_left
            ·simp only [Act.put, List.setIfInBounds_toArray, List.set_cons_zero, List.set_cons_succ, i64_w, i32_w]
             rfl
            refine one_ (i := 6) (N := some 54) #[true, true, true, true, true, true, true, false] rfl rfl (one_of HT_.out (by kernel_rfl)) (by decide) (fun K hK => ?_)
            refine goes_ Try.func63 (by kernel_rfl) rfl #[.agg #[.int .i64 x3000_1, .int .i64 x3001_1, .int .i64 x3002_1], .agg #[.int .i64 ((rd_T31 l0 x6_1).f4.f0), .int .i64 ((rd_T31 l0 x6_1).f4.f1), .int .i64 ((rd_T31 l0 x6_1).f4.f2)]] (by rfl) rfl rfl (by (try simp only [List.map_toArray, List.map_cons, List.map_nil]); first | done | rfl | (simp only [List.length_drop, List.length_take]; rfl)) ?_
            with_reducible refine (r10_Add.calls x3000_1 x3001_1 x3002_1 ((rd_T31 l0 x6_1).f4.f0) ((rd_T31 l0 x6_1).f4.f1) ((rd_T31 l0 x6_1).f4.f2) t12 t13 t14 _ A21.out).mono ?_
            rintro e w24 ⟨rfl, hb⟩
            refine ⟨_, rfl, ?_⟩
            have n0_ := Aside0.mk (Kd.R_below (by (with_reducible repeat (first|apply Kd.R_alloc|apply Kd.R_drewN|apply Kd.R_drew));exact HO_7.out) hb)
            have n1_ := Aside0.mk (blk_below (g := gb1) (o := .cells #[.int .i64 0, .int .i64 0, .int .i64 0] 27 (0, 0)) (by (with_reducible repeat (first|refine blk_drewN ?_ _|refine blk_drew ?_|refine blk_alloc ?_ _));exact BK1.out) hb)
            have n2_ := Aside0.mk (blk_below (g := gb2) (o := .cells #[.int .i64 x3000_1, .int .i64 x3001_1, .int .i64 x3002_1] 27 (0, 0)) (by (with_reducible repeat (first|refine blk_drewN ?_ _|refine blk_drew ?_|refine blk_alloc ?_ _));exact BK2.out) hb)
            have n3_ := Aside0.mk (below_step (by repeat (first|(with_reducible first|exact HB.out|apply below_alloc|apply pw_below_drewN|apply below_drew1|refine below_set ?_ GE1.out|refine below_set ?_ GE2.out)|exact HB.out)) hb)
            clear HO_7
            clear BK1
            clear BK2
            clear HB
            have HO_7 := n0_
            have BK1 := n1_
            have BK2 := n2_
            have HB := n3_
            clear n0_ n1_ n2_ n3_
            (try clear hb)
            (try clear hb2)
            (try clear hk)
            (try clear hi)
            refine hK.out _ _ ⟨(blk_cell BK2.out 0).trans rfl, (blk_cell BK2.out 1).trans rfl, (blk_cell BK2.out 2).trans rfl, ((HB.out.cell (World.block_lt_of_cell? w _ hw11_0)).trans hw11_0), ((HB.out.cell (World.block_lt_of_cell? w _ hw11_1)).trans hw11_1), ((HB.out.cell (World.block_lt_of_cell? w _ hw11_2)).trans hw11_2), ((HB.out.cell (World.block_lt_of_cell? w _ hw11_3)).trans hw11_3), ((HB.out.cell (World.block_lt_of_cell? w _ hw11_4)).trans hw11_4), ((HB.out.cell (World.block_lt_of_cell? w _ hw11_5)).trans hw11_5), ((HB.out.cell (World.block_lt_of_cell? w _ hw11_6)).trans hw11_6), ((HB.out.cell (World.block_lt_of_cell? w _ hw11_7)).trans hw11_7), ((HB.out.cell (World.block_lt_of_cell? w _ hw11_8)).trans hw11_8), ((HB.out.cell (World.block_lt_of_cell? w _ hw11_9)).trans hw11_9), ((HB.out.cell (World.block_lt_of_cell? w _ hw11_10)).trans hw11_10), ((HB.out.cell (World.block_lt_of_cell? w _ hw11_11)).trans hw11_11)⟩ (fun hHeld => ?_)
            clear hK K
            refine norm_ (a' := ?_) ?_ ?_
            rotate_left
            ·show Act.put _ (some 54) _ = _
             simp only [Act.put, List.setIfInBounds_toArray, List.set_cons_zero, List.set_cons_succ, i64_w, i32_w]
             rfl
            refine last_ (i := 7) (N := none) #[true, true, true, true, true, true, true, true] rfl rfl (one_of HT_.out (by kernel_rfl)) (by decide) (fun K hK => ?_)
            have hs25 : w24.cell? ⟨gb2, 0, none⟩ = some (.int .i64 x3000_1) := (blk_cell BK2.out 0).trans rfl
            have hfs25 := blk_frozen BK2.out 0
            have hns25_0 := NB1_2.out
            have hms25_0 := NB2_1.out
            have hs26 : w24.cell? ⟨gb2, 1, none⟩ = some (.int .i64 x3001_1) := (blk_cell BK2.out 1).trans rfl
            have hfs26 := blk_frozen BK2.out 1
            have hns26_0 := NB1_2.out
            have hms26_0 := NB2_1.out
            have hs27 : w24.cell? ⟨gb2, 2, none⟩ = some (.int .i64 x3002_1) := (blk_cell BK2.out 2).trans rfl
            have hfs27 := blk_frozen BK2.out 2
            have hns27_0 := NB1_2.out
            have hms27_0 := NB2_1.out
            refine skip_ (w1 := ?_) (by rfl) rfl ?_ ?_
            rotate_left
            ·go_simp
             rfl
            refine hK.out _ _ ?_
            clear hK K
            refine done_ (done_of HT_.out (by kernel_rfl)) ?_
            try go_wp2
            go_roundg k2
            case measure => have := HK1.out; have := HK2.out; omega
            case rel => exact ⟨(wrap64 (x6_1 + 1)), (t12), (t13), (t14), (by first|rfl|(simp;done)|(simp [*];done)), H', ⟨by have := HK1.out;have := HK2.out;omega⟩, ⟨by (with_reducible repeat (first|refine blk_drewN ?_ _|refine blk_drew ?_|refine blk_alloc ?_ _));refine blk_far ?_ NB1_2.out _;(with_reducible repeat (first|refine blk_drewN ?_ _|refine blk_drew ?_|refine blk_alloc ?_ _));refine blk_far ?_ NB1_2.out _;(with_reducible repeat (first|refine blk_drewN ?_ _|refine blk_drew ?_|refine blk_alloc ?_ _));refine blk_far ?_ NB1_2.out _;(with_reducible repeat (first|refine blk_drewN ?_ _|refine blk_drew ?_|refine blk_alloc ?_ _));exact BK1.out⟩, ⟨by (with_reducible repeat (first|refine blk_drewN ?_ _|refine blk_drew ?_|refine blk_alloc ?_ _));refine blk_put (cs := #[.int .i64 t12, .int .i64 t13, .int .i64 x3002_1]) ?_ 2 _ rfl;(with_reducible repeat (first|refine blk_drewN ?_ _|refine blk_drew ?_|refine blk_alloc ?_ _));refine blk_put (cs := #[.int .i64 t12, .int .i64 x3001_1, .int .i64 x3002_1]) ?_ 1 _ rfl;(with_reducible repeat (first|refine blk_drewN ?_ _|refine blk_drew ?_|refine blk_alloc ?_ _));refine blk_put (cs := #[.int .i64 x3000_1, .int .i64 x3001_1, .int .i64 x3002_1]) ?_ 0 _ rfl;(with_reducible repeat (first|refine blk_drewN ?_ _|refine blk_drew ?_|refine blk_alloc ?_ _));exact BK2.out⟩, ⟨by repeat (first|(with_reducible first|exact HB.out|apply below_alloc|apply pw_below_drewN|apply below_drew1|refine below_set ?_ GE1.out|refine below_set ?_ GE2.out)|exact HB.out)⟩⟩
           ·rw [if_neg c20] at H
            exact absurd H (by simp)
          ·rw [if_neg c19] at H
           exact absurd H (by simp)
     ·replace c8 := Bool.eq_false_iff.mpr c8
      subst c8
      have H1 : (r10_Share.l0 k1 l0 l1 (wrap64 (x6_1 + 1)) x3000_1 x3001_1 x3002_1) = some (r1, r2, r3) := by rw [if_neg (show ¬ (false = true) by decide)] at H; exact H
      clear H
      have H := H1
      clear H1
      have H' := Aside0.mk H
      clear H
      have p3 : 0 ≤ (x6_1 : Int) := of_decide_eq_true (by first|(with_reducible assumption)|assumption)
      have q3 : x6_1 < (l0.length : Int) := of_decide_eq_true (by first|(with_reducible assumption)|assumption)
      obtain ⟨ad3, e3, hx3_0, hx3_1, hx3_2, hx3_3, hx3_4, hx3_5, hx3_6, hx3_7, hx3_8, hx3_9, hx3_10, hx3_11⟩ := at_T31 HR0.out x6_1 p3 q3
      cases e3
      replace hx3_0 := (HB.out.cell (World.block_lt_of_cell? w _ hx3_0)).trans hx3_0
      replace hx3_1 := (HB.out.cell (World.block_lt_of_cell? w _ hx3_1)).trans hx3_1
      replace hx3_2 := (HB.out.cell (World.block_lt_of_cell? w _ hx3_2)).trans hx3_2
      replace hx3_3 := (HB.out.cell (World.block_lt_of_cell? w _ hx3_3)).trans hx3_3
      replace hx3_4 := (HB.out.cell (World.block_lt_of_cell? w _ hx3_4)).trans hx3_4
      replace hx3_5 := (HB.out.cell (World.block_lt_of_cell? w _ hx3_5)).trans hx3_5
      replace hx3_6 := (HB.out.cell (World.block_lt_of_cell? w _ hx3_6)).trans hx3_6
      replace hx3_7 := (HB.out.cell (World.block_lt_of_cell? w _ hx3_7)).trans hx3_7
      replace hx3_8 := (HB.out.cell (World.block_lt_of_cell? w _ hx3_8)).trans hx3_8
      replace hx3_9 := (HB.out.cell (World.block_lt_of_cell? w _ hx3_9)).trans hx3_9
      replace hx3_10 := (HB.out.cell (World.block_lt_of_cell? w _ hx3_10)).trans hx3_10
      replace hx3_11 := (HB.out.cell (World.block_lt_of_cell? w _ hx3_11)).trans hx3_11
      replace p3 := eq_true p3
      replace q3 := eq_true q3
      go_wp2_with (first|((with_reducible refine gate_callee (f := 136) rfl ?_);refine goesL_ (some 22) rfl rfl Try.func136 (by kernel_rfl) rfl #[.slice A1 l1.length c1, .string ((rd_T31 l0 x6_1).f0)] rfl (by (try simp only [List.map_toArray, List.map_cons, List.map_nil]);first|done|rfl|(simp only [List.length_drop, List.length_take];rfl)) ?_;(with_reducible refine (r10_in.calls k1 _ _ l1 ((rd_T31 l0 x6_1).f0) false _ ?side1 ?side2 A7.out).mono ?_);(case side1 => repeat (first|exact (Kd.C_below HR1.out HB.out)|(with_reducible refine Kd.C_alloc ?_ _)|(with_reducible refine Kd.C_drewN ?_ _)|(with_reducible refine Kd.C_drew ?_)));(case side2 => exact HC1.out);rintro e w' ⟨rfl, ⟨nd, rfl⟩⟩;refine ⟨_, rfl, ?_⟩))
      go_roundg k1
      case measure => have := HK1.out; omega
      case rel => exact ⟨(wrap64 (x6_1 + 1)), (x3000_1), (x3001_1), (x3002_1), (by first|rfl|(simp;done)|(simp [*];done)), H', ⟨by have := HK1.out;omega⟩, ⟨by (with_reducible repeat (first|refine blk_drewN ?_ _|refine blk_drew ?_|refine blk_alloc ?_ _));exact BK1.out⟩, ⟨by (with_reducible repeat (first|refine blk_drewN ?_ _|refine blk_drew ?_|refine blk_alloc ?_ _));exact BK2.out⟩, ⟨by repeat (first|(with_reducible first|exact HB.out|apply below_alloc|apply pw_below_drewN|apply below_drew1|refine below_set ?_ GE1.out|refine below_set ?_ GE2.out)|exact HB.out)⟩⟩
    ·rw [if_neg c6] at H
     exact absurd H (by simp)
   ·rw [if_neg c5] at H
    have c5b0 : decide (x6_1 < (l0.length : Int)) = false := decide_eq_false c5
    clear c5
    simp only [Option.some.injEq, Prod.mk.injEq] at H
    obtain ⟨rfl, rfl, rfl⟩ := H
    have hnb28 := NB2_1.out
    have hnc28 := NB1_2.out
    have hcz29_0 : wr.cell? ⟨gb2, 0, none⟩ = some (.int .i64 x3000_1) := (blk_cell BK2.out 0).trans rfl
    have hcz29_1 : wr.cell? ⟨gb2, 1, none⟩ = some (.int .i64 x3001_1) := (blk_cell BK2.out 1).trans rfl
    have hcz29_2 : wr.cell? ⟨gb2, 2, none⟩ = some (.int .i64 x3002_1) := (blk_cell BK2.out 2).trans rfl
    have hfz29_0 := blk_frozen BK2.out 0
    have hfz29_1 := blk_frozen BK2.out 1
    have hfz29_2 := blk_frozen BK2.out 2
    have hcz30_0 : wr.cell? ⟨gb1, 0, none⟩ = some (.int .i64 0) := (blk_cell BK1.out 0).trans rfl
    have hcz30_1 : wr.cell? ⟨gb1, 1, none⟩ = some (.int .i64 0) := (blk_cell BK1.out 1).trans rfl
    have hcz30_2 : wr.cell? ⟨gb1, 2, none⟩ = some (.int .i64 0) := (blk_cell BK1.out 2).trans rfl
    have hfz30_0 := blk_frozen BK1.out 0
    have hfz30_1 := blk_frozen BK1.out 1
    have hfz30_2 := blk_frozen BK1.out 2
    go_wp2
    refine bodyPost_ret (results_cell_row rfl _ _ gb1 27 #[.int .i64 x3000_1, .int .i64 x3001_1, .int .i64 x3002_1] (0, 0) _ rfl (by (with_reducible repeat (first|refine blk_drewN ?_ _|refine blk_drew ?_|refine blk_alloc ?_ _));refine blk_put (cs := #[.int .i64 x3000_1, .int .i64 x3001_1, .int .i64 0]) ?_ 2 _ rfl;(with_reducible repeat (first|refine blk_drewN ?_ _|refine blk_drew ?_|refine blk_alloc ?_ _));refine blk_put (cs := #[.int .i64 x3000_1, .int .i64 0, .int .i64 0]) ?_ 1 _ rfl;(with_reducible repeat (first|refine blk_drewN ?_ _|refine blk_drew ?_|refine blk_alloc ?_ _));refine blk_put (cs := #[.int .i64 0, .int .i64 0, .int .i64 0]) ?_ 0 _ rfl;(with_reducible repeat (first|refine blk_drewN ?_ _|refine blk_drew ?_|refine blk_alloc ?_ _));exact BK1.out) Try.underlying27 rfl (by kernel_rfl)) rfl ?_
    exact ⟨by first|rfl|(simp [errW_none, errW_some] <;> rfl)|(simp [*, errW_none, errW_some] <;> rfl), by repeat (first|(with_reducible first|exact HB.out|apply below_alloc|apply pw_below_drewN|apply below_drew1|refine below_set ?_ GE1.out|refine below_set ?_ GE2.out)|exact HB.out)⟩
end Go.Proofs.Ytcgefpklljclgaa.Print

namespace Go.Proofs.Ytcgefpklljclgaa.Print
open Go.RowKit Go.Proofs.YtcgefpklljclgaaW.PrintWords Go.Proofs.YtcgefpklljclgaaW.PrintLast Go.Proofs.YtcgefpklljclgaaW.PrintMore
attribute [local go_sem] max2_int min2_int max_two min_two max_three min_three max_four min_four   -- for this text's walks alone
set_option linter.unusedVariables false
set_option linter.unusedSimpArgs false
attribute [local go_sem high] eqA27
/-! ### law13_awake: function 31 -/
def law13_awake.f (k : Nat)  : Option (Bool) := (room_Of.f k ([] : List (S31)) (⟨#[97]⟩ : ByteArray)).bind fun bt1 => ((room_Of.f k (([(⟨(⟨#[97]⟩ : ByteArray), (⟨#[]⟩ : ByteArray), (⟨4, 0, 0⟩ : S27), (⟨0, 0, 0⟩ : S27), (⟨0, 0, 0⟩ : S27), 1⟩ : S31)] : List (S31))) (⟨#[97]⟩ : ByteArray)).bind fun bt9 => (if bt1.2.2.2 = true then (some false) else (if bt9.2.2.2 = true then (some (bt9.1 == 4 && (bt9.2.1 == 0 && (bt9.2.2.1 == 0)))) else (some false))))
theorem law13_awake.mono : ∀ k, LeO (law13_awake.f k ) (law13_awake.f (k + 1) ) := by
 intro  k
 unfold law13_awake.f
 repeat' first
   | (with_reducible exact room_Of.mono _ _ _)
   | (with_reducible exact LeO.refl _)
   | (with_reducible exact LeO.none _)
   | (with_reducible refine LeO.ite ?_ ?_)
   | (with_reducible refine LeO.bind ?_ (fun _ => ?_))
   | exact room_Of.mono _ _ _
   | exact LeO.none _
   | refine LeO.ite ?_ ?_
   | refine LeO.bind ?_ (fun _ => ?_)
set_option maxHeartbeats 8000000 in
set_option maxRecDepth 100000 in
theorem law13_awake.calls (k : Nat)  (r : Bool) (w : World) (h : law13_awake.f k  = some r) :
  Calls Try.prog 31 #[] w fun e w' => e = .returned (.bool r) ∧ Below w.heap.size w w' := by
 have hu27 := Try.underlying27
 have hu31 := Try.underlying31
 have HB := Aside0.mk (Below.refl w.heap.size w)
 have H : ((room_Of.f k ([] : List (S31)) (⟨#[97]⟩ : ByteArray)).bind fun bt1 => ((room_Of.f k (([(⟨(⟨#[97]⟩ : ByteArray), (⟨#[]⟩ : ByteArray), (⟨4, 0, 0⟩ : S27), (⟨0, 0, 0⟩ : S27), (⟨0, 0, 0⟩ : S27), 1⟩ : S31)] : List (S31))) (⟨#[97]⟩ : ByteArray)).bind fun bt9 => (if bt1.2.2.2 = true then (some false) else (if bt9.2.2.2 = true then (some (bt9.1 == 4 && (bt9.2.1 == 0 && (bt9.2.2.1 == 0)))) else (some false))))) = some r := h
 clear h
 replace H := Option.bind_eq_some_iff.mp H
 obtain ⟨⟨t1, t2, t3, t4⟩, A10, H⟩ := H
 replace H : ((room_Of.f k (([(⟨(⟨#[97]⟩ : ByteArray), (⟨#[]⟩ : ByteArray), (⟨4, 0, 0⟩ : S27), (⟨0, 0, 0⟩ : S27), (⟨0, 0, 0⟩ : S27), 1⟩ : S31)] : List (S31))) (⟨#[97]⟩ : ByteArray)).bind fun bt9 => (if t4 = true then (some false) else (if bt9.2.2.2 = true then (some (bt9.1 == 4 && (bt9.2.1 == 0 && (bt9.2.2.1 == 0)))) else (some false)))) = some r := H
 have A1 := Aside0.mk A10
 clear A10
 obtain ⟨y6, hy6⟩ : ∃ y_ : List (S31), y_ = (([(⟨(⟨#[97]⟩ : ByteArray), (⟨#[]⟩ : ByteArray), (⟨4, 0, 0⟩ : S27), (⟨0, 0, 0⟩ : S27), (⟨0, 0, 0⟩ : S27), 1⟩ : S31)] : List (S31))) := ⟨_, rfl⟩
 replace H : ((room_Of.f k y6 (⟨#[97]⟩ : ByteArray)).bind fun bt9 => (if t4 = true then (some false) else (if bt9.2.2.2 = true then (some (bt9.1 == 4 && (bt9.2.1 == 0 && (bt9.2.2.1 == 0)))) else (some false)))) = some r := by first|(rw [hy6];with_reducible exact H)|(have H2_ := (Option.bind_some _ _).symm.trans H;rw [hy6];with_reducible exact H2_)|(have H2_ := (Option.bind_some _ _).symm.trans H;with_reducible exact H2_)|with_reducible exact H|(rw [hy6];exact H)|exact H
 have Ny6 := Aside0.mk hy6
 clear hy6
 replace H := Option.bind_eq_some_iff.mp H
 obtain ⟨⟨t9, t10, t11, t12⟩, A20, H⟩ := H
 replace H : (if t4 = true then (some false) else (if t12 = true then (some (t9 == 4 && (t10 == 0 && (t11 == 0)))) else (some false))) = some r := H
 have A2 := Aside0.mk A20
 clear A20
 by_cases c3 : t4 = true
 ·subst c3
  have H1 : (some false) = some r := by rw [if_pos rfl] at H; exact H
  clear H
  have H := H1
  clear H1
  obtain rfl := Option.some.inj H
  go_enter Try.func31, Try.ntmps31
  go_wp2_with (first|((with_reducible refine gate_callee (f := 33) rfl ?_);refine goesL_ (some 6) rfl rfl Try.func33 (by kernel_rfl) rfl #[.slice none 0 0, .string (⟨#[97]⟩ : ByteArray)] rfl (by (try simp only [List.map_toArray, List.map_cons, List.map_nil]);first|done|rfl|(simp only [List.length_drop, List.length_take];rfl)) ?_;(refine (room_Of.calls k _ _ ([] : List (S31)) (⟨#[97]⟩ : ByteArray) t1 t2 t3 true _ ?side1 ?side2 A1.out).mono ?_);(case side1 => exact Kd.C_nil _ _);(case side2 => exact Nat.le_refl _);rintro e w4 ⟨rfl, hb⟩;refine ⟨_, rfl, ?_⟩;have n0_ := Aside0.mk (below_step (by repeat (first|(with_reducible first|exact HB.out|apply below_alloc|apply pw_below_drewN|apply below_drew1)|exact HB.out)) hb);clear HB;have HB := n0_;clear n0_;(try clear hb);(try clear hb2);(try clear hk);(try clear hi))|((with_reducible refine gate_dst (N := 1) rfl ?_);refine box_event ?hg (N := 1) ?hd (cs := #[.int .i64 0, .int .i64 0, .int .i64 0]) (t := 27) ?hr ?_;(case hd => rfl);(case hg => rfl);(case hr => first|(go_simp;done)|(go_simp;rfl));intro gb5 hg w5 hbox hb;have n0_ := Aside0.mk (below_step (by repeat (first|(with_reducible first|exact HB.out|apply below_alloc|apply pw_below_drewN|apply below_drew1)|exact HB.out)) hb);have n1_ := Aside0.mk (hbox);have n2_ := Aside0.mk ((by rw [hg];exact (below_size (by repeat (first|(with_reducible first|exact HB.out|apply below_alloc|apply pw_below_drewN|apply below_drew1)|exact HB.out))) : w.heap.size ≤ gb5));have n3_ := Aside0.mk ((by rw [hg];exact (below_size (by repeat (first|(with_reducible first|exact HB.out|apply below_alloc|apply pw_below_drewN|apply below_drew1)|exact HB.out))) : w.heap.size ≤ gb5));clear HB;have HB := n0_;have BK5 := n1_;have GW5 := n2_;have GE5 := n3_;clear n0_ n1_ n2_ n3_;clear hb hbox hg;have hcz6_0 : w5.cell? ⟨gb5, 0, none⟩ = some (.int .i64 0) := (blk_cell BK5.out 0).trans rfl;have hcz6_1 : w5.cell? ⟨gb5, 1, none⟩ = some (.int .i64 0) := (blk_cell BK5.out 1).trans rfl;have hcz6_2 : w5.cell? ⟨gb5, 2, none⟩ = some (.int .i64 0) := (blk_cell BK5.out 2).trans rfl;have hfz6_0 := blk_frozen BK5.out 0;have hfz6_1 := blk_frozen BK5.out 1;have hfz6_2 := blk_frozen BK5.out 2)|((with_reducible refine gate_dst (N := 12) rfl ?_);refine Kd.R_lit k31 _ 31 ?hg (N := 12) ?hd (xs := ([(⟨(⟨#[97]⟩ : ByteArray), (⟨#[]⟩ : ByteArray), (⟨4, 0, 0⟩ : S27), (⟨0, 0, 0⟩ : S27), (⟨0, 0, 0⟩ : S27), 1⟩ : S31)] : List (S31))) (inner := [.string (⟨#[97]⟩ : ByteArray), .string (⟨#[]⟩ : ByteArray), .int .i64 4, .int .i64 0, .int .i64 0, .int .i64 0, .int .i64 0, .int .i64 0, .int .i64 0, .int .i64 0, .int .i64 0, .int .i64 1]) (ok := fun _ => True) (okp := fun _ => True) ?hr ?hp (fun _ hk => hk) trivial (Below.refl _ _) (Nat.le_refl _) (by simp) ?_;(case hd => rfl);(case hg => rfl);(case hr => first|(go_simp;done)|(go_simp;rfl));(case hp => exact (Reps.front (show Kd.M k31 _ _ _ (⟨(⟨#[97]⟩ : ByteArray), (⟨#[]⟩ : ByteArray), (⟨4, 0, 0⟩ : S27), (⟨0, 0, 0⟩ : S27), (⟨0, 0, 0⟩ : S27), 1⟩ : S31) [.string (⟨#[97]⟩ : ByteArray), .string (⟨#[]⟩ : ByteArray), .int .i64 4, .int .i64 0, .int .i64 0, .int .i64 0, .int .i64 0, .int .i64 0, .int .i64 0, .int .i64 0, .int .i64 0, .int .i64 1] from (k31_mkM _ _ _ (⟨(⟨#[97]⟩ : ByteArray), (⟨#[]⟩ : ByteArray), (⟨4, 0, 0⟩ : S27), (⟨0, 0, 0⟩ : S27), (⟨0, 0, 0⟩ : S27), 1⟩ : S31) )) rfl (Reps.none _ _) rfl));intro v7 w7 ho8 hb hg_ hnew_;clear hg_ hnew_;(first|rw [← Ny6.out] at ho8|(simp only [Int.reduceToNat] at ho8;rw [← Ny6.out] at ho8));have n0_ := Aside0.mk (Kd.R_lower ho8 (below_size (by repeat (first|(with_reducible first|exact HB.out|apply below_alloc|apply pw_below_drewN|apply below_drew1|refine below_set ?_ GE5.out)|exact HB.out))));have n1_ := Aside0.mk (blk_below (g := gb5) (o := .cells #[.int .i64 t1, .int .i64 t2, .int .i64 t3] 27 (0, 0)) (by (with_reducible repeat (first|refine blk_drewN ?_ _|refine blk_drew ?_|refine blk_alloc ?_ _));refine blk_put (cs := #[.int .i64 t1, .int .i64 t2, .int .i64 0]) ?_ 2 _ rfl;(with_reducible repeat (first|refine blk_drewN ?_ _|refine blk_drew ?_|refine blk_alloc ?_ _));refine blk_put (cs := #[.int .i64 t1, .int .i64 0, .int .i64 0]) ?_ 1 _ rfl;(with_reducible repeat (first|refine blk_drewN ?_ _|refine blk_drew ?_|refine blk_alloc ?_ _));refine blk_put (cs := #[.int .i64 0, .int .i64 0, .int .i64 0]) ?_ 0 _ rfl;(with_reducible repeat (first|refine blk_drewN ?_ _|refine blk_drew ?_|refine blk_alloc ?_ _));exact BK5.out) hb);have n2_ := Aside0.mk (below_step (by repeat (first|(with_reducible first|exact HB.out|apply below_alloc|apply pw_below_drewN|apply below_drew1|refine below_set ?_ GE5.out)|exact HB.out)) hb);clear BK5;clear HB;have HO8 := n0_;have BK5 := n1_;have HB := n2_;clear n0_ n1_ n2_;clear hb ho8;obtain ⟨Ao9, co9, eo9⟩ := Kd.R_slice HO8.out;subst eo9)|((with_reducible refine gate_callee (f := 33) rfl ?_);refine goesL_ (some 13) rfl rfl Try.func33 (by kernel_rfl) rfl #[.slice Ao9 y6.length co9, .string (⟨#[97]⟩ : ByteArray)] rfl (by (try simp only [List.map_toArray, List.map_cons, List.map_nil]);first|done|rfl|(simp only [List.length_drop, List.length_take];rfl)) ?_;(with_reducible refine (room_Of.calls k _ _ y6 (⟨#[97]⟩ : ByteArray) t9 t10 t11 t12 _ ?side1 ?side2 A2.out).mono ?_);(case side1 => repeat (first|exact (Kd.R_reads' HO8.out).2.2|(with_reducible refine Kd.C_alloc ?_ _)|(with_reducible refine Kd.C_drewN ?_ _)|(with_reducible refine Kd.C_drew ?_)));(case side2 => exact (Kd.R_reads' HO8.out).2.1);rintro e w10 ⟨rfl, hb⟩;refine ⟨_, rfl, ?_⟩;have n0_ := Aside0.mk (Kd.R_below (by (with_reducible repeat (first|apply Kd.R_alloc|apply Kd.R_drewN|apply Kd.R_drew));exact HO8.out) hb);have n1_ := Aside0.mk (blk_below (g := gb5) (o := .cells #[.int .i64 t1, .int .i64 t2, .int .i64 t3] 27 (0, 0)) (by (with_reducible repeat (first|refine blk_drewN ?_ _|refine blk_drew ?_|refine blk_alloc ?_ _));exact BK5.out) hb);have n2_ := Aside0.mk (below_step (by repeat (first|(with_reducible first|exact HB.out|apply below_alloc|apply pw_below_drewN|apply below_drew1|refine below_set ?_ GE5.out)|exact HB.out)) hb);clear HO8;clear BK5;clear HB;have HO8 := n0_;have BK5 := n1_;have HB := n2_;clear n0_ n1_ n2_;(try clear hb);(try clear hb2);(try clear hk);(try clear hi))|((with_reducible refine gate_dst (N := 3) rfl ?_);refine box_event ?hg (N := 3) ?hd (cs := #[.int .i64 0, .int .i64 0, .int .i64 0]) (t := 27) ?hr ?_;(case hd => rfl);(case hg => rfl);(case hr => first|(go_simp;done)|(go_simp;rfl));intro gb13 hg w11 hbox hb;have n0_ := Aside0.mk (Kd.R_below (by (with_reducible repeat (first|apply Kd.R_alloc|apply Kd.R_drewN|apply Kd.R_drew));exact HO8.out) hb);have n1_ := Aside0.mk (blk_below (g := gb5) (o := .cells #[.int .i64 t1, .int .i64 t2, .int .i64 t3] 27 (0, 0)) (by (with_reducible repeat (first|refine blk_drewN ?_ _|refine blk_drew ?_|refine blk_alloc ?_ _));exact BK5.out) hb);have n2_ := Aside0.mk (below_step (by repeat (first|(with_reducible first|exact HB.out|apply below_alloc|apply pw_below_drewN|apply below_drew1|refine below_set ?_ GE5.out)|exact HB.out)) hb);have n3_ := Aside0.mk (hbox);have n4_ := Aside0.mk ((by rw [hg];exact (below_size (by repeat (first|(with_reducible first|exact HB.out|apply below_alloc|apply pw_below_drewN|apply below_drew1|refine below_set ?_ GE5.out)|exact HB.out))) : w.heap.size ≤ gb13));have n5_ := Aside0.mk ((by rw [hg];exact (below_size (by repeat (first|(with_reducible first|exact HB.out|apply below_alloc|apply pw_below_drewN|apply below_drew1|refine below_set ?_ GE5.out)|exact HB.out))) : w.heap.size ≤ gb13));have n6_ := Aside0.mk ((by rw [hg];exact Nat.ne_of_lt (blk_lt (g := gb5) (o := .cells #[.int .i64 t1, .int .i64 t2, .int .i64 t3] 27 (0, 0)) (by (with_reducible repeat (first|refine blk_drewN ?_ _|refine blk_drew ?_|refine blk_alloc ?_ _));exact BK5.out)) : gb5 ≠ gb13));have n7_ := Aside0.mk ((by rw [hg];exact Nat.ne_of_gt (blk_lt (g := gb5) (o := .cells #[.int .i64 t1, .int .i64 t2, .int .i64 t3] 27 (0, 0)) (by (with_reducible repeat (first|refine blk_drewN ?_ _|refine blk_drew ?_|refine blk_alloc ?_ _));exact BK5.out)) : gb13 ≠ gb5));clear HO8;clear BK5;clear HB;have HO8 := n0_;have BK5 := n1_;have HB := n2_;have BK13 := n3_;have GW13 := n4_;have GE13 := n5_;have NB5_13 := n6_;have NB13_5 := n7_;clear n0_ n1_ n2_ n3_ n4_ n5_ n6_ n7_;clear hb hbox hg;have hnb12 := NB13_5.out;have hnc12 := NB5_13.out;have hcz13_0 : w11.cell? ⟨gb13, 0, none⟩ = some (.int .i64 0) := (blk_cell BK13.out 0).trans rfl;have hcz13_1 : w11.cell? ⟨gb13, 1, none⟩ = some (.int .i64 0) := (blk_cell BK13.out 1).trans rfl;have hcz13_2 : w11.cell? ⟨gb13, 2, none⟩ = some (.int .i64 0) := (blk_cell BK13.out 2).trans rfl;have hfz13_0 := blk_frozen BK13.out 0;have hfz13_1 := blk_frozen BK13.out 1;have hfz13_2 := blk_frozen BK13.out 2))
  go_ret
  exact ⟨by first|rfl|(simp [errW_none, errW_some] <;> rfl)|(simp [*, errW_none, errW_some] <;> rfl), by repeat (first|(with_reducible first|exact HB.out|apply below_alloc|apply pw_below_drewN|apply below_drew1|refine below_set ?_ GE5.out|refine below_set ?_ GE13.out)|exact HB.out)⟩
 ·replace c3 := Bool.eq_false_iff.mpr c3
  subst c3
  have H1 : (if t12 = true then (some (t9 == 4 && (t10 == 0 && (t11 == 0)))) else (some false)) = some r := by rw [if_neg (show ¬ (false = true) by decide)] at H; exact H
  clear H
  have H := H1
  clear H1
  by_cases c14 : t12 = true
  ·subst c14
   have H1 : (some (t9 == 4 && (t10 == 0 && (t11 == 0)))) = some r := by rw [if_pos rfl] at H; exact H
   clear H
   have H := H1
   clear H1
   obtain rfl := Option.some.inj H
   go_enter Try.func31, Try.ntmps31
   go_wp2_with (first|((with_reducible refine gate_callee (f := 33) rfl ?_);refine goesL_ (some 6) rfl rfl Try.func33 (by kernel_rfl) rfl #[.slice none 0 0, .string (⟨#[97]⟩ : ByteArray)] rfl (by (try simp only [List.map_toArray, List.map_cons, List.map_nil]);first|done|rfl|(simp only [List.length_drop, List.length_take];rfl)) ?_;(refine (room_Of.calls k _ _ ([] : List (S31)) (⟨#[97]⟩ : ByteArray) t1 t2 t3 false _ ?side1 ?side2 A1.out).mono ?_);(case side1 => exact Kd.C_nil _ _);(case side2 => exact Nat.le_refl _);rintro e w15 ⟨rfl, hb⟩;refine ⟨_, rfl, ?_⟩;have n0_ := Aside0.mk (below_step (by repeat (first|(with_reducible first|exact HB.out|apply below_alloc|apply pw_below_drewN|apply below_drew1)|exact HB.out)) hb);clear HB;have HB := n0_;clear n0_;(try clear hb);(try clear hb2);(try clear hk);(try clear hi))|((with_reducible refine gate_dst (N := 1) rfl ?_);refine box_event ?hg (N := 1) ?hd (cs := #[.int .i64 0, .int .i64 0, .int .i64 0]) (t := 27) ?hr ?_;(case hd => rfl);(case hg => rfl);(case hr => first|(go_simp;done)|(go_simp;rfl));intro gb5 hg w16 hbox hb;have n0_ := Aside0.mk (below_step (by repeat (first|(with_reducible first|exact HB.out|apply below_alloc|apply pw_below_drewN|apply below_drew1)|exact HB.out)) hb);have n1_ := Aside0.mk (hbox);have n2_ := Aside0.mk ((by rw [hg];exact (below_size (by repeat (first|(with_reducible first|exact HB.out|apply below_alloc|apply pw_below_drewN|apply below_drew1)|exact HB.out))) : w.heap.size ≤ gb5));have n3_ := Aside0.mk ((by rw [hg];exact (below_size (by repeat (first|(with_reducible first|exact HB.out|apply below_alloc|apply pw_below_drewN|apply below_drew1)|exact HB.out))) : w.heap.size ≤ gb5));clear HB;have HB := n0_;have BK5 := n1_;have GW5 := n2_;have GE5 := n3_;clear n0_ n1_ n2_ n3_;clear hb hbox hg;have hcz17_0 : w16.cell? ⟨gb5, 0, none⟩ = some (.int .i64 0) := (blk_cell BK5.out 0).trans rfl;have hcz17_1 : w16.cell? ⟨gb5, 1, none⟩ = some (.int .i64 0) := (blk_cell BK5.out 1).trans rfl;have hcz17_2 : w16.cell? ⟨gb5, 2, none⟩ = some (.int .i64 0) := (blk_cell BK5.out 2).trans rfl;have hfz17_0 := blk_frozen BK5.out 0;have hfz17_1 := blk_frozen BK5.out 1;have hfz17_2 := blk_frozen BK5.out 2)|((with_reducible refine gate_dst (N := 12) rfl ?_);refine Kd.R_lit k31 _ 31 ?hg (N := 12) ?hd (xs := ([(⟨(⟨#[97]⟩ : ByteArray), (⟨#[]⟩ : ByteArray), (⟨4, 0, 0⟩ : S27), (⟨0, 0, 0⟩ : S27), (⟨0, 0, 0⟩ : S27), 1⟩ : S31)] : List (S31))) (inner := [.string (⟨#[97]⟩ : ByteArray), .string (⟨#[]⟩ : ByteArray), .int .i64 4, .int .i64 0, .int .i64 0, .int .i64 0, .int .i64 0, .int .i64 0, .int .i64 0, .int .i64 0, .int .i64 0, .int .i64 1]) (ok := fun _ => True) (okp := fun _ => True) ?hr ?hp (fun _ hk => hk) trivial (Below.refl _ _) (Nat.le_refl _) (by simp) ?_;(case hd => rfl);(case hg => rfl);(case hr => first|(go_simp;done)|(go_simp;rfl));(case hp => exact (Reps.front (show Kd.M k31 _ _ _ (⟨(⟨#[97]⟩ : ByteArray), (⟨#[]⟩ : ByteArray), (⟨4, 0, 0⟩ : S27), (⟨0, 0, 0⟩ : S27), (⟨0, 0, 0⟩ : S27), 1⟩ : S31) [.string (⟨#[97]⟩ : ByteArray), .string (⟨#[]⟩ : ByteArray), .int .i64 4, .int .i64 0, .int .i64 0, .int .i64 0, .int .i64 0, .int .i64 0, .int .i64 0, .int .i64 0, .int .i64 0, .int .i64 1] from (k31_mkM _ _ _ (⟨(⟨#[97]⟩ : ByteArray), (⟨#[]⟩ : ByteArray), (⟨4, 0, 0⟩ : S27), (⟨0, 0, 0⟩ : S27), (⟨0, 0, 0⟩ : S27), 1⟩ : S31) )) rfl (Reps.none _ _) rfl));intro v7 w18 ho19 hb hg_ hnew_;clear hg_ hnew_;(first|rw [← Ny6.out] at ho19|(simp only [Int.reduceToNat] at ho19;rw [← Ny6.out] at ho19));have n0_ := Aside0.mk (Kd.R_lower ho19 (below_size (by repeat (first|(with_reducible first|exact HB.out|apply below_alloc|apply pw_below_drewN|apply below_drew1|refine below_set ?_ GE5.out)|exact HB.out))));have n1_ := Aside0.mk (blk_below (g := gb5) (o := .cells #[.int .i64 t1, .int .i64 t2, .int .i64 t3] 27 (0, 0)) (by (with_reducible repeat (first|refine blk_drewN ?_ _|refine blk_drew ?_|refine blk_alloc ?_ _));refine blk_put (cs := #[.int .i64 t1, .int .i64 t2, .int .i64 0]) ?_ 2 _ rfl;(with_reducible repeat (first|refine blk_drewN ?_ _|refine blk_drew ?_|refine blk_alloc ?_ _));refine blk_put (cs := #[.int .i64 t1, .int .i64 0, .int .i64 0]) ?_ 1 _ rfl;(with_reducible repeat (first|refine blk_drewN ?_ _|refine blk_drew ?_|refine blk_alloc ?_ _));refine blk_put (cs := #[.int .i64 0, .int .i64 0, .int .i64 0]) ?_ 0 _ rfl;(with_reducible repeat (first|refine blk_drewN ?_ _|refine blk_drew ?_|refine blk_alloc ?_ _));exact BK5.out) hb);have n2_ := Aside0.mk (below_step (by repeat (first|(with_reducible first|exact HB.out|apply below_alloc|apply pw_below_drewN|apply below_drew1|refine below_set ?_ GE5.out)|exact HB.out)) hb);clear BK5;clear HB;have HO8 := n0_;have BK5 := n1_;have HB := n2_;clear n0_ n1_ n2_;clear hb ho19;obtain ⟨Ao20, co20, eo20⟩ := Kd.R_slice HO8.out;subst eo20)|((with_reducible refine gate_callee (f := 33) rfl ?_);refine goesL_ (some 13) rfl rfl Try.func33 (by kernel_rfl) rfl #[.slice Ao20 y6.length co20, .string (⟨#[97]⟩ : ByteArray)] rfl (by (try simp only [List.map_toArray, List.map_cons, List.map_nil]);first|done|rfl|(simp only [List.length_drop, List.length_take];rfl)) ?_;(with_reducible refine (room_Of.calls k _ _ y6 (⟨#[97]⟩ : ByteArray) t9 t10 t11 true _ ?side1 ?side2 A2.out).mono ?_);(case side1 => repeat (first|exact (Kd.R_reads' HO8.out).2.2|(with_reducible refine Kd.C_alloc ?_ _)|(with_reducible refine Kd.C_drewN ?_ _)|(with_reducible refine Kd.C_drew ?_)));(case side2 => exact (Kd.R_reads' HO8.out).2.1);rintro e w21 ⟨rfl, hb⟩;refine ⟨_, rfl, ?_⟩;have n0_ := Aside0.mk (Kd.R_below (by (with_reducible repeat (first|apply Kd.R_alloc|apply Kd.R_drewN|apply Kd.R_drew));exact HO8.out) hb);have n1_ := Aside0.mk (blk_below (g := gb5) (o := .cells #[.int .i64 t1, .int .i64 t2, .int .i64 t3] 27 (0, 0)) (by (with_reducible repeat (first|refine blk_drewN ?_ _|refine blk_drew ?_|refine blk_alloc ?_ _));exact BK5.out) hb);have n2_ := Aside0.mk (below_step (by repeat (first|(with_reducible first|exact HB.out|apply below_alloc|apply pw_below_drewN|apply below_drew1|refine below_set ?_ GE5.out)|exact HB.out)) hb);clear HO8;clear BK5;clear HB;have HO8 := n0_;have BK5 := n1_;have HB := n2_;clear n0_ n1_ n2_;(try clear hb);(try clear hb2);(try clear hk);(try clear hi))|((with_reducible refine gate_dst (N := 3) rfl ?_);refine box_event ?hg (N := 3) ?hd (cs := #[.int .i64 0, .int .i64 0, .int .i64 0]) (t := 27) ?hr ?_;(case hd => rfl);(case hg => rfl);(case hr => first|(go_simp;done)|(go_simp;rfl));intro gb13 hg w22 hbox hb;have n0_ := Aside0.mk (Kd.R_below (by (with_reducible repeat (first|apply Kd.R_alloc|apply Kd.R_drewN|apply Kd.R_drew));exact HO8.out) hb);have n1_ := Aside0.mk (blk_below (g := gb5) (o := .cells #[.int .i64 t1, .int .i64 t2, .int .i64 t3] 27 (0, 0)) (by (with_reducible repeat (first|refine blk_drewN ?_ _|refine blk_drew ?_|refine blk_alloc ?_ _));exact BK5.out) hb);have n2_ := Aside0.mk (below_step (by repeat (first|(with_reducible first|exact HB.out|apply below_alloc|apply pw_below_drewN|apply below_drew1|refine below_set ?_ GE5.out)|exact HB.out)) hb);have n3_ := Aside0.mk (hbox);have n4_ := Aside0.mk ((by rw [hg];exact (below_size (by repeat (first|(with_reducible first|exact HB.out|apply below_alloc|apply pw_below_drewN|apply below_drew1|refine below_set ?_ GE5.out)|exact HB.out))) : w.heap.size ≤ gb13));have n5_ := Aside0.mk ((by rw [hg];exact (below_size (by repeat (first|(with_reducible first|exact HB.out|apply below_alloc|apply pw_below_drewN|apply below_drew1|refine below_set ?_ GE5.out)|exact HB.out))) : w.heap.size ≤ gb13));have n6_ := Aside0.mk ((by rw [hg];exact Nat.ne_of_lt (blk_lt (g := gb5) (o := .cells #[.int .i64 t1, .int .i64 t2, .int .i64 t3] 27 (0, 0)) (by (with_reducible repeat (first|refine blk_drewN ?_ _|refine blk_drew ?_|refine blk_alloc ?_ _));exact BK5.out)) : gb5 ≠ gb13));have n7_ := Aside0.mk ((by rw [hg];exact Nat.ne_of_gt (blk_lt (g := gb5) (o := .cells #[.int .i64 t1, .int .i64 t2, .int .i64 t3] 27 (0, 0)) (by (with_reducible repeat (first|refine blk_drewN ?_ _|refine blk_drew ?_|refine blk_alloc ?_ _));exact BK5.out)) : gb13 ≠ gb5));clear HO8;clear BK5;clear HB;have HO8 := n0_;have BK5 := n1_;have HB := n2_;have BK13 := n3_;have GW13 := n4_;have GE13 := n5_;have NB5_13 := n6_;have NB13_5 := n7_;clear n0_ n1_ n2_ n3_ n4_ n5_ n6_ n7_;clear hb hbox hg;have hnb23 := NB13_5.out;have hnc23 := NB5_13.out;have hcz24_0 : w22.cell? ⟨gb13, 0, none⟩ = some (.int .i64 0) := (blk_cell BK13.out 0).trans rfl;have hcz24_1 : w22.cell? ⟨gb13, 1, none⟩ = some (.int .i64 0) := (blk_cell BK13.out 1).trans rfl;have hcz24_2 : w22.cell? ⟨gb13, 2, none⟩ = some (.int .i64 0) := (blk_cell BK13.out 2).trans rfl;have hfz24_0 := blk_frozen BK13.out 0;have hfz24_1 := blk_frozen BK13.out 1;have hfz24_2 := blk_frozen BK13.out 2))
   go_ret
   exact ⟨by first|rfl|(simp [errW_none, errW_some] <;> rfl)|(simp [*, errW_none, errW_some] <;> rfl), by repeat (first|(with_reducible first|exact HB.out|apply below_alloc|apply pw_below_drewN|apply below_drew1|refine below_set ?_ GE5.out|refine below_set ?_ GE13.out)|exact HB.out)⟩
  ·replace c14 := Bool.eq_false_iff.mpr c14
   subst c14
   have H1 : (some false) = some r := by rw [if_neg (show ¬ (false = true) by decide)] at H; exact H
   clear H
   have H := H1
   clear H1
   obtain rfl := Option.some.inj H
   go_enter Try.func31, Try.ntmps31
   go_wp2_with (first|((with_reducible refine gate_callee (f := 33) rfl ?_);refine goesL_ (some 6) rfl rfl Try.func33 (by kernel_rfl) rfl #[.slice none 0 0, .string (⟨#[97]⟩ : ByteArray)] rfl (by (try simp only [List.map_toArray, List.map_cons, List.map_nil]);first|done|rfl|(simp only [List.length_drop, List.length_take];rfl)) ?_;(refine (room_Of.calls k _ _ ([] : List (S31)) (⟨#[97]⟩ : ByteArray) t1 t2 t3 false _ ?side1 ?side2 A1.out).mono ?_);(case side1 => exact Kd.C_nil _ _);(case side2 => exact Nat.le_refl _);rintro e w25 ⟨rfl, hb⟩;refine ⟨_, rfl, ?_⟩;have n0_ := Aside0.mk (below_step (by repeat (first|(with_reducible first|exact HB.out|apply below_alloc|apply pw_below_drewN|apply below_drew1)|exact HB.out)) hb);clear HB;have HB := n0_;clear n0_;(try clear hb);(try clear hb2);(try clear hk);(try clear hi))|((with_reducible refine gate_dst (N := 1) rfl ?_);refine box_event ?hg (N := 1) ?hd (cs := #[.int .i64 0, .int .i64 0, .int .i64 0]) (t := 27) ?hr ?_;(case hd => rfl);(case hg => rfl);(case hr => first|(go_simp;done)|(go_simp;rfl));intro gb5 hg w26 hbox hb;have n0_ := Aside0.mk (below_step (by repeat (first|(with_reducible first|exact HB.out|apply below_alloc|apply pw_below_drewN|apply below_drew1)|exact HB.out)) hb);have n1_ := Aside0.mk (hbox);have n2_ := Aside0.mk ((by rw [hg];exact (below_size (by repeat (first|(with_reducible first|exact HB.out|apply below_alloc|apply pw_below_drewN|apply below_drew1)|exact HB.out))) : w.heap.size ≤ gb5));have n3_ := Aside0.mk ((by rw [hg];exact (below_size (by repeat (first|(with_reducible first|exact HB.out|apply below_alloc|apply pw_below_drewN|apply below_drew1)|exact HB.out))) : w.heap.size ≤ gb5));clear HB;have HB := n0_;have BK5 := n1_;have GW5 := n2_;have GE5 := n3_;clear n0_ n1_ n2_ n3_;clear hb hbox hg;have hcz27_0 : w26.cell? ⟨gb5, 0, none⟩ = some (.int .i64 0) := (blk_cell BK5.out 0).trans rfl;have hcz27_1 : w26.cell? ⟨gb5, 1, none⟩ = some (.int .i64 0) := (blk_cell BK5.out 1).trans rfl;have hcz27_2 : w26.cell? ⟨gb5, 2, none⟩ = some (.int .i64 0) := (blk_cell BK5.out 2).trans rfl;have hfz27_0 := blk_frozen BK5.out 0;have hfz27_1 := blk_frozen BK5.out 1;have hfz27_2 := blk_frozen BK5.out 2)|((with_reducible refine gate_dst (N := 12) rfl ?_);refine Kd.R_lit k31 _ 31 ?hg (N := 12) ?hd (xs := ([(⟨(⟨#[97]⟩ : ByteArray), (⟨#[]⟩ : ByteArray), (⟨4, 0, 0⟩ : S27), (⟨0, 0, 0⟩ : S27), (⟨0, 0, 0⟩ : S27), 1⟩ : S31)] : List (S31))) (inner := [.string (⟨#[97]⟩ : ByteArray), .string (⟨#[]⟩ : ByteArray), .int .i64 4, .int .i64 0, .int .i64 0, .int .i64 0, .int .i64 0, .int .i64 0, .int .i64 0, .int .i64 0, .int .i64 0, .int .i64 1]) (ok := fun _ => True) (okp := fun _ => True) ?hr ?hp (fun _ hk => hk) trivial (Below.refl _ _) (Nat.le_refl _) (by simp) ?_;(case hd => rfl);(case hg => rfl);(case hr => first|(go_simp;done)|(go_simp;rfl));(case hp => exact (Reps.front (show Kd.M k31 _ _ _ (⟨(⟨#[97]⟩ : ByteArray), (⟨#[]⟩ : ByteArray), (⟨4, 0, 0⟩ : S27), (⟨0, 0, 0⟩ : S27), (⟨0, 0, 0⟩ : S27), 1⟩ : S31) [.string (⟨#[97]⟩ : ByteArray), .string (⟨#[]⟩ : ByteArray), .int .i64 4, .int .i64 0, .int .i64 0, .int .i64 0, .int .i64 0, .int .i64 0, .int .i64 0, .int .i64 0, .int .i64 0, .int .i64 1] from (k31_mkM _ _ _ (⟨(⟨#[97]⟩ : ByteArray), (⟨#[]⟩ : ByteArray), (⟨4, 0, 0⟩ : S27), (⟨0, 0, 0⟩ : S27), (⟨0, 0, 0⟩ : S27), 1⟩ : S31) )) rfl (Reps.none _ _) rfl));intro v7 w28 ho29 hb hg_ hnew_;clear hg_ hnew_;(first|rw [← Ny6.out] at ho29|(simp only [Int.reduceToNat] at ho29;rw [← Ny6.out] at ho29));have n0_ := Aside0.mk (Kd.R_lower ho29 (below_size (by repeat (first|(with_reducible first|exact HB.out|apply below_alloc|apply pw_below_drewN|apply below_drew1|refine below_set ?_ GE5.out)|exact HB.out))));have n1_ := Aside0.mk (blk_below (g := gb5) (o := .cells #[.int .i64 t1, .int .i64 t2, .int .i64 t3] 27 (0, 0)) (by (with_reducible repeat (first|refine blk_drewN ?_ _|refine blk_drew ?_|refine blk_alloc ?_ _));refine blk_put (cs := #[.int .i64 t1, .int .i64 t2, .int .i64 0]) ?_ 2 _ rfl;(with_reducible repeat (first|refine blk_drewN ?_ _|refine blk_drew ?_|refine blk_alloc ?_ _));refine blk_put (cs := #[.int .i64 t1, .int .i64 0, .int .i64 0]) ?_ 1 _ rfl;(with_reducible repeat (first|refine blk_drewN ?_ _|refine blk_drew ?_|refine blk_alloc ?_ _));refine blk_put (cs := #[.int .i64 0, .int .i64 0, .int .i64 0]) ?_ 0 _ rfl;(with_reducible repeat (first|refine blk_drewN ?_ _|refine blk_drew ?_|refine blk_alloc ?_ _));exact BK5.out) hb);have n2_ := Aside0.mk (below_step (by repeat (first|(with_reducible first|exact HB.out|apply below_alloc|apply pw_below_drewN|apply below_drew1|refine below_set ?_ GE5.out)|exact HB.out)) hb);clear BK5;clear HB;have HO8 := n0_;have BK5 := n1_;have HB := n2_;clear n0_ n1_ n2_;clear hb ho29;obtain ⟨Ao30, co30, eo30⟩ := Kd.R_slice HO8.out;subst eo30)|((with_reducible refine gate_callee (f := 33) rfl ?_);refine goesL_ (some 13) rfl rfl Try.func33 (by kernel_rfl) rfl #[.slice Ao30 y6.length co30, .string (⟨#[97]⟩ : ByteArray)] rfl (by (try simp only [List.map_toArray, List.map_cons, List.map_nil]);first|done|rfl|(simp only [List.length_drop, List.length_take];rfl)) ?_;(with_reducible refine (room_Of.calls k _ _ y6 (⟨#[97]⟩ : ByteArray) t9 t10 t11 false _ ?side1 ?side2 A2.out).mono ?_);(case side1 => repeat (first|exact (Kd.R_reads' HO8.out).2.2|(with_reducible refine Kd.C_alloc ?_ _)|(with_reducible refine Kd.C_drewN ?_ _)|(with_reducible refine Kd.C_drew ?_)));(case side2 => exact (Kd.R_reads' HO8.out).2.1);rintro e w31 ⟨rfl, hb⟩;refine ⟨_, rfl, ?_⟩;have n0_ := Aside0.mk (Kd.R_below (by (with_reducible repeat (first|apply Kd.R_alloc|apply Kd.R_drewN|apply Kd.R_drew));exact HO8.out) hb);have n1_ := Aside0.mk (blk_below (g := gb5) (o := .cells #[.int .i64 t1, .int .i64 t2, .int .i64 t3] 27 (0, 0)) (by (with_reducible repeat (first|refine blk_drewN ?_ _|refine blk_drew ?_|refine blk_alloc ?_ _));exact BK5.out) hb);have n2_ := Aside0.mk (below_step (by repeat (first|(with_reducible first|exact HB.out|apply below_alloc|apply pw_below_drewN|apply below_drew1|refine below_set ?_ GE5.out)|exact HB.out)) hb);clear HO8;clear BK5;clear HB;have HO8 := n0_;have BK5 := n1_;have HB := n2_;clear n0_ n1_ n2_;(try clear hb);(try clear hb2);(try clear hk);(try clear hi))|((with_reducible refine gate_dst (N := 3) rfl ?_);refine box_event ?hg (N := 3) ?hd (cs := #[.int .i64 0, .int .i64 0, .int .i64 0]) (t := 27) ?hr ?_;(case hd => rfl);(case hg => rfl);(case hr => first|(go_simp;done)|(go_simp;rfl));intro gb13 hg w32 hbox hb;have n0_ := Aside0.mk (Kd.R_below (by (with_reducible repeat (first|apply Kd.R_alloc|apply Kd.R_drewN|apply Kd.R_drew));exact HO8.out) hb);have n1_ := Aside0.mk (blk_below (g := gb5) (o := .cells #[.int .i64 t1, .int .i64 t2, .int .i64 t3] 27 (0, 0)) (by (with_reducible repeat (first|refine blk_drewN ?_ _|refine blk_drew ?_|refine blk_alloc ?_ _));exact BK5.out) hb);have n2_ := Aside0.mk (below_step (by repeat (first|(with_reducible first|exact HB.out|apply below_alloc|apply pw_below_drewN|apply below_drew1|refine below_set ?_ GE5.out)|exact HB.out)) hb);have n3_ := Aside0.mk (hbox);have n4_ := Aside0.mk ((by rw [hg];exact (below_size (by repeat (first|(with_reducible first|exact HB.out|apply below_alloc|apply pw_below_drewN|apply below_drew1|refine below_set ?_ GE5.out)|exact HB.out))) : w.heap.size ≤ gb13));have n5_ := Aside0.mk ((by rw [hg];exact (below_size (by repeat (first|(with_reducible first|exact HB.out|apply below_alloc|apply pw_below_drewN|apply below_drew1|refine below_set ?_ GE5.out)|exact HB.out))) : w.heap.size ≤ gb13));have n6_ := Aside0.mk ((by rw [hg];exact Nat.ne_of_lt (blk_lt (g := gb5) (o := .cells #[.int .i64 t1, .int .i64 t2, .int .i64 t3] 27 (0, 0)) (by (with_reducible repeat (first|refine blk_drewN ?_ _|refine blk_drew ?_|refine blk_alloc ?_ _));exact BK5.out)) : gb5 ≠ gb13));have n7_ := Aside0.mk ((by rw [hg];exact Nat.ne_of_gt (blk_lt (g := gb5) (o := .cells #[.int .i64 t1, .int .i64 t2, .int .i64 t3] 27 (0, 0)) (by (with_reducible repeat (first|refine blk_drewN ?_ _|refine blk_drew ?_|refine blk_alloc ?_ _));exact BK5.out)) : gb13 ≠ gb5));clear HO8;clear BK5;clear HB;have HO8 := n0_;have BK5 := n1_;have HB := n2_;have BK13 := n3_;have GW13 := n4_;have GE13 := n5_;have NB5_13 := n6_;have NB13_5 := n7_;clear n0_ n1_ n2_ n3_ n4_ n5_ n6_ n7_;clear hb hbox hg;have hnb33 := NB13_5.out;have hnc33 := NB5_13.out;have hcz34_0 : w32.cell? ⟨gb13, 0, none⟩ = some (.int .i64 0) := (blk_cell BK13.out 0).trans rfl;have hcz34_1 : w32.cell? ⟨gb13, 1, none⟩ = some (.int .i64 0) := (blk_cell BK13.out 1).trans rfl;have hcz34_2 : w32.cell? ⟨gb13, 2, none⟩ = some (.int .i64 0) := (blk_cell BK13.out 2).trans rfl;have hfz34_0 := blk_frozen BK13.out 0;have hfz34_1 := blk_frozen BK13.out 1;have hfz34_2 := blk_frozen BK13.out 2))
   go_ret
   exact ⟨by first|rfl|(simp [errW_none, errW_some] <;> rfl)|(simp [*, errW_none, errW_some] <;> rfl), by repeat (first|(with_reducible first|exact HB.out|apply below_alloc|apply pw_below_drewN|apply below_drew1|refine below_set ?_ GE5.out|refine below_set ?_ GE13.out)|exact HB.out)⟩
end Go.Proofs.Ytcgefpklljclgaa.Print

namespace Go.Proofs.Ytcgefpklljclgaa.Print
open Go.RowKit Go.Proofs.YtcgefpklljclgaaW.PrintWords Go.Proofs.YtcgefpklljclgaaW.PrintLast Go.Proofs.YtcgefpklljclgaaW.PrintMore
attribute [local go_sem] max2_int min2_int max_two min_two max_three min_three max_four min_four   -- for this text's walks alone
set_option linter.unusedVariables false
set_option linter.unusedSimpArgs false
mutual
def law12_Great.l0 : Nat → List (S31) → Int → Option (Bool)
 | 0, _, _ => none
 | k + 1, x0, x3 => if x3 < (x0.length : Int) then (law12_Great.j1 k x0 x3 (decide (x3 < 150))) else (law12_Great.j1 k x0 x3 false)
def law12_Great.j1 : Nat → List (S31) → Int → Bool → Option (Bool)
 | 0, _, _, _ => none
 | k + 1, x0, x3, x11 => if x11 = true then (if 0 ≤ x3 then (if x3 < (x0.length : Int) then (if (((rd_T31 x0 x3).f0).size : Int) > 100 then (some true) else (if (((rd_T31 x0 x3).f1).size : Int) > 100 then (some true) else (law12_Great.l0 k x0 (wrap64 (x3 + 1))))) else (none)) else (none)) else (some (decide ((x0.length : Int) > 130)))
end
def law12_Great.f (k : Nat) (l0 : List (S31)) : Option (Bool) := law12_Great.l0 k l0 0
theorem law12_Great.mono_l : ∀ k, (∀ y0 y1, LeO (law12_Great.l0 k y0 y1) (law12_Great.l0 (k + 1) y0 y1)) ∧ (∀ y0 y1 y2, LeO (law12_Great.j1 k y0 y1 y2) (law12_Great.j1 (k + 1) y0 y1 y2))
 | 0 => ⟨fun _ _ r h => by simp [law12_Great.l0] at h, fun _ _ _ r h => by simp [law12_Great.j1] at h⟩
 | k + 1 => by
  obtain ⟨ih0, ih1⟩ := law12_Great.mono_l k
  refine ⟨?_, ?_⟩
  ·intro y0 y1
   unfold law12_Great.l0
   repeat' first
   | (with_reducible exact ih0 _ _)
   | (with_reducible exact ih1 _ _ _)
   | (with_reducible exact LeO.refl _)
   | (with_reducible exact LeO.none _)
   | (with_reducible refine LeO.ite ?_ ?_)
   | (with_reducible refine LeO.bind ?_ (fun _ => ?_))
   | exact ih0 _ _
   | exact ih1 _ _ _
   | exact LeO.none _
   | refine LeO.ite ?_ ?_
   | refine LeO.bind ?_ (fun _ => ?_)
  ·intro y0 y1 y2
   unfold law12_Great.j1
   repeat' first
   | (with_reducible exact ih0 _ _)
   | (with_reducible exact ih1 _ _ _)
   | (with_reducible exact LeO.refl _)
   | (with_reducible exact LeO.none _)
   | (with_reducible refine LeO.ite ?_ ?_)
   | (with_reducible refine LeO.bind ?_ (fun _ => ?_))
   | exact ih0 _ _
   | exact ih1 _ _ _
   | exact LeO.none _
   | refine LeO.ite ?_ ?_
   | refine LeO.bind ?_ (fun _ => ?_)
theorem law12_Great.mono : ∀ a0 k, LeO (law12_Great.f k a0) (law12_Great.f (k + 1) a0) := by
 intro a0 k
 obtain ⟨ih0, ih1⟩ := law12_Great.mono_l k
 unfold law12_Great.f
 repeat' first
   | (with_reducible exact ih0 _ _)
   | (with_reducible exact ih1 _ _ _)
   | (with_reducible exact LeO.refl _)
   | (with_reducible exact LeO.none _)
   | (with_reducible refine LeO.ite ?_ ?_)
   | (with_reducible refine LeO.bind ?_ (fun _ => ?_))
   | exact ih0 _ _
   | exact ih1 _ _ _
   | exact LeO.none _
   | refine LeO.ite ?_ ?_
   | refine LeO.bind ?_ (fun _ => ?_)
set_option maxHeartbeats 8000000 in
set_option maxRecDepth 100000 in
theorem law12_Great.calls (k : Nat) (A0 : Option Addr) (c0 : Nat) (l0 : List (S31)) (r : Bool) (w : World) (hr0 : Kd.C k31 w A0 l0.length l0) (hc0 : l0.length ≤ c0) (h : law12_Great.f k l0 = some r) :
  Calls Try.prog 36 #[.slice A0 l0.length c0] w fun e w' => e = .returned (.bool r) ∧ Drawn0 w w' := by
 have HR0 := Aside0.mk hr0
 have HC0 := Aside0.mk hc0
 clear hr0 hc0
 have H : (law12_Great.l0 k l0 0) = some r := h
 clear h
 have H' := Aside0.mk H
 clear H
 go_enter Try.func36, Try.ntmps36
 go_wp2
 go_loopg [3] k (fun kq v3 w' => ∃ (x3_1 : Int), v3 = .int .i64 x3_1 ∧ Aside0 (law12_Great.l0 kq l0 x3_1 = some r) ∧ Aside0 (kq ≤ k) ∧ Drawn0 w w')
 case atStart => exact ⟨(0), (by first | rfl | (simp; done) | (simp [*]; done)), H', ⟨Nat.le_refl _⟩, by repeat (first | exact Drawn0.refl _ | apply Drawn0.step)⟩
 case round =>
  clear H'
  obtain ⟨x3_1, rfl, HA, HK1, ⟨m1, rfl⟩⟩ := hrel
  cases gk with
  | zero => exact absurd HA.out (by simp [law12_Great.l0])
  | succ k1 =>
   have H := HA.out
   clear HA
   simp only [law12_Great.l0] at H
   have HC2 := Aside0.mk H
   clear H
   go_upto_region 2 with (fail)
   go_cut [11] (fun v11 wc => ∃ (kq : Nat) (x11_1 : Bool), v11 = .bool x11_1 ∧ Aside0 (law12_Great.j1 kq l0 x3_1 x11_1 = some r) ∧ Aside0 (kq ≤ k1) ∧ Drawn0 w wc)
   case first =>
    have H := HC2.out
    clear HC2
    by_cases c3 : x3_1 < (l0.length : Int)
    ·rw [if_pos c3] at H
     have c3b0 : decide (x3_1 < (l0.length : Int)) = true := decide_eq_true c3
     clear c3
     (first | rw [c3b0] | (simp only [i64_w, i32_w]; rw [c3b0]) | skip)
     have H' := Aside0.mk H
     clear H
     go_wp2
     go_meet
     case rel => exact ⟨_, (decide (x3_1 < 150)), (by first|rfl|(simp;done)|(simp [*];done)), H', ⟨by have := HK1.out;first|omega|exact Nat.le_refl _⟩, by repeat (first|exact Drawn0.refl _|apply Drawn0.step)⟩
    ·rw [if_neg c3] at H
     have c3b0 : decide (x3_1 < (l0.length : Int)) = false := decide_eq_false c3
     clear c3
     (first | rw [c3b0] | (simp only [i64_w, i32_w]; rw [c3b0]) | skip)
     have H' := Aside0.mk H
     clear H
     go_wp2
     go_meet
     case rel => exact ⟨_, (false), (by first|rfl|(simp;done)|(simp [*];done)), H', ⟨by have := HK1.out;first|omega|exact Nat.le_refl _⟩, by repeat (first|exact Drawn0.refl _|apply Drawn0.step)⟩
   case rest =>
    clear HC2
    try clear p2
    try clear c3
    try clear c3b0
    obtain ⟨kq, x11_1, rfl, HA, HJ1, ⟨mc1, rfl⟩⟩ := hcut
    cases kq with
    | zero => exact absurd HA.out (by simp [law12_Great.j1])
    | succ kj1 =>
     have H := HA.out
     clear HA
     simp only [law12_Great.j1] at H
     by_cases c4 : x11_1 = true
     ·subst c4
      have H1 : (if 0 ≤ x3_1 then (if x3_1 < (l0.length : Int) then (if (((rd_T31 l0 x3_1).f0).size : Int) > 100 then (some true) else (if (((rd_T31 l0 x3_1).f1).size : Int) > 100 then (some true) else (law12_Great.l0 kj1 l0 (wrap64 (x3_1 + 1))))) else (none)) else (none)) = some r := by rw [if_pos rfl] at H; exact H
      clear H
      have H := H1
      clear H1
      by_cases c5 : 0 ≤ x3_1
      ·rw [if_pos c5] at H
       have c5b0 : decide (0 ≤ x3_1) = true := decide_eq_true c5
       clear c5
       by_cases c6 : x3_1 < (l0.length : Int)
       ·rw [if_pos c6] at H
        have c6b0 : decide (x3_1 < (l0.length : Int)) = true := decide_eq_true c6
        clear c6
        by_cases c7 : (((rd_T31 l0 x3_1).f0).size : Int) > 100
        ·rw [if_pos c7] at H
         have c7b0 : decide (100 < (((rd_T31 l0 x3_1).f0).size : Int)) = true := decide_eq_true c7
         have c7b1 : decide (100 < ((rd_T31 l0 x3_1).f0).size) = true := decide_eq_true (by omega)
         clear c7
         obtain rfl := Option.some.inj H
         have p1 : 0 ≤ (x3_1 : Int) := of_decide_eq_true (by first|(with_reducible assumption)|assumption)
         have q1 : x3_1 < (l0.length : Int) := of_decide_eq_true (by first|(with_reducible assumption)|assumption)
         obtain ⟨ad1, e1, hx1_0, hx1_1, hx1_2, hx1_3, hx1_4, hx1_5, hx1_6, hx1_7, hx1_8, hx1_9, hx1_10, hx1_11⟩ := at_T31 HR0.out x3_1 p1 q1
         cases e1
         replace p1 := eq_true p1
         replace q1 := eq_true q1
         go_wp2
         go_ret
         exact ⟨by first | rfl | (simp; done) | (simp [*]; done), by repeat (first | exact Drawn0.refl _ | apply Drawn0.step)⟩
        ·rw [if_neg c7] at H
         have c7b0 : decide (100 < (((rd_T31 l0 x3_1).f0).size : Int)) = false := decide_eq_false c7
         have c7b1 : decide (100 < ((rd_T31 l0 x3_1).f0).size) = false := decide_eq_false (by omega)
         clear c7
         by_cases c8 : (((rd_T31 l0 x3_1).f1).size : Int) > 100
         ·rw [if_pos c8] at H
          have c8b0 : decide (100 < (((rd_T31 l0 x3_1).f1).size : Int)) = true := decide_eq_true c8
          have c8b1 : decide (100 < ((rd_T31 l0 x3_1).f1).size) = true := decide_eq_true (by omega)
          clear c8
          obtain rfl := Option.some.inj H
          have p1 : 0 ≤ (x3_1 : Int) := of_decide_eq_true (by first|(with_reducible assumption)|assumption)
          have q1 : x3_1 < (l0.length : Int) := of_decide_eq_true (by first|(with_reducible assumption)|assumption)
          obtain ⟨ad1, e1, hx1_0, hx1_1, hx1_2, hx1_3, hx1_4, hx1_5, hx1_6, hx1_7, hx1_8, hx1_9, hx1_10, hx1_11⟩ := at_T31 HR0.out x3_1 p1 q1
          cases e1
          replace p1 := eq_true p1
          replace q1 := eq_true q1
          have p2 : 0 ≤ (x3_1 : Int) := of_decide_eq_true (by first|(with_reducible assumption)|assumption)
          have q2 : x3_1 < (l0.length : Int) := of_decide_eq_true (by first|(with_reducible assumption)|assumption)
          obtain ⟨ad2, e2, hx2_0, hx2_1, hx2_2, hx2_3, hx2_4, hx2_5, hx2_6, hx2_7, hx2_8, hx2_9, hx2_10, hx2_11⟩ := at_T31 HR0.out x3_1 p2 q2
          obtain rfl : ad1 = ad2 := (by injection e2)
          replace p2 := eq_true p2
          replace q2 := eq_true q2
          go_wp2
          go_ret
          exact ⟨by first | rfl | (simp; done) | (simp [*]; done), by repeat (first | exact Drawn0.refl _ | apply Drawn0.step)⟩
         ·rw [if_neg c8] at H
          have c8b0 : decide (100 < (((rd_T31 l0 x3_1).f1).size : Int)) = false := decide_eq_false c8
          have c8b1 : decide (100 < ((rd_T31 l0 x3_1).f1).size) = false := decide_eq_false (by omega)
          clear c8
          have H' := Aside0.mk H
          clear H
          have p1 : 0 ≤ (x3_1 : Int) := of_decide_eq_true (by first|(with_reducible assumption)|assumption)
          have q1 : x3_1 < (l0.length : Int) := of_decide_eq_true (by first|(with_reducible assumption)|assumption)
          obtain ⟨ad1, e1, hx1_0, hx1_1, hx1_2, hx1_3, hx1_4, hx1_5, hx1_6, hx1_7, hx1_8, hx1_9, hx1_10, hx1_11⟩ := at_T31 HR0.out x3_1 p1 q1
          cases e1
          replace p1 := eq_true p1
          replace q1 := eq_true q1
          have p2 : 0 ≤ (x3_1 : Int) := of_decide_eq_true (by first|(with_reducible assumption)|assumption)
          have q2 : x3_1 < (l0.length : Int) := of_decide_eq_true (by first|(with_reducible assumption)|assumption)
          obtain ⟨ad2, e2, hx2_0, hx2_1, hx2_2, hx2_3, hx2_4, hx2_5, hx2_6, hx2_7, hx2_8, hx2_9, hx2_10, hx2_11⟩ := at_T31 HR0.out x3_1 p2 q2
          obtain rfl : ad1 = ad2 := (by injection e2)
          replace p2 := eq_true p2
          replace q2 := eq_true q2
          go_wp2
          go_roundg kj1
          case measure => have := HK1.out; have := HJ1.out; omega
          case rel => exact ⟨(wrap64 (x3_1 + 1)), (by first|rfl|(simp;done)|(simp [*];done)), H', ⟨by have := HK1.out;have := HJ1.out;omega⟩, by repeat (first|exact Drawn0.refl _|apply Drawn0.step)⟩
       ·rw [if_neg c6] at H
        exact absurd H (by simp)
      ·rw [if_neg c5] at H
       exact absurd H (by simp)
     ·replace c4 := Bool.eq_false_iff.mpr c4
      subst c4
      have H1 : (some (decide ((l0.length : Int) > 130))) = some r := by rw [if_neg (show ¬ (false = true) by decide)] at H; exact H
      clear H
      have H := H1
      clear H1
      obtain rfl := Option.some.inj H
      go_wp2
      go_ret
      exact ⟨by first | rfl | (simp; done) | (simp [*]; done), by repeat (first | exact Drawn0.refl _ | apply Drawn0.step)⟩
end Go.Proofs.Ytcgefpklljclgaa.Print

namespace Go.Proofs.Ytcgefpklljclgaa.Print
open Go.RowKit Go.Proofs.YtcgefpklljclgaaW.PrintWords Go.Proofs.YtcgefpklljclgaaW.PrintLast Go.Proofs.YtcgefpklljclgaaW.PrintMore
attribute [local go_sem] max2_int min2_int max_two min_two max_three min_three max_four min_four   -- for this text's walks alone
set_option linter.unusedVariables false
set_option linter.unusedSimpArgs false
attribute [local go_sem high] eqA27
/-! ### law13_RoomAll: function 19 -/
def law13_RoomAll.j0 : Nat → List (S31) → ByteArray → List ByteArray → Bool → Option (Bool)
 | 0, _, _, _, _ => none
 | k + 1, x0, x1, x2, x27 => if x27 = true then ((law13_awake.f k).bind fun t3 => (some t3)) else ((room_Of.f k x0 x1).bind fun bt4 => ((r10_Room.f k x0 x1).bind fun bt9 => (if (bt4.1 == bt9.1 && (bt4.2.1 == bt9.2.1 && (bt4.2.2.1 == bt9.2.2.1))) = true then (if (bt4.2.2.2 == bt9.2.2.2) = true then ((room_Tight.f k x0 x1).bind fun t14 => ((r10_Tight.f k x0 x1).bind fun t17 => ((r1_Texts.f k t14 t17).bind fun t20 => (if t20 = true then ((room_Share.f k x0 x2).bind fun bt21 => ((r10_Share.f k x0 x2).bind fun bt24 => (if (bt21.1 == bt24.1 && (bt21.2.1 == bt24.2.1 && (bt21.2.2 == bt24.2.2))) = true then ((law13_awake.f k).bind fun t27 => (some t27)) else (some false)))) else (some false))))) else (some false)) else (some false))))
def law13_RoomAll.f (k : Nat) (l0 : List (S31)) (a1 : ByteArray) (l2 : List ByteArray) : Option (Bool) := (law12_Great.f k l0).bind fun t1 => (if t1 = true then (law13_RoomAll.j0 k l0 a1 l2 true) else (if (a1.size : Int) > 100 then (law13_RoomAll.j0 k l0 a1 l2 true) else (if (l2.length : Int) > 20 then (law13_RoomAll.j0 k l0 a1 l2 true) else ((r10_Right.f k l0).bind fun t2 => (law13_RoomAll.j0 k l0 a1 l2 (!t2))))))
theorem law13_RoomAll.mono_l : ∀ k, (∀ y0 y1 y2 y3, LeO (law13_RoomAll.j0 k y0 y1 y2 y3) (law13_RoomAll.j0 (k + 1) y0 y1 y2 y3))
 | 0 => fun _ _ _ _ r h => by simp [law13_RoomAll.j0] at h
 | k + 1 => by
  have ih0 := law13_RoomAll.mono_l k
  ·intro y0 y1 y2 y3
   unfold law13_RoomAll.j0
   repeat' first
   | (with_reducible exact ih0 _ _ _ _)
   | (with_reducible exact law12_Great.mono _ _)
   | (with_reducible exact law13_awake.mono _)
   | (with_reducible exact r10_Right.mono _ _)
   | (with_reducible exact r10_Room.mono _ _ _)
   | (with_reducible exact r10_Share.mono _ _ _)
   | (with_reducible exact r10_Tight.mono _ _ _)
   | (with_reducible exact r1_Texts.mono _ _ _)
   | (with_reducible exact room_Of.mono _ _ _)
   | (with_reducible exact room_Share.mono _ _ _)
   | (with_reducible exact room_Tight.mono _ _ _)
   | (with_reducible exact LeO.refl _)
   | (with_reducible exact LeO.none _)
   | (with_reducible refine LeO.ite ?_ ?_)
   | (with_reducible refine LeO.bind ?_ (fun _ => ?_))
   | exact ih0 _ _ _ _
   | exact law12_Great.mono _ _
   | exact law13_awake.mono _
   | exact r10_Right.mono _ _
   | exact r10_Room.mono _ _ _
   | exact r10_Share.mono _ _ _
   | exact r10_Tight.mono _ _ _
   | exact r1_Texts.mono _ _ _
   | exact room_Of.mono _ _ _
   | exact room_Share.mono _ _ _
   | exact room_Tight.mono _ _ _
   | exact LeO.none _
   | refine LeO.ite ?_ ?_
   | refine LeO.bind ?_ (fun _ => ?_)
theorem law13_RoomAll.mono : ∀ a0 a1 a2 k, LeO (law13_RoomAll.f k a0 a1 a2) (law13_RoomAll.f (k + 1) a0 a1 a2) := by
 intro a0 a1 a2 k
 have ih0 := law13_RoomAll.mono_l k
 unfold law13_RoomAll.f
 repeat' first
   | (with_reducible exact ih0 _ _ _ _)
   | (with_reducible exact law12_Great.mono _ _)
   | (with_reducible exact law13_awake.mono _)
   | (with_reducible exact r10_Right.mono _ _)
   | (with_reducible exact r10_Room.mono _ _ _)
   | (with_reducible exact r10_Share.mono _ _ _)
   | (with_reducible exact r10_Tight.mono _ _ _)
   | (with_reducible exact r1_Texts.mono _ _ _)
   | (with_reducible exact room_Of.mono _ _ _)
   | (with_reducible exact room_Share.mono _ _ _)
   | (with_reducible exact room_Tight.mono _ _ _)
   | (with_reducible exact LeO.refl _)
   | (with_reducible exact LeO.none _)
   | (with_reducible refine LeO.ite ?_ ?_)
   | (with_reducible refine LeO.bind ?_ (fun _ => ?_))
   | exact ih0 _ _ _ _
   | exact law12_Great.mono _ _
   | exact law13_awake.mono _
   | exact r10_Right.mono _ _
   | exact r10_Room.mono _ _ _
   | exact r10_Share.mono _ _ _
   | exact r10_Tight.mono _ _ _
   | exact r1_Texts.mono _ _ _
   | exact room_Of.mono _ _ _
   | exact room_Share.mono _ _ _
   | exact room_Tight.mono _ _ _
   | exact LeO.none _
   | refine LeO.ite ?_ ?_
   | refine LeO.bind ?_ (fun _ => ?_)
set_option maxHeartbeats 8000000 in
set_option maxRecDepth 100000 in
theorem law13_RoomAll.calls (k : Nat) (A0 : Option Addr) (c0 : Nat) (l0 : List (S31)) (a1 : ByteArray) (A2 : Option Addr) (c2 : Nat) (l2 : List ByteArray) (r : Bool) (w : World) (hr0 : Kd.C k31 w A0 l0.length l0) (hc0 : l0.length ≤ c0) (hr2 : Kd.C Kd.string w A2 l2.length l2) (hc2 : l2.length ≤ c2) (h : law13_RoomAll.f k l0 a1 l2 = some r) :
  Calls Try.prog 19 #[.slice A0 l0.length c0, .string a1, .slice A2 l2.length c2] w fun e w' => e = .returned (.bool r) ∧ Below w.heap.size w w' := by
 have hu27 := Try.underlying27
 have HR0 := Aside0.mk hr0
 have HC0 := Aside0.mk hc0
 clear hr0 hc0
 have HR2 := Aside0.mk hr2
 have HC2 := Aside0.mk hc2
 clear hr2 hc2
 have HB := Aside0.mk (Below.refl w.heap.size w)
 have H : ((law12_Great.f k l0).bind fun t1 => (if t1 = true then (law13_RoomAll.j0 k l0 a1 l2 true) else (if (a1.size : Int) > 100 then (law13_RoomAll.j0 k l0 a1 l2 true) else (if (l2.length : Int) > 20 then (law13_RoomAll.j0 k l0 a1 l2 true) else ((r10_Right.f k l0).bind fun t2 => (law13_RoomAll.j0 k l0 a1 l2 (!t2))))))) = some r := h
 clear h
 have HC4 := Aside0.mk H
 clear H
 go_enter Try.func19, Try.ntmps19
 go_upto_region 1 with (fail)
 go_cut [27] (fun v27 wc => ∃ (kq : Nat) (x27_3 : Bool), v27 = .bool x27_3 ∧ Aside0 (law13_RoomAll.j0 kq l0 a1 l2 x27_3 = some r) ∧ Aside0 (kq ≤ k) ∧ Aside0 (Below w.heap.size w wc))
 case first =>
  have H := HC4.out
  clear HC4
  replace H := Option.bind_eq_some_iff.mp H
  obtain ⟨t1, A50, H⟩ := H
  replace H : (if t1 = true then (law13_RoomAll.j0 k l0 a1 l2 true) else (if (a1.size : Int) > 100 then (law13_RoomAll.j0 k l0 a1 l2 true) else (if (l2.length : Int) > 20 then (law13_RoomAll.j0 k l0 a1 l2 true) else ((r10_Right.f k l0).bind fun t2 => (law13_RoomAll.j0 k l0 a1 l2 (!t2)))))) = some r := H
  have A5 := Aside0.mk A50
  clear A50
  by_cases c6 : t1 = true
  ·subst c6
   have H1 : (law13_RoomAll.j0 k l0 a1 l2 true) = some r := by rw [if_pos rfl] at H; exact H
   clear H
   have H := H1
   clear H1
   have H' := Aside0.mk H
   clear H
   go_wp2_with (first|((with_reducible refine gate_callee (f := 36) rfl ?_);refine goesL_ (some 12) rfl rfl Try.func36 (by kernel_rfl) rfl #[.slice A0 l0.length c0] rfl (by (try simp only [List.map_toArray, List.map_cons, List.map_nil]);first|done|rfl|(simp only [List.length_drop, List.length_take];rfl)) ?_;(with_reducible refine (law12_Great.calls k _ _ l0 true _ ?side1 ?side2 A5.out).mono ?_);(case side1 => repeat (first|exact (Kd.C_below HR0.out HB.out)|(with_reducible refine Kd.C_alloc ?_ _)|(with_reducible refine Kd.C_drewN ?_ _)|(with_reducible refine Kd.C_drew ?_)));(case side2 => exact HC0.out);rintro e w' ⟨rfl, ⟨nd, rfl⟩⟩;refine ⟨_, rfl, ?_⟩))
   go_meet
   case rel => exact ⟨_, (true), (by first|rfl|(simp;done)|(simp [*];done)), H', ⟨by first|omega|exact Nat.le_refl _⟩, ⟨by repeat (first|(with_reducible first|exact HB.out|apply below_alloc|apply pw_below_drewN|apply below_drew1)|exact HB.out)⟩⟩
  ·replace c6 := Bool.eq_false_iff.mpr c6
   subst c6
   have H1 : (if (a1.size : Int) > 100 then (law13_RoomAll.j0 k l0 a1 l2 true) else (if (l2.length : Int) > 20 then (law13_RoomAll.j0 k l0 a1 l2 true) else ((r10_Right.f k l0).bind fun t2 => (law13_RoomAll.j0 k l0 a1 l2 (!t2))))) = some r := by rw [if_neg (show ¬ (false = true) by decide)] at H; exact H
   clear H
   have H := H1
   clear H1
   by_cases c7 : (a1.size : Int) > 100
   ·rw [if_pos c7] at H
    have c7b0 : decide (100 < (a1.size : Int)) = true := decide_eq_true c7
    have c7b1 : decide (100 < a1.size) = true := decide_eq_true (by omega)
    clear c7
    (first | rw [c7b0] | (simp only [i64_w, i32_w]; rw [c7b0]) | skip)
    have H' := Aside0.mk H
    clear H
    go_wp2_with (first|((with_reducible refine gate_callee (f := 36) rfl ?_);refine goesL_ (some 12) rfl rfl Try.func36 (by kernel_rfl) rfl #[.slice A0 l0.length c0] rfl (by (try simp only [List.map_toArray, List.map_cons, List.map_nil]);first|done|rfl|(simp only [List.length_drop, List.length_take];rfl)) ?_;(with_reducible refine (law12_Great.calls k _ _ l0 false _ ?side1 ?side2 A5.out).mono ?_);(case side1 => repeat (first|exact (Kd.C_below HR0.out HB.out)|(with_reducible refine Kd.C_alloc ?_ _)|(with_reducible refine Kd.C_drewN ?_ _)|(with_reducible refine Kd.C_drew ?_)));(case side2 => exact HC0.out);rintro e w' ⟨rfl, ⟨nd, rfl⟩⟩;refine ⟨_, rfl, ?_⟩))
    go_meet
    case rel => exact ⟨_, (true), (by first|rfl|(simp;done)|(simp [*];done)), H', ⟨by first|omega|exact Nat.le_refl _⟩, ⟨by repeat (first|(with_reducible first|exact HB.out|apply below_alloc|apply pw_below_drewN|apply below_drew1)|exact HB.out)⟩⟩
   ·rw [if_neg c7] at H
    have c7b0 : decide (100 < (a1.size : Int)) = false := decide_eq_false c7
    have c7b1 : decide (100 < a1.size) = false := decide_eq_false (by omega)
    clear c7
    (first | rw [c7b0] | (simp only [i64_w, i32_w]; rw [c7b0]) | skip)
    by_cases c8 : (l2.length : Int) > 20
    ·rw [if_pos c8] at H
     have c8b0 : decide (20 < (l2.length : Int)) = true := decide_eq_true c8
     have c8b1 : decide (20 < l2.length) = true := decide_eq_true (by omega)
     clear c8
     have H' := Aside0.mk H
     clear H
     go_wp2_with (first|((with_reducible refine gate_callee (f := 36) rfl ?_);refine goesL_ (some 12) rfl rfl Try.func36 (by kernel_rfl) rfl #[.slice A0 l0.length c0] rfl (by (try simp only [List.map_toArray, List.map_cons, List.map_nil]);first|done|rfl|(simp only [List.length_drop, List.length_take];rfl)) ?_;(with_reducible refine (law12_Great.calls k _ _ l0 false _ ?side1 ?side2 A5.out).mono ?_);(case side1 => repeat (first|exact (Kd.C_below HR0.out HB.out)|(with_reducible refine Kd.C_alloc ?_ _)|(with_reducible refine Kd.C_drewN ?_ _)|(with_reducible refine Kd.C_drew ?_)));(case side2 => exact HC0.out);rintro e w' ⟨rfl, ⟨nd, rfl⟩⟩;refine ⟨_, rfl, ?_⟩))
     go_meet
     case rel => exact ⟨_, (true), (by first|rfl|(simp;done)|(simp [*];done)), H', ⟨by first|omega|exact Nat.le_refl _⟩, ⟨by repeat (first|(with_reducible first|exact HB.out|apply below_alloc|apply pw_below_drewN|apply below_drew1)|exact HB.out)⟩⟩
    ·rw [if_neg c8] at H
     have c8b0 : decide (20 < (l2.length : Int)) = false := decide_eq_false c8
     have c8b1 : decide (20 < l2.length) = false := decide_eq_false (by omega)
     clear c8
     replace H := Option.bind_eq_some_iff.mp H
     obtain ⟨t2, A90, H⟩ := H
     replace H : (law13_RoomAll.j0 k l0 a1 l2 (!t2)) = some r := H
     have A9 := Aside0.mk A90
     clear A90
     have H' := Aside0.mk H
     clear H
     go_wp2_with (first|((with_reducible refine gate_callee (f := 36) rfl ?_);refine goesL_ (some 12) rfl rfl Try.func36 (by kernel_rfl) rfl #[.slice A0 l0.length c0] rfl (by (try simp only [List.map_toArray, List.map_cons, List.map_nil]);first|done|rfl|(simp only [List.length_drop, List.length_take];rfl)) ?_;(with_reducible refine (law12_Great.calls k _ _ l0 false _ ?side1 ?side2 A5.out).mono ?_);(case side1 => repeat (first|exact (Kd.C_below HR0.out HB.out)|(with_reducible refine Kd.C_alloc ?_ _)|(with_reducible refine Kd.C_drewN ?_ _)|(with_reducible refine Kd.C_drew ?_)));(case side2 => exact HC0.out);rintro e w' ⟨rfl, ⟨nd, rfl⟩⟩;refine ⟨_, rfl, ?_⟩)|(go_at_call 41;(with_reducible refine (r10_Right.calls k _ _ l0 t2 _ ?side1 ?side2 A9.out).mono ?_);(case side1 => repeat (first|exact (Kd.C_below HR0.out (by repeat (first|(with_reducible first|exact HB.out|apply below_alloc|apply pw_below_drewN|apply below_drew1)|exact HB.out)))|(with_reducible refine Kd.C_alloc ?_ _)|(with_reducible refine Kd.C_drewN ?_ _)|(with_reducible refine Kd.C_drew ?_)));(case side2 => exact HC0.out);rintro e w10 ⟨rfl, hb⟩;have n0_ := Aside0.mk (below_step (by repeat (first|(with_reducible first|exact HB.out|apply below_alloc|apply pw_below_drewN|apply below_drew1)|exact HB.out)) hb);clear HB;have HB := n0_;clear n0_;(try clear hb);(try clear hb2);(try clear hk);(try clear hi)))
     go_meet
     case rel => exact ⟨_, (!t2), (by first|rfl|(simp;done)|(simp [*];done)), H', ⟨by first|omega|exact Nat.le_refl _⟩, ⟨by repeat (first|(with_reducible first|exact HB.out|apply below_alloc|apply pw_below_drewN|apply below_drew1)|exact HB.out)⟩⟩
 case rest =>
  clear HC4
  try clear c1
  try clear c2
  try clear p2
  try clear c3
  try clear c6
  try clear c7
  try clear c7b0
  try clear c7b1
  try clear c8
  try clear c8b0
  try clear c8b1
  obtain ⟨kq, x27_3, rfl, HA, HJ3, HB⟩ := hcut
  cases kq with
  | zero => exact absurd HA.out (by simp [law13_RoomAll.j0])
  | succ kj3 =>
   have H := HA.out
   clear HA
   simp only [law13_RoomAll.j0] at H
   by_cases c11 : x27_3 = true
   ·subst c11
    have H1 : ((law13_awake.f kj3).bind fun t3 => (some t3)) = some r := by rw [if_pos rfl] at H; exact H
    clear H
    have H := H1
    clear H1
    replace H := Option.bind_eq_some_iff.mp H
    obtain ⟨t3, A120, H⟩ := H
    replace H : (some t3) = some r := H
    have A12 := Aside0.mk A120
    clear A120
    obtain rfl := Option.some.inj H
    go_wp2_with (first|((with_reducible refine gate_callee (f := 31) rfl ?_);refine goesL_ (some 28) rfl rfl Try.func31 (by kernel_rfl) rfl #[] rfl (by (try simp only [List.map_toArray, List.map_cons, List.map_nil]);first|done|rfl|(simp only [List.length_drop, List.length_take];rfl)) ?_;(with_reducible refine (law13_awake.calls kj3  t3 _ A12.out).mono ?_);rintro e w13 ⟨rfl, hb⟩;refine ⟨_, rfl, ?_⟩;have n0_ := Aside0.mk (below_step (by repeat (first|(with_reducible first|exact HB.out|apply below_alloc|apply pw_below_drewN|apply below_drew1)|exact HB.out)) hb);clear HB;have HB := n0_;clear n0_;(try clear hb);(try clear hb2);(try clear hk);(try clear hi)))
    go_ret
    exact ⟨by first|rfl|(simp [errW_none, errW_some] <;> rfl)|(simp [*, errW_none, errW_some] <;> rfl), by repeat (first|(with_reducible first|exact HB.out|apply below_alloc|apply pw_below_drewN|apply below_drew1)|exact HB.out)⟩
   ·replace c11 := Bool.eq_false_iff.mpr c11
    subst c11
    have H1 : ((room_Of.f kj3 l0 a1).bind fun bt4 => ((r10_Room.f kj3 l0 a1).bind fun bt9 => (if (bt4.1 == bt9.1 && (bt4.2.1 == bt9.2.1 && (bt4.2.2.1 == bt9.2.2.1))) = true then (if (bt4.2.2.2 == bt9.2.2.2) = true then ((room_Tight.f kj3 l0 a1).bind fun t14 => ((r10_Tight.f kj3 l0 a1).bind fun t17 => ((r1_Texts.f kj3 t14 t17).bind fun t20 => (if t20 = true then ((room_Share.f kj3 l0 l2).bind fun bt21 => ((r10_Share.f kj3 l0 l2).bind fun bt24 => (if (bt21.1 == bt24.1 && (bt21.2.1 == bt24.2.1 && (bt21.2.2 == bt24.2.2))) = true then ((law13_awake.f kj3).bind fun t27 => (some t27)) else (some false)))) else (some false))))) else (some false)) else (some false)))) = some r := by rw [if_neg (show ¬ (false = true) by decide)] at H; exact H
    clear H
    have H := H1
    clear H1
    replace H := Option.bind_eq_some_iff.mp H
    obtain ⟨⟨t4, t5, t6, t7⟩, A140, H⟩ := H
    replace H : ((r10_Room.f kj3 l0 a1).bind fun bt9 => (if (t4 == bt9.1 && (t5 == bt9.2.1 && (t6 == bt9.2.2.1))) = true then (if (t7 == bt9.2.2.2) = true then ((room_Tight.f kj3 l0 a1).bind fun t14 => ((r10_Tight.f kj3 l0 a1).bind fun t17 => ((r1_Texts.f kj3 t14 t17).bind fun t20 => (if t20 = true then ((room_Share.f kj3 l0 l2).bind fun bt21 => ((r10_Share.f kj3 l0 l2).bind fun bt24 => (if (bt21.1 == bt24.1 && (bt21.2.1 == bt24.2.1 && (bt21.2.2 == bt24.2.2))) = true then ((law13_awake.f kj3).bind fun t27 => (some t27)) else (some false)))) else (some false))))) else (some false)) else (some false))) = some r := H
    have A14 := Aside0.mk A140
    clear A140
    replace H := Option.bind_eq_some_iff.mp H
    obtain ⟨⟨t9, t10, t11, t12⟩, A150, H⟩ := H
    replace H : (if (t4 == t9 && (t5 == t10 && (t6 == t11))) = true then (if (t7 == t12) = true then ((room_Tight.f kj3 l0 a1).bind fun t14 => ((r10_Tight.f kj3 l0 a1).bind fun t17 => ((r1_Texts.f kj3 t14 t17).bind fun t20 => (if t20 = true then ((room_Share.f kj3 l0 l2).bind fun bt21 => ((r10_Share.f kj3 l0 l2).bind fun bt24 => (if (bt21.1 == bt24.1 && (bt21.2.1 == bt24.2.1 && (bt21.2.2 == bt24.2.2))) = true then ((law13_awake.f kj3).bind fun t27 => (some t27)) else (some false)))) else (some false))))) else (some false)) else (some false)) = some r := H
    have A15 := Aside0.mk A150
    clear A150
    by_cases c16 : (t4 == t9 && (t5 == t10 && (t6 == t11))) = true
    ·rw [if_pos c16] at H
     have c16b0 : (t4 == t9 && (t5 == t10 && (t6 == t11))) = true := c16
     (try (have c16b1 : decide (t4 = t9 && (t5 == t10 && (t6 == t11))) = true := by simpa using c16))
     (try (have c16b2 : (t4 == t9 && (t5 == t10 && (t6 == t11))) = true := by simpa using c16))
     clear c16
     by_cases c17 : (t7 == t12) = true
     ·rw [if_pos c17] at H
      have c17b0 : (t7 == t12) = true := c17
      (try (have c17b1 : decide (t7 = t12) = true := by simpa using c17))
      (try (have c17b2 : (t7 == t12) = true := by simpa using c17))
      clear c17
      replace H := Option.bind_eq_some_iff.mp H
      obtain ⟨t14, A180, H⟩ := H
      replace H : ((r10_Tight.f kj3 l0 a1).bind fun t17 => ((r1_Texts.f kj3 t14 t17).bind fun t20 => (if t20 = true then ((room_Share.f kj3 l0 l2).bind fun bt21 => ((r10_Share.f kj3 l0 l2).bind fun bt24 => (if (bt21.1 == bt24.1 && (bt21.2.1 == bt24.2.1 && (bt21.2.2 == bt24.2.2))) = true then ((law13_awake.f kj3).bind fun t27 => (some t27)) else (some false)))) else (some false)))) = some r := H
      have A18 := Aside0.mk A180
      clear A180
      replace H := Option.bind_eq_some_iff.mp H
      obtain ⟨t17, A190, H⟩ := H
      replace H : ((r1_Texts.f kj3 t14 t17).bind fun t20 => (if t20 = true then ((room_Share.f kj3 l0 l2).bind fun bt21 => ((r10_Share.f kj3 l0 l2).bind fun bt24 => (if (bt21.1 == bt24.1 && (bt21.2.1 == bt24.2.1 && (bt21.2.2 == bt24.2.2))) = true then ((law13_awake.f kj3).bind fun t27 => (some t27)) else (some false)))) else (some false))) = some r := H
      have A19 := Aside0.mk A190
      clear A190
      replace H := Option.bind_eq_some_iff.mp H
      obtain ⟨t20, A200, H⟩ := H
      replace H : (if t20 = true then ((room_Share.f kj3 l0 l2).bind fun bt21 => ((r10_Share.f kj3 l0 l2).bind fun bt24 => (if (bt21.1 == bt24.1 && (bt21.2.1 == bt24.2.1 && (bt21.2.2 == bt24.2.2))) = true then ((law13_awake.f kj3).bind fun t27 => (some t27)) else (some false)))) else (some false)) = some r := H
      have A20 := Aside0.mk A200
      clear A200
      by_cases c21 : t20 = true
      ·subst c21
       have H1 : ((room_Share.f kj3 l0 l2).bind fun bt21 => ((r10_Share.f kj3 l0 l2).bind fun bt24 => (if (bt21.1 == bt24.1 && (bt21.2.1 == bt24.2.1 && (bt21.2.2 == bt24.2.2))) = true then ((law13_awake.f kj3).bind fun t27 => (some t27)) else (some false)))) = some r := by rw [if_pos rfl] at H; exact H
       clear H
       have H := H1
       clear H1
       replace H := Option.bind_eq_some_iff.mp H
       obtain ⟨⟨t21, t22, t23⟩, A220, H⟩ := H
       replace H : ((r10_Share.f kj3 l0 l2).bind fun bt24 => (if (t21 == bt24.1 && (t22 == bt24.2.1 && (t23 == bt24.2.2))) = true then ((law13_awake.f kj3).bind fun t27 => (some t27)) else (some false))) = some r := H
       have A22 := Aside0.mk A220
       clear A220
       replace H := Option.bind_eq_some_iff.mp H
       obtain ⟨⟨t24, t25, t26⟩, A230, H⟩ := H
       replace H : (if (t21 == t24 && (t22 == t25 && (t23 == t26))) = true then ((law13_awake.f kj3).bind fun t27 => (some t27)) else (some false)) = some r := H
       have A23 := Aside0.mk A230
       clear A230
       by_cases c24 : (t21 == t24 && (t22 == t25 && (t23 == t26))) = true
       ·rw [if_pos c24] at H
        have c24b0 : (t21 == t24 && (t22 == t25 && (t23 == t26))) = true := c24
        (try (have c24b1 : decide (t21 = t24 && (t22 == t25 && (t23 == t26))) = true := by simpa using c24))
        (try (have c24b2 : (t21 == t24 && (t22 == t25 && (t23 == t26))) = true := by simpa using c24))
        clear c24
        replace H := Option.bind_eq_some_iff.mp H
        obtain ⟨t27, A250, H⟩ := H
        replace H : (some t27) = some r := H
        have A25 := Aside0.mk A250
        clear A250
        obtain rfl := Option.some.inj H
        go_wp2_with (first|((with_reducible refine gate_callee (f := 33) rfl ?_);refine goesL_ (some 32) rfl rfl Try.func33 (by kernel_rfl) rfl #[.slice A0 l0.length c0, .string a1] rfl (by (try simp only [List.map_toArray, List.map_cons, List.map_nil]);first|done|rfl|(simp only [List.length_drop, List.length_take];rfl)) ?_;(with_reducible refine (room_Of.calls kj3 _ _ l0 a1 t4 t5 t6 t7 _ ?side1 ?side2 A14.out).mono ?_);(case side1 => repeat (first|exact (Kd.C_below HR0.out HB.out)|(with_reducible refine Kd.C_alloc ?_ _)|(with_reducible refine Kd.C_drewN ?_ _)|(with_reducible refine Kd.C_drew ?_)));(case side2 => exact HC0.out);rintro e w26 ⟨rfl, hb⟩;refine ⟨_, rfl, ?_⟩;have n0_ := Aside0.mk (below_step (by repeat (first|(with_reducible first|exact HB.out|apply below_alloc|apply pw_below_drewN|apply below_drew1)|exact HB.out)) hb);clear HB;have HB := n0_;clear n0_;(try clear hb);(try clear hb2);(try clear hk);(try clear hi))|((with_reducible refine gate_dst (N := 7) rfl ?_);(try (refine gate_guard (by rfl) ?_;dsimp only));refine box_event ?hg (N := 7) ?hd (cs := #[.int .i64 0, .int .i64 0, .int .i64 0]) (t := 27) ?hr ?_;(case hd => rfl);(case hg => rfl);(case hr => first|(go_simp;done)|(go_simp;rfl));intro gb8 hg w27 hbox hb;have n0_ := Aside0.mk (below_step (by repeat (first|(with_reducible first|exact HB.out|apply below_alloc|apply pw_below_drewN|apply below_drew1)|exact HB.out)) hb);have n1_ := Aside0.mk (hbox);have n2_ := Aside0.mk ((by rw [hg];exact (below_size (by repeat (first|(with_reducible first|exact HB.out|apply below_alloc|apply pw_below_drewN|apply below_drew1)|exact HB.out))) : w.heap.size ≤ gb8));have n3_ := Aside0.mk ((by rw [hg];exact (below_size (by repeat (first|(with_reducible first|exact HB.out|apply below_alloc|apply pw_below_drewN|apply below_drew1)|exact HB.out))) : w.heap.size ≤ gb8));clear HB;have HB := n0_;have BK8 := n1_;have GW8 := n2_;have GE8 := n3_;clear n0_ n1_ n2_ n3_;clear hb hbox hg;have hcz28_0 : w27.cell? ⟨gb8, 0, none⟩ = some (.int .i64 0) := (blk_cell BK8.out 0).trans rfl;have hcz28_1 : w27.cell? ⟨gb8, 1, none⟩ = some (.int .i64 0) := (blk_cell BK8.out 1).trans rfl;have hcz28_2 : w27.cell? ⟨gb8, 2, none⟩ = some (.int .i64 0) := (blk_cell BK8.out 2).trans rfl;have hfz28_0 := blk_frozen BK8.out 0;have hfz28_1 := blk_frozen BK8.out 1;have hfz28_2 := blk_frozen BK8.out 2)|((with_reducible refine gate_callee (f := 78) rfl ?_);refine goesL_ (some 38) rfl rfl Try.func78 (by kernel_rfl) rfl #[.slice A0 l0.length c0, .string a1] rfl (by (try simp only [List.map_toArray, List.map_cons, List.map_nil]);first|done|rfl|(simp only [List.length_drop, List.length_take];rfl)) ?_;(with_reducible refine (r10_Room.calls kj3 _ _ l0 a1 t9 t10 t11 t12 _ ?side1 ?side2 A15.out).mono ?_);(case side1 => exact Kd.C_below HR0.out (by repeat (first|(with_reducible first|exact HB.out|apply below_alloc|apply pw_below_drewN|apply below_drew1|refine below_set ?_ GE8.out)|exact HB.out)));(case side2 => exact HC0.out);rintro e w29 ⟨rfl, hb⟩;refine ⟨_, rfl, ?_⟩;have n0_ := Aside0.mk (blk_below (g := gb8) (o := .cells #[.int .i64 t4, .int .i64 t5, .int .i64 t6] 27 (0, 0)) (by (with_reducible repeat (first|refine blk_drewN ?_ _|refine blk_drew ?_|refine blk_alloc ?_ _));refine blk_put (cs := #[.int .i64 t4, .int .i64 t5, .int .i64 0]) ?_ 2 _ rfl;(with_reducible repeat (first|refine blk_drewN ?_ _|refine blk_drew ?_|refine blk_alloc ?_ _));refine blk_put (cs := #[.int .i64 t4, .int .i64 0, .int .i64 0]) ?_ 1 _ rfl;(with_reducible repeat (first|refine blk_drewN ?_ _|refine blk_drew ?_|refine blk_alloc ?_ _));refine blk_put (cs := #[.int .i64 0, .int .i64 0, .int .i64 0]) ?_ 0 _ rfl;(with_reducible repeat (first|refine blk_drewN ?_ _|refine blk_drew ?_|refine blk_alloc ?_ _));exact BK8.out) hb);have n1_ := Aside0.mk (below_step (by repeat (first|(with_reducible first|exact HB.out|apply below_alloc|apply pw_below_drewN|apply below_drew1|refine below_set ?_ GE8.out)|exact HB.out)) hb);clear BK8;clear HB;have BK8 := n0_;have HB := n1_;clear n0_ n1_;(try clear hb);(try clear hb2);(try clear hk);(try clear hi))|((with_reducible refine gate_dst (N := 9) rfl ?_);(try (refine gate_guard (by rfl) ?_;dsimp only));refine box_event ?hg (N := 9) ?hd (cs := #[.int .i64 0, .int .i64 0, .int .i64 0]) (t := 27) ?hr ?_;(case hd => rfl);(case hg => rfl);(case hr => first|(go_simp;done)|(go_simp;rfl));intro gb13 hg w30 hbox hb;have n0_ := Aside0.mk (blk_below (g := gb8) (o := .cells #[.int .i64 t4, .int .i64 t5, .int .i64 t6] 27 (0, 0)) (by (with_reducible repeat (first|refine blk_drewN ?_ _|refine blk_drew ?_|refine blk_alloc ?_ _));exact BK8.out) hb);have n1_ := Aside0.mk (below_step (by repeat (first|(with_reducible first|exact HB.out|apply below_alloc|apply pw_below_drewN|apply below_drew1|refine below_set ?_ GE8.out)|exact HB.out)) hb);have n2_ := Aside0.mk (hbox);have n3_ := Aside0.mk ((by rw [hg];exact (below_size (by repeat (first|(with_reducible first|exact HB.out|apply below_alloc|apply pw_below_drewN|apply below_drew1|refine below_set ?_ GE8.out)|exact HB.out))) : w.heap.size ≤ gb13));have n4_ := Aside0.mk ((by rw [hg];exact (below_size (by repeat (first|(with_reducible first|exact HB.out|apply below_alloc|apply pw_below_drewN|apply below_drew1|refine below_set ?_ GE8.out)|exact HB.out))) : w.heap.size ≤ gb13));have n5_ := Aside0.mk ((by rw [hg];exact Nat.ne_of_lt (blk_lt (g := gb8) (o := .cells #[.int .i64 t4, .int .i64 t5, .int .i64 t6] 27 (0, 0)) (by (with_reducible repeat (first|refine blk_drewN ?_ _|refine blk_drew ?_|refine blk_alloc ?_ _));exact BK8.out)) : gb8 ≠ gb13));have n6_ := Aside0.mk ((by rw [hg];exact Nat.ne_of_gt (blk_lt (g := gb8) (o := .cells #[.int .i64 t4, .int .i64 t5, .int .i64 t6] 27 (0, 0)) (by (with_reducible repeat (first|refine blk_drewN ?_ _|refine blk_drew ?_|refine blk_alloc ?_ _));exact BK8.out)) : gb13 ≠ gb8));clear BK8;clear HB;have BK8 := n0_;have HB := n1_;have BK13 := n2_;have GW13 := n3_;have GE13 := n4_;have NB8_13 := n5_;have NB13_8 := n6_;clear n0_ n1_ n2_ n3_ n4_ n5_ n6_;clear hb hbox hg;have hnb31 := NB13_8.out;have hnc31 := NB8_13.out;have hcz32_0 : w30.cell? ⟨gb13, 0, none⟩ = some (.int .i64 0) := (blk_cell BK13.out 0).trans rfl;have hcz32_1 : w30.cell? ⟨gb13, 1, none⟩ = some (.int .i64 0) := (blk_cell BK13.out 1).trans rfl;have hcz32_2 : w30.cell? ⟨gb13, 2, none⟩ = some (.int .i64 0) := (blk_cell BK13.out 2).trans rfl;have hfz32_0 := blk_frozen BK13.out 0;have hfz32_1 := blk_frozen BK13.out 1;have hfz32_2 := blk_frozen BK13.out 2;have hcz33_0 : w30.cell? ⟨gb8, 0, none⟩ = some (.int .i64 t4) := (blk_cell BK8.out 0).trans rfl;have hcz33_1 : w30.cell? ⟨gb8, 1, none⟩ = some (.int .i64 t5) := (blk_cell BK8.out 1).trans rfl;have hcz33_2 : w30.cell? ⟨gb8, 2, none⟩ = some (.int .i64 t6) := (blk_cell BK8.out 2).trans rfl;have hfz33_0 := blk_frozen BK8.out 0;have hfz33_1 := blk_frozen BK8.out 1;have hfz33_2 := blk_frozen BK8.out 2)|(go_at_call 64;(with_reducible refine (room_Tight.calls kj3 _ _ l0 a1 t14 _ ?side1 ?side2 A18.out).mono ?_);(case side1 => exact Kd.C_below HR0.out (by repeat (first|(with_reducible first|exact HB.out|apply below_alloc|apply pw_below_drewN|apply below_drew1|refine below_set ?_ GE8.out|refine below_set ?_ GE13.out)|exact HB.out)));(case side2 => exact HC0.out);rintro e w34 ⟨v15, rfl, ho0, hb⟩;have n0_ := Aside0.mk (Kd.R_lower ho0 (below_size (by repeat (first|(with_reducible first|exact HB.out|apply below_alloc|apply pw_below_drewN|apply below_drew1|refine below_set ?_ GE8.out|refine below_set ?_ GE13.out)|exact HB.out))));have n1_ := Aside0.mk (blk_below (g := gb8) (o := .cells #[.int .i64 t4, .int .i64 t5, .int .i64 t6] 27 (0, 0)) (by (with_reducible repeat (first|refine blk_drewN ?_ _|refine blk_drew ?_|refine blk_alloc ?_ _));refine blk_far ?_ NB8_13.out _;(with_reducible repeat (first|refine blk_drewN ?_ _|refine blk_drew ?_|refine blk_alloc ?_ _));refine blk_far ?_ NB8_13.out _;(with_reducible repeat (first|refine blk_drewN ?_ _|refine blk_drew ?_|refine blk_alloc ?_ _));refine blk_far ?_ NB8_13.out _;(with_reducible repeat (first|refine blk_drewN ?_ _|refine blk_drew ?_|refine blk_alloc ?_ _));exact BK8.out) hb);have n2_ := Aside0.mk (blk_below (g := gb13) (o := .cells #[.int .i64 t9, .int .i64 t10, .int .i64 t11] 27 (0, 0)) (by (with_reducible repeat (first|refine blk_drewN ?_ _|refine blk_drew ?_|refine blk_alloc ?_ _));refine blk_put (cs := #[.int .i64 t9, .int .i64 t10, .int .i64 0]) ?_ 2 _ rfl;(with_reducible repeat (first|refine blk_drewN ?_ _|refine blk_drew ?_|refine blk_alloc ?_ _));refine blk_put (cs := #[.int .i64 t9, .int .i64 0, .int .i64 0]) ?_ 1 _ rfl;(with_reducible repeat (first|refine blk_drewN ?_ _|refine blk_drew ?_|refine blk_alloc ?_ _));refine blk_put (cs := #[.int .i64 0, .int .i64 0, .int .i64 0]) ?_ 0 _ rfl;(with_reducible repeat (first|refine blk_drewN ?_ _|refine blk_drew ?_|refine blk_alloc ?_ _));exact BK13.out) hb);have n3_ := Aside0.mk (below_step (by repeat (first|(with_reducible first|exact HB.out|apply below_alloc|apply pw_below_drewN|apply below_drew1|refine below_set ?_ GE8.out|refine below_set ?_ GE13.out)|exact HB.out)) hb);clear BK8;clear BK13;clear HB;have HO16 := n0_;have BK8 := n1_;have BK13 := n2_;have HB := n3_;clear n0_ n1_ n2_ n3_;(try clear hb);(try clear hb2);(try clear hk);(try clear hi);(try clear ho0))|(go_at_call 80;(with_reducible refine (r10_Tight.calls kj3 _ _ l0 a1 t17 _ ?side1 ?side2 A19.out).mono ?_);(case side1 => repeat (first|exact (Kd.C_below HR0.out HB.out)|(with_reducible refine Kd.C_alloc ?_ _)|(with_reducible refine Kd.C_drewN ?_ _)|(with_reducible refine Kd.C_drew ?_)));(case side2 => exact HC0.out);rintro e w35 ⟨v18, rfl, ho0, hb⟩;have n0_ := Aside0.mk (Kd.R_elder' (by (with_reducible repeat (first|apply Kd.R_alloc|apply Kd.R_drewN|apply Kd.R_drew));exact HO16.out) (Kd.R_base ho0) hb);have n1_ := Aside0.mk (Kd.R_lower (Kd.R_new' ho0 (Kd.R_lt (by (with_reducible repeat (first|apply Kd.R_alloc|apply Kd.R_drewN|apply Kd.R_drew));exact HO16.out))) (below_size (by repeat (first|(with_reducible first|exact HB.out|apply below_alloc|apply pw_below_drewN|apply below_drew1|refine below_set ?_ GE8.out|refine below_set ?_ GE13.out)|exact HB.out))));have n2_ := Aside0.mk (blk_below (g := gb8) (o := .cells #[.int .i64 t4, .int .i64 t5, .int .i64 t6] 27 (0, 0)) (by (with_reducible repeat (first|refine blk_drewN ?_ _|refine blk_drew ?_|refine blk_alloc ?_ _));exact BK8.out) hb);have n3_ := Aside0.mk (blk_below (g := gb13) (o := .cells #[.int .i64 t9, .int .i64 t10, .int .i64 t11] 27 (0, 0)) (by (with_reducible repeat (first|refine blk_drewN ?_ _|refine blk_drew ?_|refine blk_alloc ?_ _));exact BK13.out) hb);have n4_ := Aside0.mk (below_step (by repeat (first|(with_reducible first|exact HB.out|apply below_alloc|apply pw_below_drewN|apply below_drew1|refine below_set ?_ GE8.out|refine below_set ?_ GE13.out)|exact HB.out)) hb);clear HO16;clear BK8;clear BK13;clear HB;have HO16 := n0_;have HO19 := n1_;have BK8 := n2_;have BK13 := n3_;have HB := n4_;clear n0_ n1_ n2_ n3_ n4_;(try clear hb);(try clear hb2);(try clear hk);(try clear hi);(try clear ho0);obtain ⟨Ao36, co36, eo36⟩ := Kd.R_slice HO16.out;subst eo36;obtain ⟨Ao37, co37, eo37⟩ := Kd.R_slice HO19.out;subst eo37)|(go_at_call 79;(with_reducible refine (r1_Texts.calls kj3 _ _ t14 _ _ t17 true _ ?side1 ?side2 ?side3 ?side4 A20.out).mono ?_);(case side1 => repeat (first|exact (Kd.R_reads' HO16.out).2.2|(with_reducible refine Kd.C_alloc ?_ _)|(with_reducible refine Kd.C_drewN ?_ _)|(with_reducible refine Kd.C_drew ?_)));(case side2 => exact (Kd.R_reads' HO16.out).2.1);(case side3 => repeat (first|exact (Kd.R_reads' HO19.out).2.2|(with_reducible refine Kd.C_alloc ?_ _)|(with_reducible refine Kd.C_drewN ?_ _)|(with_reducible refine Kd.C_drew ?_)));(case side4 => exact (Kd.R_reads' HO19.out).2.1);rintro e w' ⟨rfl, ⟨nd, rfl⟩⟩)|(go_at_call 74;(with_reducible refine (room_Share.calls kj3 _ _ l0 _ _ l2 t21 t22 t23 _ ?side1 ?side2 ?side3 ?side4 A22.out).mono ?_);(case side1 => repeat (first|exact (Kd.C_below HR0.out (by repeat (first|(with_reducible first|exact HB.out|apply below_alloc|apply pw_below_drewN|apply below_drew1|refine below_set ?_ GE8.out|refine below_set ?_ GE13.out)|exact HB.out)))|(with_reducible refine Kd.C_alloc ?_ _)|(with_reducible refine Kd.C_drewN ?_ _)|(with_reducible refine Kd.C_drew ?_)));(case side2 => exact HC0.out);(case side3 => repeat (first|exact (Kd.C_below HR2.out (by repeat (first|(with_reducible first|exact HB.out|apply below_alloc|apply pw_below_drewN|apply below_drew1|refine below_set ?_ GE8.out|refine below_set ?_ GE13.out)|exact HB.out)))|(with_reducible refine Kd.C_alloc ?_ _)|(with_reducible refine Kd.C_drewN ?_ _)|(with_reducible refine Kd.C_drew ?_)));(case side4 => exact HC2.out);rintro e w38 ⟨rfl, hb⟩;have n0_ := Aside0.mk (Kd.R_below (by (with_reducible repeat (first|apply Kd.R_alloc|apply Kd.R_drewN|apply Kd.R_drew));exact HO16.out) hb);have n1_ := Aside0.mk (Kd.R_below (by (with_reducible repeat (first|apply Kd.R_alloc|apply Kd.R_drewN|apply Kd.R_drew));exact HO19.out) hb);have n2_ := Aside0.mk (blk_below (g := gb8) (o := .cells #[.int .i64 t4, .int .i64 t5, .int .i64 t6] 27 (0, 0)) (by (with_reducible repeat (first|refine blk_drewN ?_ _|refine blk_drew ?_|refine blk_alloc ?_ _));exact BK8.out) hb);have n3_ := Aside0.mk (blk_below (g := gb13) (o := .cells #[.int .i64 t9, .int .i64 t10, .int .i64 t11] 27 (0, 0)) (by (with_reducible repeat (first|refine blk_drewN ?_ _|refine blk_drew ?_|refine blk_alloc ?_ _));exact BK13.out) hb);have n4_ := Aside0.mk (below_step (by repeat (first|(with_reducible first|exact HB.out|apply below_alloc|apply pw_below_drewN|apply below_drew1|refine below_set ?_ GE8.out|refine below_set ?_ GE13.out)|exact HB.out)) hb);clear HO16;clear HO19;clear BK8;clear BK13;clear HB;have HO16 := n0_;have HO19 := n1_;have BK8 := n2_;have BK13 := n3_;have HB := n4_;clear n0_ n1_ n2_ n3_ n4_;(try clear hb);(try clear hb2);(try clear hk);(try clear hi))|(go_at_call 81;(with_reducible refine (r10_Share.calls kj3 _ _ l0 _ _ l2 t24 t25 t26 _ ?side1 ?side2 ?side3 ?side4 A23.out).mono ?_);(case side1 => repeat (first|exact (Kd.C_below HR0.out HB.out)|(with_reducible refine Kd.C_alloc ?_ _)|(with_reducible refine Kd.C_drewN ?_ _)|(with_reducible refine Kd.C_drew ?_)));(case side2 => exact HC0.out);(case side3 => repeat (first|exact (Kd.C_below HR2.out HB.out)|(with_reducible refine Kd.C_alloc ?_ _)|(with_reducible refine Kd.C_drewN ?_ _)|(with_reducible refine Kd.C_drew ?_)));(case side4 => exact HC2.out);rintro e w39 ⟨rfl, hb⟩;have n0_ := Aside0.mk (Kd.R_below (by (with_reducible repeat (first|apply Kd.R_alloc|apply Kd.R_drewN|apply Kd.R_drew));exact HO16.out) hb);have n1_ := Aside0.mk (Kd.R_below (by (with_reducible repeat (first|apply Kd.R_alloc|apply Kd.R_drewN|apply Kd.R_drew));exact HO19.out) hb);have n2_ := Aside0.mk (blk_below (g := gb8) (o := .cells #[.int .i64 t4, .int .i64 t5, .int .i64 t6] 27 (0, 0)) (by (with_reducible repeat (first|refine blk_drewN ?_ _|refine blk_drew ?_|refine blk_alloc ?_ _));exact BK8.out) hb);have n3_ := Aside0.mk (blk_below (g := gb13) (o := .cells #[.int .i64 t9, .int .i64 t10, .int .i64 t11] 27 (0, 0)) (by (with_reducible repeat (first|refine blk_drewN ?_ _|refine blk_drew ?_|refine blk_alloc ?_ _));exact BK13.out) hb);have n4_ := Aside0.mk (below_step (by repeat (first|(with_reducible first|exact HB.out|apply below_alloc|apply pw_below_drewN|apply below_drew1|refine below_set ?_ GE8.out|refine below_set ?_ GE13.out)|exact HB.out)) hb);clear HO16;clear HO19;clear BK8;clear BK13;clear HB;have HO16 := n0_;have HO19 := n1_;have BK8 := n2_;have BK13 := n3_;have HB := n4_;clear n0_ n1_ n2_ n3_ n4_;(try clear hb);(try clear hb2);(try clear hk);(try clear hi))|(go_at_call 31;(with_reducible refine (law13_awake.calls kj3  t27 _ A25.out).mono ?_);rintro e w40 ⟨rfl, hb⟩;have n0_ := Aside0.mk (Kd.R_below (by (with_reducible repeat (first|apply Kd.R_alloc|apply Kd.R_drewN|apply Kd.R_drew));exact HO16.out) hb);have n1_ := Aside0.mk (Kd.R_below (by (with_reducible repeat (first|apply Kd.R_alloc|apply Kd.R_drewN|apply Kd.R_drew));exact HO19.out) hb);have n2_ := Aside0.mk (blk_below (g := gb8) (o := .cells #[.int .i64 t4, .int .i64 t5, .int .i64 t6] 27 (0, 0)) (by (with_reducible repeat (first|refine blk_drewN ?_ _|refine blk_drew ?_|refine blk_alloc ?_ _));exact BK8.out) hb);have n3_ := Aside0.mk (blk_below (g := gb13) (o := .cells #[.int .i64 t9, .int .i64 t10, .int .i64 t11] 27 (0, 0)) (by (with_reducible repeat (first|refine blk_drewN ?_ _|refine blk_drew ?_|refine blk_alloc ?_ _));exact BK13.out) hb);have n4_ := Aside0.mk (below_step (by repeat (first|(with_reducible first|exact HB.out|apply below_alloc|apply pw_below_drewN|apply below_drew1|refine below_set ?_ GE8.out|refine below_set ?_ GE13.out)|exact HB.out)) hb);clear HO16;clear HO19;clear BK8;clear BK13;clear HB;have HO16 := n0_;have HO19 := n1_;have BK8 := n2_;have BK13 := n3_;have HB := n4_;clear n0_ n1_ n2_ n3_ n4_;(try clear hb);(try clear hb2);(try clear hk);(try clear hi)))
        go_ret
        exact ⟨by first|rfl|(simp [errW_none, errW_some] <;> rfl)|(simp [*, errW_none, errW_some] <;> rfl), by repeat (first|(with_reducible first|exact HB.out|apply below_alloc|apply pw_below_drewN|apply below_drew1|refine below_set ?_ GE8.out|refine below_set ?_ GE13.out)|exact HB.out)⟩
       ·rw [if_neg c24] at H
        have c24b0 : (t21 == t24 && (t22 == t25 && (t23 == t26))) = false := by simpa using c24
        (try (have c24b1 : decide (t21 = t24 && (t22 == t25 && (t23 == t26))) = false := by simpa using c24))
        (try (have c24b2 : (t21 == t24 && (t22 == t25 && (t23 == t26))) = false := by simpa using c24))
        (try (have c24b3 : ¬ (t21 = t24 && (t22 == t25 && (t23 == t26))) := by simpa using c24))
        clear c24
        obtain rfl := Option.some.inj H
        go_wp2_with (first|((with_reducible refine gate_callee (f := 33) rfl ?_);refine goesL_ (some 32) rfl rfl Try.func33 (by kernel_rfl) rfl #[.slice A0 l0.length c0, .string a1] rfl (by (try simp only [List.map_toArray, List.map_cons, List.map_nil]);first|done|rfl|(simp only [List.length_drop, List.length_take];rfl)) ?_;(with_reducible refine (room_Of.calls kj3 _ _ l0 a1 t4 t5 t6 t7 _ ?side1 ?side2 A14.out).mono ?_);(case side1 => repeat (first|exact (Kd.C_below HR0.out HB.out)|(with_reducible refine Kd.C_alloc ?_ _)|(with_reducible refine Kd.C_drewN ?_ _)|(with_reducible refine Kd.C_drew ?_)));(case side2 => exact HC0.out);rintro e w41 ⟨rfl, hb⟩;refine ⟨_, rfl, ?_⟩;have n0_ := Aside0.mk (below_step (by repeat (first|(with_reducible first|exact HB.out|apply below_alloc|apply pw_below_drewN|apply below_drew1)|exact HB.out)) hb);clear HB;have HB := n0_;clear n0_;(try clear hb);(try clear hb2);(try clear hk);(try clear hi))|((with_reducible refine gate_dst (N := 7) rfl ?_);(try (refine gate_guard (by rfl) ?_;dsimp only));refine box_event ?hg (N := 7) ?hd (cs := #[.int .i64 0, .int .i64 0, .int .i64 0]) (t := 27) ?hr ?_;(case hd => rfl);(case hg => rfl);(case hr => first|(go_simp;done)|(go_simp;rfl));intro gb8 hg w42 hbox hb;have n0_ := Aside0.mk (below_step (by repeat (first|(with_reducible first|exact HB.out|apply below_alloc|apply pw_below_drewN|apply below_drew1)|exact HB.out)) hb);have n1_ := Aside0.mk (hbox);have n2_ := Aside0.mk ((by rw [hg];exact (below_size (by repeat (first|(with_reducible first|exact HB.out|apply below_alloc|apply pw_below_drewN|apply below_drew1)|exact HB.out))) : w.heap.size ≤ gb8));have n3_ := Aside0.mk ((by rw [hg];exact (below_size (by repeat (first|(with_reducible first|exact HB.out|apply below_alloc|apply pw_below_drewN|apply below_drew1)|exact HB.out))) : w.heap.size ≤ gb8));clear HB;have HB := n0_;have BK8 := n1_;have GW8 := n2_;have GE8 := n3_;clear n0_ n1_ n2_ n3_;clear hb hbox hg;have hcz43_0 : w42.cell? ⟨gb8, 0, none⟩ = some (.int .i64 0) := (blk_cell BK8.out 0).trans rfl;have hcz43_1 : w42.cell? ⟨gb8, 1, none⟩ = some (.int .i64 0) := (blk_cell BK8.out 1).trans rfl;have hcz43_2 : w42.cell? ⟨gb8, 2, none⟩ = some (.int .i64 0) := (blk_cell BK8.out 2).trans rfl;have hfz43_0 := blk_frozen BK8.out 0;have hfz43_1 := blk_frozen BK8.out 1;have hfz43_2 := blk_frozen BK8.out 2)|((with_reducible refine gate_callee (f := 78) rfl ?_);refine goesL_ (some 38) rfl rfl Try.func78 (by kernel_rfl) rfl #[.slice A0 l0.length c0, .string a1] rfl (by (try simp only [List.map_toArray, List.map_cons, List.map_nil]);first|done|rfl|(simp only [List.length_drop, List.length_take];rfl)) ?_;(with_reducible refine (r10_Room.calls kj3 _ _ l0 a1 t9 t10 t11 t12 _ ?side1 ?side2 A15.out).mono ?_);(case side1 => exact Kd.C_below HR0.out (by repeat (first|(with_reducible first|exact HB.out|apply below_alloc|apply pw_below_drewN|apply below_drew1|refine below_set ?_ GE8.out)|exact HB.out)));(case side2 => exact HC0.out);rintro e w44 ⟨rfl, hb⟩;refine ⟨_, rfl, ?_⟩;have n0_ := Aside0.mk (blk_below (g := gb8) (o := .cells #[.int .i64 t4, .int .i64 t5, .int .i64 t6] 27 (0, 0)) (by (with_reducible repeat (first|refine blk_drewN ?_ _|refine blk_drew ?_|refine blk_alloc ?_ _));refine blk_put (cs := #[.int .i64 t4, .int .i64 t5, .int .i64 0]) ?_ 2 _ rfl;(with_reducible repeat (first|refine blk_drewN ?_ _|refine blk_drew ?_|refine blk_alloc ?_ _));refine blk_put (cs := #[.int .i64 t4, .int .i64 0, .int .i64 0]) ?_ 1 _ rfl;(with_reducible repeat (first|refine blk_drewN ?_ _|refine blk_drew ?_|refine blk_alloc ?_ _));refine blk_put (cs := #[.int .i64 0, .int .i64 0, .int .i64 0]) ?_ 0 _ rfl;(with_reducible repeat (first|refine blk_drewN ?_ _|refine blk_drew ?_|refine blk_alloc ?_ _));exact BK8.out) hb);have n1_ := Aside0.mk (below_step (by repeat (first|(with_reducible first|exact HB.out|apply below_alloc|apply pw_below_drewN|apply below_drew1|refine below_set ?_ GE8.out)|exact HB.out)) hb);clear BK8;clear HB;have BK8 := n0_;have HB := n1_;clear n0_ n1_;(try clear hb);(try clear hb2);(try clear hk);(try clear hi))|((with_reducible refine gate_dst (N := 9) rfl ?_);(try (refine gate_guard (by rfl) ?_;dsimp only));refine box_event ?hg (N := 9) ?hd (cs := #[.int .i64 0, .int .i64 0, .int .i64 0]) (t := 27) ?hr ?_;(case hd => rfl);(case hg => rfl);(case hr => first|(go_simp;done)|(go_simp;rfl));intro gb13 hg w45 hbox hb;have n0_ := Aside0.mk (blk_below (g := gb8) (o := .cells #[.int .i64 t4, .int .i64 t5, .int .i64 t6] 27 (0, 0)) (by (with_reducible repeat (first|refine blk_drewN ?_ _|refine blk_drew ?_|refine blk_alloc ?_ _));exact BK8.out) hb);have n1_ := Aside0.mk (below_step (by repeat (first|(with_reducible first|exact HB.out|apply below_alloc|apply pw_below_drewN|apply below_drew1|refine below_set ?_ GE8.out)|exact HB.out)) hb);have n2_ := Aside0.mk (hbox);have n3_ := Aside0.mk ((by rw [hg];exact (below_size (by repeat (first|(with_reducible first|exact HB.out|apply below_alloc|apply pw_below_drewN|apply below_drew1|refine below_set ?_ GE8.out)|exact HB.out))) : w.heap.size ≤ gb13));have n4_ := Aside0.mk ((by rw [hg];exact (below_size (by repeat (first|(with_reducible first|exact HB.out|apply below_alloc|apply pw_below_drewN|apply below_drew1|refine below_set ?_ GE8.out)|exact HB.out))) : w.heap.size ≤ gb13));have n5_ := Aside0.mk ((by rw [hg];exact Nat.ne_of_lt (blk_lt (g := gb8) (o := .cells #[.int .i64 t4, .int .i64 t5, .int .i64 t6] 27 (0, 0)) (by (with_reducible repeat (first|refine blk_drewN ?_ _|refine blk_drew ?_|refine blk_alloc ?_ _));exact BK8.out)) : gb8 ≠ gb13));have n6_ := Aside0.mk ((by rw [hg];exact Nat.ne_of_gt (blk_lt (g := gb8) (o := .cells #[.int .i64 t4, .int .i64 t5, .int .i64 t6] 27 (0, 0)) (by (with_reducible repeat (first|refine blk_drewN ?_ _|refine blk_drew ?_|refine blk_alloc ?_ _));exact BK8.out)) : gb13 ≠ gb8));clear BK8;clear HB;have BK8 := n0_;have HB := n1_;have BK13 := n2_;have GW13 := n3_;have GE13 := n4_;have NB8_13 := n5_;have NB13_8 := n6_;clear n0_ n1_ n2_ n3_ n4_ n5_ n6_;clear hb hbox hg;have hnb46 := NB13_8.out;have hnc46 := NB8_13.out;have hcz47_0 : w45.cell? ⟨gb13, 0, none⟩ = some (.int .i64 0) := (blk_cell BK13.out 0).trans rfl;have hcz47_1 : w45.cell? ⟨gb13, 1, none⟩ = some (.int .i64 0) := (blk_cell BK13.out 1).trans rfl;have hcz47_2 : w45.cell? ⟨gb13, 2, none⟩ = some (.int .i64 0) := (blk_cell BK13.out 2).trans rfl;have hfz47_0 := blk_frozen BK13.out 0;have hfz47_1 := blk_frozen BK13.out 1;have hfz47_2 := blk_frozen BK13.out 2;have hcz48_0 : w45.cell? ⟨gb8, 0, none⟩ = some (.int .i64 t4) := (blk_cell BK8.out 0).trans rfl;have hcz48_1 : w45.cell? ⟨gb8, 1, none⟩ = some (.int .i64 t5) := (blk_cell BK8.out 1).trans rfl;have hcz48_2 : w45.cell? ⟨gb8, 2, none⟩ = some (.int .i64 t6) := (blk_cell BK8.out 2).trans rfl;have hfz48_0 := blk_frozen BK8.out 0;have hfz48_1 := blk_frozen BK8.out 1;have hfz48_2 := blk_frozen BK8.out 2)|(go_at_call 64;(with_reducible refine (room_Tight.calls kj3 _ _ l0 a1 t14 _ ?side1 ?side2 A18.out).mono ?_);(case side1 => exact Kd.C_below HR0.out (by repeat (first|(with_reducible first|exact HB.out|apply below_alloc|apply pw_below_drewN|apply below_drew1|refine below_set ?_ GE8.out|refine below_set ?_ GE13.out)|exact HB.out)));(case side2 => exact HC0.out);rintro e w49 ⟨v15, rfl, ho0, hb⟩;have n0_ := Aside0.mk (Kd.R_lower ho0 (below_size (by repeat (first|(with_reducible first|exact HB.out|apply below_alloc|apply pw_below_drewN|apply below_drew1|refine below_set ?_ GE8.out|refine below_set ?_ GE13.out)|exact HB.out))));have n1_ := Aside0.mk (blk_below (g := gb8) (o := .cells #[.int .i64 t4, .int .i64 t5, .int .i64 t6] 27 (0, 0)) (by (with_reducible repeat (first|refine blk_drewN ?_ _|refine blk_drew ?_|refine blk_alloc ?_ _));refine blk_far ?_ NB8_13.out _;(with_reducible repeat (first|refine blk_drewN ?_ _|refine blk_drew ?_|refine blk_alloc ?_ _));refine blk_far ?_ NB8_13.out _;(with_reducible repeat (first|refine blk_drewN ?_ _|refine blk_drew ?_|refine blk_alloc ?_ _));refine blk_far ?_ NB8_13.out _;(with_reducible repeat (first|refine blk_drewN ?_ _|refine blk_drew ?_|refine blk_alloc ?_ _));exact BK8.out) hb);have n2_ := Aside0.mk (blk_below (g := gb13) (o := .cells #[.int .i64 t9, .int .i64 t10, .int .i64 t11] 27 (0, 0)) (by (with_reducible repeat (first|refine blk_drewN ?_ _|refine blk_drew ?_|refine blk_alloc ?_ _));refine blk_put (cs := #[.int .i64 t9, .int .i64 t10, .int .i64 0]) ?_ 2 _ rfl;(with_reducible repeat (first|refine blk_drewN ?_ _|refine blk_drew ?_|refine blk_alloc ?_ _));refine blk_put (cs := #[.int .i64 t9, .int .i64 0, .int .i64 0]) ?_ 1 _ rfl;(with_reducible repeat (first|refine blk_drewN ?_ _|refine blk_drew ?_|refine blk_alloc ?_ _));refine blk_put (cs := #[.int .i64 0, .int .i64 0, .int .i64 0]) ?_ 0 _ rfl;(with_reducible repeat (first|refine blk_drewN ?_ _|refine blk_drew ?_|refine blk_alloc ?_ _));exact BK13.out) hb);have n3_ := Aside0.mk (below_step (by repeat (first|(with_reducible first|exact HB.out|apply below_alloc|apply pw_below_drewN|apply below_drew1|refine below_set ?_ GE8.out|refine below_set ?_ GE13.out)|exact HB.out)) hb);clear BK8;clear BK13;clear HB;have HO16 := n0_;have BK8 := n1_;have BK13 := n2_;have HB := n3_;clear n0_ n1_ n2_ n3_;(try clear hb);(try clear hb2);(try clear hk);(try clear hi);(try clear ho0))|(go_at_call 80;(with_reducible refine (r10_Tight.calls kj3 _ _ l0 a1 t17 _ ?side1 ?side2 A19.out).mono ?_);(case side1 => repeat (first|exact (Kd.C_below HR0.out HB.out)|(with_reducible refine Kd.C_alloc ?_ _)|(with_reducible refine Kd.C_drewN ?_ _)|(with_reducible refine Kd.C_drew ?_)));(case side2 => exact HC0.out);rintro e w50 ⟨v18, rfl, ho0, hb⟩;have n0_ := Aside0.mk (Kd.R_elder' (by (with_reducible repeat (first|apply Kd.R_alloc|apply Kd.R_drewN|apply Kd.R_drew));exact HO16.out) (Kd.R_base ho0) hb);have n1_ := Aside0.mk (Kd.R_lower (Kd.R_new' ho0 (Kd.R_lt (by (with_reducible repeat (first|apply Kd.R_alloc|apply Kd.R_drewN|apply Kd.R_drew));exact HO16.out))) (below_size (by repeat (first|(with_reducible first|exact HB.out|apply below_alloc|apply pw_below_drewN|apply below_drew1|refine below_set ?_ GE8.out|refine below_set ?_ GE13.out)|exact HB.out))));have n2_ := Aside0.mk (blk_below (g := gb8) (o := .cells #[.int .i64 t4, .int .i64 t5, .int .i64 t6] 27 (0, 0)) (by (with_reducible repeat (first|refine blk_drewN ?_ _|refine blk_drew ?_|refine blk_alloc ?_ _));exact BK8.out) hb);have n3_ := Aside0.mk (blk_below (g := gb13) (o := .cells #[.int .i64 t9, .int .i64 t10, .int .i64 t11] 27 (0, 0)) (by (with_reducible repeat (first|refine blk_drewN ?_ _|refine blk_drew ?_|refine blk_alloc ?_ _));exact BK13.out) hb);have n4_ := Aside0.mk (below_step (by repeat (first|(with_reducible first|exact HB.out|apply below_alloc|apply pw_below_drewN|apply below_drew1|refine below_set ?_ GE8.out|refine below_set ?_ GE13.out)|exact HB.out)) hb);clear HO16;clear BK8;clear BK13;clear HB;have HO16 := n0_;have HO19 := n1_;have BK8 := n2_;have BK13 := n3_;have HB := n4_;clear n0_ n1_ n2_ n3_ n4_;(try clear hb);(try clear hb2);(try clear hk);(try clear hi);(try clear ho0);obtain ⟨Ao51, co51, eo51⟩ := Kd.R_slice HO16.out;subst eo51;obtain ⟨Ao52, co52, eo52⟩ := Kd.R_slice HO19.out;subst eo52)|(go_at_call 79;(with_reducible refine (r1_Texts.calls kj3 _ _ t14 _ _ t17 true _ ?side1 ?side2 ?side3 ?side4 A20.out).mono ?_);(case side1 => repeat (first|exact (Kd.R_reads' HO16.out).2.2|(with_reducible refine Kd.C_alloc ?_ _)|(with_reducible refine Kd.C_drewN ?_ _)|(with_reducible refine Kd.C_drew ?_)));(case side2 => exact (Kd.R_reads' HO16.out).2.1);(case side3 => repeat (first|exact (Kd.R_reads' HO19.out).2.2|(with_reducible refine Kd.C_alloc ?_ _)|(with_reducible refine Kd.C_drewN ?_ _)|(with_reducible refine Kd.C_drew ?_)));(case side4 => exact (Kd.R_reads' HO19.out).2.1);rintro e w' ⟨rfl, ⟨nd, rfl⟩⟩)|(go_at_call 74;(with_reducible refine (room_Share.calls kj3 _ _ l0 _ _ l2 t21 t22 t23 _ ?side1 ?side2 ?side3 ?side4 A22.out).mono ?_);(case side1 => repeat (first|exact (Kd.C_below HR0.out (by repeat (first|(with_reducible first|exact HB.out|apply below_alloc|apply pw_below_drewN|apply below_drew1|refine below_set ?_ GE8.out|refine below_set ?_ GE13.out)|exact HB.out)))|(with_reducible refine Kd.C_alloc ?_ _)|(with_reducible refine Kd.C_drewN ?_ _)|(with_reducible refine Kd.C_drew ?_)));(case side2 => exact HC0.out);(case side3 => repeat (first|exact (Kd.C_below HR2.out (by repeat (first|(with_reducible first|exact HB.out|apply below_alloc|apply pw_below_drewN|apply below_drew1|refine below_set ?_ GE8.out|refine below_set ?_ GE13.out)|exact HB.out)))|(with_reducible refine Kd.C_alloc ?_ _)|(with_reducible refine Kd.C_drewN ?_ _)|(with_reducible refine Kd.C_drew ?_)));(case side4 => exact HC2.out);rintro e w53 ⟨rfl, hb⟩;have n0_ := Aside0.mk (Kd.R_below (by (with_reducible repeat (first|apply Kd.R_alloc|apply Kd.R_drewN|apply Kd.R_drew));exact HO16.out) hb);have n1_ := Aside0.mk (Kd.R_below (by (with_reducible repeat (first|apply Kd.R_alloc|apply Kd.R_drewN|apply Kd.R_drew));exact HO19.out) hb);have n2_ := Aside0.mk (blk_below (g := gb8) (o := .cells #[.int .i64 t4, .int .i64 t5, .int .i64 t6] 27 (0, 0)) (by (with_reducible repeat (first|refine blk_drewN ?_ _|refine blk_drew ?_|refine blk_alloc ?_ _));exact BK8.out) hb);have n3_ := Aside0.mk (blk_below (g := gb13) (o := .cells #[.int .i64 t9, .int .i64 t10, .int .i64 t11] 27 (0, 0)) (by (with_reducible repeat (first|refine blk_drewN ?_ _|refine blk_drew ?_|refine blk_alloc ?_ _));exact BK13.out) hb);have n4_ := Aside0.mk (below_step (by repeat (first|(with_reducible first|exact HB.out|apply below_alloc|apply pw_below_drewN|apply below_drew1|refine below_set ?_ GE8.out|refine below_set ?_ GE13.out)|exact HB.out)) hb);clear HO16;clear HO19;clear BK8;clear BK13;clear HB;have HO16 := n0_;have HO19 := n1_;have BK8 := n2_;have BK13 := n3_;have HB := n4_;clear n0_ n1_ n2_ n3_ n4_;(try clear hb);(try clear hb2);(try clear hk);(try clear hi))|(go_at_call 81;(with_reducible refine (r10_Share.calls kj3 _ _ l0 _ _ l2 t24 t25 t26 _ ?side1 ?side2 ?side3 ?side4 A23.out).mono ?_);(case side1 => repeat (first|exact (Kd.C_below HR0.out HB.out)|(with_reducible refine Kd.C_alloc ?_ _)|(with_reducible refine Kd.C_drewN ?_ _)|(with_reducible refine Kd.C_drew ?_)));(case side2 => exact HC0.out);(case side3 => repeat (first|exact (Kd.C_below HR2.out HB.out)|(with_reducible refine Kd.C_alloc ?_ _)|(with_reducible refine Kd.C_drewN ?_ _)|(with_reducible refine Kd.C_drew ?_)));(case side4 => exact HC2.out);rintro e w54 ⟨rfl, hb⟩;have n0_ := Aside0.mk (Kd.R_below (by (with_reducible repeat (first|apply Kd.R_alloc|apply Kd.R_drewN|apply Kd.R_drew));exact HO16.out) hb);have n1_ := Aside0.mk (Kd.R_below (by (with_reducible repeat (first|apply Kd.R_alloc|apply Kd.R_drewN|apply Kd.R_drew));exact HO19.out) hb);have n2_ := Aside0.mk (blk_below (g := gb8) (o := .cells #[.int .i64 t4, .int .i64 t5, .int .i64 t6] 27 (0, 0)) (by (with_reducible repeat (first|refine blk_drewN ?_ _|refine blk_drew ?_|refine blk_alloc ?_ _));exact BK8.out) hb);have n3_ := Aside0.mk (blk_below (g := gb13) (o := .cells #[.int .i64 t9, .int .i64 t10, .int .i64 t11] 27 (0, 0)) (by (with_reducible repeat (first|refine blk_drewN ?_ _|refine blk_drew ?_|refine blk_alloc ?_ _));exact BK13.out) hb);have n4_ := Aside0.mk (below_step (by repeat (first|(with_reducible first|exact HB.out|apply below_alloc|apply pw_below_drewN|apply below_drew1|refine below_set ?_ GE8.out|refine below_set ?_ GE13.out)|exact HB.out)) hb);clear HO16;clear HO19;clear BK8;clear BK13;clear HB;have HO16 := n0_;have HO19 := n1_;have BK8 := n2_;have BK13 := n3_;have HB := n4_;clear n0_ n1_ n2_ n3_ n4_;(try clear hb);(try clear hb2);(try clear hk);(try clear hi)))
        go_ret
        exact ⟨by first|rfl|(simp [errW_none, errW_some] <;> rfl)|(simp [*, errW_none, errW_some] <;> rfl), by repeat (first|(with_reducible first|exact HB.out|apply below_alloc|apply pw_below_drewN|apply below_drew1|refine below_set ?_ GE8.out|refine below_set ?_ GE13.out)|exact HB.out)⟩
      ·replace c21 := Bool.eq_false_iff.mpr c21
       subst c21
       have H1 : (some false) = some r := by rw [if_neg (show ¬ (false = true) by decide)] at H; exact H
       clear H
       have H := H1
       clear H1
       obtain rfl := Option.some.inj H
       go_wp2_with (first|((with_reducible refine gate_callee (f := 33) rfl ?_);refine goesL_ (some 32) rfl rfl Try.func33 (by kernel_rfl) rfl #[.slice A0 l0.length c0, .string a1] rfl (by (try simp only [List.map_toArray, List.map_cons, List.map_nil]);first|done|rfl|(simp only [List.length_drop, List.length_take];rfl)) ?_;(with_reducible refine (room_Of.calls kj3 _ _ l0 a1 t4 t5 t6 t7 _ ?side1 ?side2 A14.out).mono ?_);(case side1 => repeat (first|exact (Kd.C_below HR0.out HB.out)|(with_reducible refine Kd.C_alloc ?_ _)|(with_reducible refine Kd.C_drewN ?_ _)|(with_reducible refine Kd.C_drew ?_)));(case side2 => exact HC0.out);rintro e w55 ⟨rfl, hb⟩;refine ⟨_, rfl, ?_⟩;have n0_ := Aside0.mk (below_step (by repeat (first|(with_reducible first|exact HB.out|apply below_alloc|apply pw_below_drewN|apply below_drew1)|exact HB.out)) hb);clear HB;have HB := n0_;clear n0_;(try clear hb);(try clear hb2);(try clear hk);(try clear hi))|((with_reducible refine gate_dst (N := 7) rfl ?_);(try (refine gate_guard (by rfl) ?_;dsimp only));refine box_event ?hg (N := 7) ?hd (cs := #[.int .i64 0, .int .i64 0, .int .i64 0]) (t := 27) ?hr ?_;(case hd => rfl);(case hg => rfl);(case hr => first|(go_simp;done)|(go_simp;rfl));intro gb8 hg w56 hbox hb;have n0_ := Aside0.mk (below_step (by repeat (first|(with_reducible first|exact HB.out|apply below_alloc|apply pw_below_drewN|apply below_drew1)|exact HB.out)) hb);have n1_ := Aside0.mk (hbox);have n2_ := Aside0.mk ((by rw [hg];exact (below_size (by repeat (first|(with_reducible first|exact HB.out|apply below_alloc|apply pw_below_drewN|apply below_drew1)|exact HB.out))) : w.heap.size ≤ gb8));have n3_ := Aside0.mk ((by rw [hg];exact (below_size (by repeat (first|(with_reducible first|exact HB.out|apply below_alloc|apply pw_below_drewN|apply below_drew1)|exact HB.out))) : w.heap.size ≤ gb8));clear HB;have HB := n0_;have BK8 := n1_;have GW8 := n2_;have GE8 := n3_;clear n0_ n1_ n2_ n3_;clear hb hbox hg;have hcz57_0 : w56.cell? ⟨gb8, 0, none⟩ = some (.int .i64 0) := (blk_cell BK8.out 0).trans rfl;have hcz57_1 : w56.cell? ⟨gb8, 1, none⟩ = some (.int .i64 0) := (blk_cell BK8.out 1).trans rfl;have hcz57_2 : w56.cell? ⟨gb8, 2, none⟩ = some (.int .i64 0) := (blk_cell BK8.out 2).trans rfl;have hfz57_0 := blk_frozen BK8.out 0;have hfz57_1 := blk_frozen BK8.out 1;have hfz57_2 := blk_frozen BK8.out 2)|((with_reducible refine gate_callee (f := 78) rfl ?_);refine goesL_ (some 38) rfl rfl Try.func78 (by kernel_rfl) rfl #[.slice A0 l0.length c0, .string a1] rfl (by (try simp only [List.map_toArray, List.map_cons, List.map_nil]);first|done|rfl|(simp only [List.length_drop, List.length_take];rfl)) ?_;(with_reducible refine (r10_Room.calls kj3 _ _ l0 a1 t9 t10 t11 t12 _ ?side1 ?side2 A15.out).mono ?_);(case side1 => exact Kd.C_below HR0.out (by repeat (first|(with_reducible first|exact HB.out|apply below_alloc|apply pw_below_drewN|apply below_drew1|refine below_set ?_ GE8.out)|exact HB.out)));(case side2 => exact HC0.out);rintro e w58 ⟨rfl, hb⟩;refine ⟨_, rfl, ?_⟩;have n0_ := Aside0.mk (blk_below (g := gb8) (o := .cells #[.int .i64 t4, .int .i64 t5, .int .i64 t6] 27 (0, 0)) (by (with_reducible repeat (first|refine blk_drewN ?_ _|refine blk_drew ?_|refine blk_alloc ?_ _));refine blk_put (cs := #[.int .i64 t4, .int .i64 t5, .int .i64 0]) ?_ 2 _ rfl;(with_reducible repeat (first|refine blk_drewN ?_ _|refine blk_drew ?_|refine blk_alloc ?_ _));refine blk_put (cs := #[.int .i64 t4, .int .i64 0, .int .i64 0]) ?_ 1 _ rfl;(with_reducible repeat (first|refine blk_drewN ?_ _|refine blk_drew ?_|refine blk_alloc ?_ _));refine blk_put (cs := #[.int .i64 0, .int .i64 0, .int .i64 0]) ?_ 0 _ rfl;(with_reducible repeat (first|refine blk_drewN ?_ _|refine blk_drew ?_|refine blk_alloc ?_ _));exact BK8.out) hb);have n1_ := Aside0.mk (below_step (by repeat (first|(with_reducible first|exact HB.out|apply below_alloc|apply pw_below_drewN|apply below_drew1|refine below_set ?_ GE8.out)|exact HB.out)) hb);clear BK8;clear HB;have BK8 := n0_;have HB := n1_;clear n0_ n1_;(try clear hb);(try clear hb2);(try clear hk);(try clear hi))|((with_reducible refine gate_dst (N := 9) rfl ?_);(try (refine gate_guard (by rfl) ?_;dsimp only));refine box_event ?hg (N := 9) ?hd (cs := #[.int .i64 0, .int .i64 0, .int .i64 0]) (t := 27) ?hr ?_;(case hd => rfl);(case hg => rfl);(case hr => first|(go_simp;done)|(go_simp;rfl));intro gb13 hg w59 hbox hb;have n0_ := Aside0.mk (blk_below (g := gb8) (o := .cells #[.int .i64 t4, .int .i64 t5, .int .i64 t6] 27 (0, 0)) (by (with_reducible repeat (first|refine blk_drewN ?_ _|refine blk_drew ?_|refine blk_alloc ?_ _));exact BK8.out) hb);have n1_ := Aside0.mk (below_step (by repeat (first|(with_reducible first|exact HB.out|apply below_alloc|apply pw_below_drewN|apply below_drew1|refine below_set ?_ GE8.out)|exact HB.out)) hb);have n2_ := Aside0.mk (hbox);have n3_ := Aside0.mk ((by rw [hg];exact (below_size (by repeat (first|(with_reducible first|exact HB.out|apply below_alloc|apply pw_below_drewN|apply below_drew1|refine below_set ?_ GE8.out)|exact HB.out))) : w.heap.size ≤ gb13));have n4_ := Aside0.mk ((by rw [hg];exact (below_size (by repeat (first|(with_reducible first|exact HB.out|apply below_alloc|apply pw_below_drewN|apply below_drew1|refine below_set ?_ GE8.out)|exact HB.out))) : w.heap.size ≤ gb13));have n5_ := Aside0.mk ((by rw [hg];exact Nat.ne_of_lt (blk_lt (g := gb8) (o := .cells #[.int .i64 t4, .int .i64 t5, .int .i64 t6] 27 (0, 0)) (by (with_reducible repeat (first|refine blk_drewN ?_ _|refine blk_drew ?_|refine blk_alloc ?_ _));exact BK8.out)) : gb8 ≠ gb13));have n6_ := Aside0.mk ((by rw [hg];exact Nat.ne_of_gt (blk_lt (g := gb8) (o := .cells #[.int .i64 t4, .int .i64 t5, .int .i64 t6] 27 (0, 0)) (by (with_reducible repeat (first|refine blk_drewN ?_ _|refine blk_drew ?_|refine blk_alloc ?_ _));exact BK8.out)) : gb13 ≠ gb8));clear BK8;clear HB;have BK8 := n0_;have HB := n1_;have BK13 := n2_;have GW13 := n3_;have GE13 := n4_;have NB8_13 := n5_;have NB13_8 := n6_;clear n0_ n1_ n2_ n3_ n4_ n5_ n6_;clear hb hbox hg;have hnb60 := NB13_8.out;have hnc60 := NB8_13.out;have hcz61_0 : w59.cell? ⟨gb13, 0, none⟩ = some (.int .i64 0) := (blk_cell BK13.out 0).trans rfl;have hcz61_1 : w59.cell? ⟨gb13, 1, none⟩ = some (.int .i64 0) := (blk_cell BK13.out 1).trans rfl;have hcz61_2 : w59.cell? ⟨gb13, 2, none⟩ = some (.int .i64 0) := (blk_cell BK13.out 2).trans rfl;have hfz61_0 := blk_frozen BK13.out 0;have hfz61_1 := blk_frozen BK13.out 1;have hfz61_2 := blk_frozen BK13.out 2;have hcz62_0 : w59.cell? ⟨gb8, 0, none⟩ = some (.int .i64 t4) := (blk_cell BK8.out 0).trans rfl;have hcz62_1 : w59.cell? ⟨gb8, 1, none⟩ = some (.int .i64 t5) := (blk_cell BK8.out 1).trans rfl;have hcz62_2 : w59.cell? ⟨gb8, 2, none⟩ = some (.int .i64 t6) := (blk_cell BK8.out 2).trans rfl;have hfz62_0 := blk_frozen BK8.out 0;have hfz62_1 := blk_frozen BK8.out 1;have hfz62_2 := blk_frozen BK8.out 2)|(go_at_call 64;(with_reducible refine (room_Tight.calls kj3 _ _ l0 a1 t14 _ ?side1 ?side2 A18.out).mono ?_);(case side1 => exact Kd.C_below HR0.out (by repeat (first|(with_reducible first|exact HB.out|apply below_alloc|apply pw_below_drewN|apply below_drew1|refine below_set ?_ GE8.out|refine below_set ?_ GE13.out)|exact HB.out)));(case side2 => exact HC0.out);rintro e w63 ⟨v15, rfl, ho0, hb⟩;have n0_ := Aside0.mk (Kd.R_lower ho0 (below_size (by repeat (first|(with_reducible first|exact HB.out|apply below_alloc|apply pw_below_drewN|apply below_drew1|refine below_set ?_ GE8.out|refine below_set ?_ GE13.out)|exact HB.out))));have n1_ := Aside0.mk (blk_below (g := gb8) (o := .cells #[.int .i64 t4, .int .i64 t5, .int .i64 t6] 27 (0, 0)) (by (with_reducible repeat (first|refine blk_drewN ?_ _|refine blk_drew ?_|refine blk_alloc ?_ _));refine blk_far ?_ NB8_13.out _;(with_reducible repeat (first|refine blk_drewN ?_ _|refine blk_drew ?_|refine blk_alloc ?_ _));refine blk_far ?_ NB8_13.out _;(with_reducible repeat (first|refine blk_drewN ?_ _|refine blk_drew ?_|refine blk_alloc ?_ _));refine blk_far ?_ NB8_13.out _;(with_reducible repeat (first|refine blk_drewN ?_ _|refine blk_drew ?_|refine blk_alloc ?_ _));exact BK8.out) hb);have n2_ := Aside0.mk (blk_below (g := gb13) (o := .cells #[.int .i64 t9, .int .i64 t10, .int .i64 t11] 27 (0, 0)) (by (with_reducible repeat (first|refine blk_drewN ?_ _|refine blk_drew ?_|refine blk_alloc ?_ _));refine blk_put (cs := #[.int .i64 t9, .int .i64 t10, .int .i64 0]) ?_ 2 _ rfl;(with_reducible repeat (first|refine blk_drewN ?_ _|refine blk_drew ?_|refine blk_alloc ?_ _));refine blk_put (cs := #[.int .i64 t9, .int .i64 0, .int .i64 0]) ?_ 1 _ rfl;(with_reducible repeat (first|refine blk_drewN ?_ _|refine blk_drew ?_|refine blk_alloc ?_ _));refine blk_put (cs := #[.int .i64 0, .int .i64 0, .int .i64 0]) ?_ 0 _ rfl;(with_reducible repeat (first|refine blk_drewN ?_ _|refine blk_drew ?_|refine blk_alloc ?_ _));exact BK13.out) hb);have n3_ := Aside0.mk (below_step (by repeat (first|(with_reducible first|exact HB.out|apply below_alloc|apply pw_below_drewN|apply below_drew1|refine below_set ?_ GE8.out|refine below_set ?_ GE13.out)|exact HB.out)) hb);clear BK8;clear BK13;clear HB;have HO16 := n0_;have BK8 := n1_;have BK13 := n2_;have HB := n3_;clear n0_ n1_ n2_ n3_;(try clear hb);(try clear hb2);(try clear hk);(try clear hi);(try clear ho0))|(go_at_call 80;(with_reducible refine (r10_Tight.calls kj3 _ _ l0 a1 t17 _ ?side1 ?side2 A19.out).mono ?_);(case side1 => repeat (first|exact (Kd.C_below HR0.out HB.out)|(with_reducible refine Kd.C_alloc ?_ _)|(with_reducible refine Kd.C_drewN ?_ _)|(with_reducible refine Kd.C_drew ?_)));(case side2 => exact HC0.out);rintro e w64 ⟨v18, rfl, ho0, hb⟩;have n0_ := Aside0.mk (Kd.R_elder' (by (with_reducible repeat (first|apply Kd.R_alloc|apply Kd.R_drewN|apply Kd.R_drew));exact HO16.out) (Kd.R_base ho0) hb);have n1_ := Aside0.mk (Kd.R_lower (Kd.R_new' ho0 (Kd.R_lt (by (with_reducible repeat (first|apply Kd.R_alloc|apply Kd.R_drewN|apply Kd.R_drew));exact HO16.out))) (below_size (by repeat (first|(with_reducible first|exact HB.out|apply below_alloc|apply pw_below_drewN|apply below_drew1|refine below_set ?_ GE8.out|refine below_set ?_ GE13.out)|exact HB.out))));have n2_ := Aside0.mk (blk_below (g := gb8) (o := .cells #[.int .i64 t4, .int .i64 t5, .int .i64 t6] 27 (0, 0)) (by (with_reducible repeat (first|refine blk_drewN ?_ _|refine blk_drew ?_|refine blk_alloc ?_ _));exact BK8.out) hb);have n3_ := Aside0.mk (blk_below (g := gb13) (o := .cells #[.int .i64 t9, .int .i64 t10, .int .i64 t11] 27 (0, 0)) (by (with_reducible repeat (first|refine blk_drewN ?_ _|refine blk_drew ?_|refine blk_alloc ?_ _));exact BK13.out) hb);have n4_ := Aside0.mk (below_step (by repeat (first|(with_reducible first|exact HB.out|apply below_alloc|apply pw_below_drewN|apply below_drew1|refine below_set ?_ GE8.out|refine below_set ?_ GE13.out)|exact HB.out)) hb);clear HO16;clear BK8;clear BK13;clear HB;have HO16 := n0_;have HO19 := n1_;have BK8 := n2_;have BK13 := n3_;have HB := n4_;clear n0_ n1_ n2_ n3_ n4_;(try clear hb);(try clear hb2);(try clear hk);(try clear hi);(try clear ho0);obtain ⟨Ao65, co65, eo65⟩ := Kd.R_slice HO16.out;subst eo65;obtain ⟨Ao66, co66, eo66⟩ := Kd.R_slice HO19.out;subst eo66)|(go_at_call 79;(with_reducible refine (r1_Texts.calls kj3 _ _ t14 _ _ t17 false _ ?side1 ?side2 ?side3 ?side4 A20.out).mono ?_);(case side1 => repeat (first|exact (Kd.R_reads' HO16.out).2.2|(with_reducible refine Kd.C_alloc ?_ _)|(with_reducible refine Kd.C_drewN ?_ _)|(with_reducible refine Kd.C_drew ?_)));(case side2 => exact (Kd.R_reads' HO16.out).2.1);(case side3 => repeat (first|exact (Kd.R_reads' HO19.out).2.2|(with_reducible refine Kd.C_alloc ?_ _)|(with_reducible refine Kd.C_drewN ?_ _)|(with_reducible refine Kd.C_drew ?_)));(case side4 => exact (Kd.R_reads' HO19.out).2.1);rintro e w' ⟨rfl, ⟨nd, rfl⟩⟩))
       go_ret
       exact ⟨by first|rfl|(simp [errW_none, errW_some] <;> rfl)|(simp [*, errW_none, errW_some] <;> rfl), by repeat (first|(with_reducible first|exact HB.out|apply below_alloc|apply pw_below_drewN|apply below_drew1|refine below_set ?_ GE8.out|refine below_set ?_ GE13.out)|exact HB.out)⟩
     ·rw [if_neg c17] at H
      have c17b0 : (t7 == t12) = false := by simpa using c17
      (try (have c17b1 : decide (t7 = t12) = false := by simpa using c17))
      (try (have c17b2 : (t7 == t12) = false := by simpa using c17))
      (try (have c17b3 : ¬ (t7 = t12) := by simpa using c17))
      clear c17
      obtain rfl := Option.some.inj H
      go_wp2_with (first|((with_reducible refine gate_callee (f := 33) rfl ?_);refine goesL_ (some 32) rfl rfl Try.func33 (by kernel_rfl) rfl #[.slice A0 l0.length c0, .string a1] rfl (by (try simp only [List.map_toArray, List.map_cons, List.map_nil]);first|done|rfl|(simp only [List.length_drop, List.length_take];rfl)) ?_;(with_reducible refine (room_Of.calls kj3 _ _ l0 a1 t4 t5 t6 t7 _ ?side1 ?side2 A14.out).mono ?_);(case side1 => repeat (first|exact (Kd.C_below HR0.out HB.out)|(with_reducible refine Kd.C_alloc ?_ _)|(with_reducible refine Kd.C_drewN ?_ _)|(with_reducible refine Kd.C_drew ?_)));(case side2 => exact HC0.out);rintro e w67 ⟨rfl, hb⟩;refine ⟨_, rfl, ?_⟩;have n0_ := Aside0.mk (below_step (by repeat (first|(with_reducible first|exact HB.out|apply below_alloc|apply pw_below_drewN|apply below_drew1)|exact HB.out)) hb);clear HB;have HB := n0_;clear n0_;(try clear hb);(try clear hb2);(try clear hk);(try clear hi))|((with_reducible refine gate_dst (N := 7) rfl ?_);(try (refine gate_guard (by rfl) ?_;dsimp only));refine box_event ?hg (N := 7) ?hd (cs := #[.int .i64 0, .int .i64 0, .int .i64 0]) (t := 27) ?hr ?_;(case hd => rfl);(case hg => rfl);(case hr => first|(go_simp;done)|(go_simp;rfl));intro gb8 hg w68 hbox hb;have n0_ := Aside0.mk (below_step (by repeat (first|(with_reducible first|exact HB.out|apply below_alloc|apply pw_below_drewN|apply below_drew1)|exact HB.out)) hb);have n1_ := Aside0.mk (hbox);have n2_ := Aside0.mk ((by rw [hg];exact (below_size (by repeat (first|(with_reducible first|exact HB.out|apply below_alloc|apply pw_below_drewN|apply below_drew1)|exact HB.out))) : w.heap.size ≤ gb8));have n3_ := Aside0.mk ((by rw [hg];exact (below_size (by repeat (first|(with_reducible first|exact HB.out|apply below_alloc|apply pw_below_drewN|apply below_drew1)|exact HB.out))) : w.heap.size ≤ gb8));clear HB;have HB := n0_;have BK8 := n1_;have GW8 := n2_;have GE8 := n3_;clear n0_ n1_ n2_ n3_;clear hb hbox hg;have hcz69_0 : w68.cell? ⟨gb8, 0, none⟩ = some (.int .i64 0) := (blk_cell BK8.out 0).trans rfl;have hcz69_1 : w68.cell? ⟨gb8, 1, none⟩ = some (.int .i64 0) := (blk_cell BK8.out 1).trans rfl;have hcz69_2 : w68.cell? ⟨gb8, 2, none⟩ = some (.int .i64 0) := (blk_cell BK8.out 2).trans rfl;have hfz69_0 := blk_frozen BK8.out 0;have hfz69_1 := blk_frozen BK8.out 1;have hfz69_2 := blk_frozen BK8.out 2)|((with_reducible refine gate_callee (f := 78) rfl ?_);refine goesL_ (some 38) rfl rfl Try.func78 (by kernel_rfl) rfl #[.slice A0 l0.length c0, .string a1] rfl (by (try simp only [List.map_toArray, List.map_cons, List.map_nil]);first|done|rfl|(simp only [List.length_drop, List.length_take];rfl)) ?_;(with_reducible refine (r10_Room.calls kj3 _ _ l0 a1 t9 t10 t11 t12 _ ?side1 ?side2 A15.out).mono ?_);(case side1 => exact Kd.C_below HR0.out (by repeat (first|(with_reducible first|exact HB.out|apply below_alloc|apply pw_below_drewN|apply below_drew1|refine below_set ?_ GE8.out)|exact HB.out)));(case side2 => exact HC0.out);rintro e w70 ⟨rfl, hb⟩;refine ⟨_, rfl, ?_⟩;have n0_ := Aside0.mk (blk_below (g := gb8) (o := .cells #[.int .i64 t4, .int .i64 t5, .int .i64 t6] 27 (0, 0)) (by (with_reducible repeat (first|refine blk_drewN ?_ _|refine blk_drew ?_|refine blk_alloc ?_ _));refine blk_put (cs := #[.int .i64 t4, .int .i64 t5, .int .i64 0]) ?_ 2 _ rfl;(with_reducible repeat (first|refine blk_drewN ?_ _|refine blk_drew ?_|refine blk_alloc ?_ _));refine blk_put (cs := #[.int .i64 t4, .int .i64 0, .int .i64 0]) ?_ 1 _ rfl;(with_reducible repeat (first|refine blk_drewN ?_ _|refine blk_drew ?_|refine blk_alloc ?_ _));refine blk_put (cs := #[.int .i64 0, .int .i64 0, .int .i64 0]) ?_ 0 _ rfl;(with_reducible repeat (first|refine blk_drewN ?_ _|refine blk_drew ?_|refine blk_alloc ?_ _));exact BK8.out) hb);have n1_ := Aside0.mk (below_step (by repeat (first|(with_reducible first|exact HB.out|apply below_alloc|apply pw_below_drewN|apply below_drew1|refine below_set ?_ GE8.out)|exact HB.out)) hb);clear BK8;clear HB;have BK8 := n0_;have HB := n1_;clear n0_ n1_;(try clear hb);(try clear hb2);(try clear hk);(try clear hi))|((with_reducible refine gate_dst (N := 9) rfl ?_);(try (refine gate_guard (by rfl) ?_;dsimp only));refine box_event ?hg (N := 9) ?hd (cs := #[.int .i64 0, .int .i64 0, .int .i64 0]) (t := 27) ?hr ?_;(case hd => rfl);(case hg => rfl);(case hr => first|(go_simp;done)|(go_simp;rfl));intro gb13 hg w71 hbox hb;have n0_ := Aside0.mk (blk_below (g := gb8) (o := .cells #[.int .i64 t4, .int .i64 t5, .int .i64 t6] 27 (0, 0)) (by (with_reducible repeat (first|refine blk_drewN ?_ _|refine blk_drew ?_|refine blk_alloc ?_ _));exact BK8.out) hb);have n1_ := Aside0.mk (below_step (by repeat (first|(with_reducible first|exact HB.out|apply below_alloc|apply pw_below_drewN|apply below_drew1|refine below_set ?_ GE8.out)|exact HB.out)) hb);have n2_ := Aside0.mk (hbox);have n3_ := Aside0.mk ((by rw [hg];exact (below_size (by repeat (first|(with_reducible first|exact HB.out|apply below_alloc|apply pw_below_drewN|apply below_drew1|refine below_set ?_ GE8.out)|exact HB.out))) : w.heap.size ≤ gb13));have n4_ := Aside0.mk ((by rw [hg];exact (below_size (by repeat (first|(with_reducible first|exact HB.out|apply below_alloc|apply pw_below_drewN|apply below_drew1|refine below_set ?_ GE8.out)|exact HB.out))) : w.heap.size ≤ gb13));have n5_ := Aside0.mk ((by rw [hg];exact Nat.ne_of_lt (blk_lt (g := gb8) (o := .cells #[.int .i64 t4, .int .i64 t5, .int .i64 t6] 27 (0, 0)) (by (with_reducible repeat (first|refine blk_drewN ?_ _|refine blk_drew ?_|refine blk_alloc ?_ _));exact BK8.out)) : gb8 ≠ gb13));have n6_ := Aside0.mk ((by rw [hg];exact Nat.ne_of_gt (blk_lt (g := gb8) (o := .cells #[.int .i64 t4, .int .i64 t5, .int .i64 t6] 27 (0, 0)) (by (with_reducible repeat (first|refine blk_drewN ?_ _|refine blk_drew ?_|refine blk_alloc ?_ _));exact BK8.out)) : gb13 ≠ gb8));clear BK8;clear HB;have BK8 := n0_;have HB := n1_;have BK13 := n2_;have GW13 := n3_;have GE13 := n4_;have NB8_13 := n5_;have NB13_8 := n6_;clear n0_ n1_ n2_ n3_ n4_ n5_ n6_;clear hb hbox hg;have hnb72 := NB13_8.out;have hnc72 := NB8_13.out;have hcz73_0 : w71.cell? ⟨gb13, 0, none⟩ = some (.int .i64 0) := (blk_cell BK13.out 0).trans rfl;have hcz73_1 : w71.cell? ⟨gb13, 1, none⟩ = some (.int .i64 0) := (blk_cell BK13.out 1).trans rfl;have hcz73_2 : w71.cell? ⟨gb13, 2, none⟩ = some (.int .i64 0) := (blk_cell BK13.out 2).trans rfl;have hfz73_0 := blk_frozen BK13.out 0;have hfz73_1 := blk_frozen BK13.out 1;have hfz73_2 := blk_frozen BK13.out 2;have hcz74_0 : w71.cell? ⟨gb8, 0, none⟩ = some (.int .i64 t4) := (blk_cell BK8.out 0).trans rfl;have hcz74_1 : w71.cell? ⟨gb8, 1, none⟩ = some (.int .i64 t5) := (blk_cell BK8.out 1).trans rfl;have hcz74_2 : w71.cell? ⟨gb8, 2, none⟩ = some (.int .i64 t6) := (blk_cell BK8.out 2).trans rfl;have hfz74_0 := blk_frozen BK8.out 0;have hfz74_1 := blk_frozen BK8.out 1;have hfz74_2 := blk_frozen BK8.out 2))
      go_ret
      exact ⟨by first|rfl|(simp [errW_none, errW_some] <;> rfl)|(simp [*, errW_none, errW_some] <;> rfl), by repeat (first|(with_reducible first|exact HB.out|apply below_alloc|apply pw_below_drewN|apply below_drew1|refine below_set ?_ GE8.out|refine below_set ?_ GE13.out)|exact HB.out)⟩
    ·rw [if_neg c16] at H
     have c16b0 : (t4 == t9 && (t5 == t10 && (t6 == t11))) = false := by simpa using c16
     (try (have c16b1 : decide (t4 = t9 && (t5 == t10 && (t6 == t11))) = false := by simpa using c16))
     (try (have c16b2 : (t4 == t9 && (t5 == t10 && (t6 == t11))) = false := by simpa using c16))
     (try (have c16b3 : ¬ (t4 = t9 && (t5 == t10 && (t6 == t11))) := by simpa using c16))
     clear c16
     obtain rfl := Option.some.inj H
     go_wp2_with (first|((with_reducible refine gate_callee (f := 33) rfl ?_);refine goesL_ (some 32) rfl rfl Try.func33 (by kernel_rfl) rfl #[.slice A0 l0.length c0, .string a1] rfl (by (try simp only [List.map_toArray, List.map_cons, List.map_nil]);first|done|rfl|(simp only [List.length_drop, List.length_take];rfl)) ?_;(with_reducible refine (room_Of.calls kj3 _ _ l0 a1 t4 t5 t6 t7 _ ?side1 ?side2 A14.out).mono ?_);(case side1 => repeat (first|exact (Kd.C_below HR0.out HB.out)|(with_reducible refine Kd.C_alloc ?_ _)|(with_reducible refine Kd.C_drewN ?_ _)|(with_reducible refine Kd.C_drew ?_)));(case side2 => exact HC0.out);rintro e w75 ⟨rfl, hb⟩;refine ⟨_, rfl, ?_⟩;have n0_ := Aside0.mk (below_step (by repeat (first|(with_reducible first|exact HB.out|apply below_alloc|apply pw_below_drewN|apply below_drew1)|exact HB.out)) hb);clear HB;have HB := n0_;clear n0_;(try clear hb);(try clear hb2);(try clear hk);(try clear hi))|((with_reducible refine gate_dst (N := 7) rfl ?_);(try (refine gate_guard (by rfl) ?_;dsimp only));refine box_event ?hg (N := 7) ?hd (cs := #[.int .i64 0, .int .i64 0, .int .i64 0]) (t := 27) ?hr ?_;(case hd => rfl);(case hg => rfl);(case hr => first|(go_simp;done)|(go_simp;rfl));intro gb8 hg w76 hbox hb;have n0_ := Aside0.mk (below_step (by repeat (first|(with_reducible first|exact HB.out|apply below_alloc|apply pw_below_drewN|apply below_drew1)|exact HB.out)) hb);have n1_ := Aside0.mk (hbox);have n2_ := Aside0.mk ((by rw [hg];exact (below_size (by repeat (first|(with_reducible first|exact HB.out|apply below_alloc|apply pw_below_drewN|apply below_drew1)|exact HB.out))) : w.heap.size ≤ gb8));have n3_ := Aside0.mk ((by rw [hg];exact (below_size (by repeat (first|(with_reducible first|exact HB.out|apply below_alloc|apply pw_below_drewN|apply below_drew1)|exact HB.out))) : w.heap.size ≤ gb8));clear HB;have HB := n0_;have BK8 := n1_;have GW8 := n2_;have GE8 := n3_;clear n0_ n1_ n2_ n3_;clear hb hbox hg;have hcz77_0 : w76.cell? ⟨gb8, 0, none⟩ = some (.int .i64 0) := (blk_cell BK8.out 0).trans rfl;have hcz77_1 : w76.cell? ⟨gb8, 1, none⟩ = some (.int .i64 0) := (blk_cell BK8.out 1).trans rfl;have hcz77_2 : w76.cell? ⟨gb8, 2, none⟩ = some (.int .i64 0) := (blk_cell BK8.out 2).trans rfl;have hfz77_0 := blk_frozen BK8.out 0;have hfz77_1 := blk_frozen BK8.out 1;have hfz77_2 := blk_frozen BK8.out 2)|((with_reducible refine gate_callee (f := 78) rfl ?_);refine goesL_ (some 38) rfl rfl Try.func78 (by kernel_rfl) rfl #[.slice A0 l0.length c0, .string a1] rfl (by (try simp only [List.map_toArray, List.map_cons, List.map_nil]);first|done|rfl|(simp only [List.length_drop, List.length_take];rfl)) ?_;(with_reducible refine (r10_Room.calls kj3 _ _ l0 a1 t9 t10 t11 t12 _ ?side1 ?side2 A15.out).mono ?_);(case side1 => exact Kd.C_below HR0.out (by repeat (first|(with_reducible first|exact HB.out|apply below_alloc|apply pw_below_drewN|apply below_drew1|refine below_set ?_ GE8.out)|exact HB.out)));(case side2 => exact HC0.out);rintro e w78 ⟨rfl, hb⟩;refine ⟨_, rfl, ?_⟩;have n0_ := Aside0.mk (blk_below (g := gb8) (o := .cells #[.int .i64 t4, .int .i64 t5, .int .i64 t6] 27 (0, 0)) (by (with_reducible repeat (first|refine blk_drewN ?_ _|refine blk_drew ?_|refine blk_alloc ?_ _));refine blk_put (cs := #[.int .i64 t4, .int .i64 t5, .int .i64 0]) ?_ 2 _ rfl;(with_reducible repeat (first|refine blk_drewN ?_ _|refine blk_drew ?_|refine blk_alloc ?_ _));refine blk_put (cs := #[.int .i64 t4, .int .i64 0, .int .i64 0]) ?_ 1 _ rfl;(with_reducible repeat (first|refine blk_drewN ?_ _|refine blk_drew ?_|refine blk_alloc ?_ _));refine blk_put (cs := #[.int .i64 0, .int .i64 0, .int .i64 0]) ?_ 0 _ rfl;(with_reducible repeat (first|refine blk_drewN ?_ _|refine blk_drew ?_|refine blk_alloc ?_ _));exact BK8.out) hb);have n1_ := Aside0.mk (below_step (by repeat (first|(with_reducible first|exact HB.out|apply below_alloc|apply pw_below_drewN|apply below_drew1|refine below_set ?_ GE8.out)|exact HB.out)) hb);clear BK8;clear HB;have BK8 := n0_;have HB := n1_;clear n0_ n1_;(try clear hb);(try clear hb2);(try clear hk);(try clear hi))|((with_reducible refine gate_dst (N := 9) rfl ?_);(try (refine gate_guard (by rfl) ?_;dsimp only));refine box_event ?hg (N := 9) ?hd (cs := #[.int .i64 0, .int .i64 0, .int .i64 0]) (t := 27) ?hr ?_;(case hd => rfl);(case hg => rfl);(case hr => first|(go_simp;done)|(go_simp;rfl));intro gb13 hg w79 hbox hb;have n0_ := Aside0.mk (blk_below (g := gb8) (o := .cells #[.int .i64 t4, .int .i64 t5, .int .i64 t6] 27 (0, 0)) (by (with_reducible repeat (first|refine blk_drewN ?_ _|refine blk_drew ?_|refine blk_alloc ?_ _));exact BK8.out) hb);have n1_ := Aside0.mk (below_step (by repeat (first|(with_reducible first|exact HB.out|apply below_alloc|apply pw_below_drewN|apply below_drew1|refine below_set ?_ GE8.out)|exact HB.out)) hb);have n2_ := Aside0.mk (hbox);have n3_ := Aside0.mk ((by rw [hg];exact (below_size (by repeat (first|(with_reducible first|exact HB.out|apply below_alloc|apply pw_below_drewN|apply below_drew1|refine below_set ?_ GE8.out)|exact HB.out))) : w.heap.size ≤ gb13));have n4_ := Aside0.mk ((by rw [hg];exact (below_size (by repeat (first|(with_reducible first|exact HB.out|apply below_alloc|apply pw_below_drewN|apply below_drew1|refine below_set ?_ GE8.out)|exact HB.out))) : w.heap.size ≤ gb13));have n5_ := Aside0.mk ((by rw [hg];exact Nat.ne_of_lt (blk_lt (g := gb8) (o := .cells #[.int .i64 t4, .int .i64 t5, .int .i64 t6] 27 (0, 0)) (by (with_reducible repeat (first|refine blk_drewN ?_ _|refine blk_drew ?_|refine blk_alloc ?_ _));exact BK8.out)) : gb8 ≠ gb13));have n6_ := Aside0.mk ((by rw [hg];exact Nat.ne_of_gt (blk_lt (g := gb8) (o := .cells #[.int .i64 t4, .int .i64 t5, .int .i64 t6] 27 (0, 0)) (by (with_reducible repeat (first|refine blk_drewN ?_ _|refine blk_drew ?_|refine blk_alloc ?_ _));exact BK8.out)) : gb13 ≠ gb8));clear BK8;clear HB;have BK8 := n0_;have HB := n1_;have BK13 := n2_;have GW13 := n3_;have GE13 := n4_;have NB8_13 := n5_;have NB13_8 := n6_;clear n0_ n1_ n2_ n3_ n4_ n5_ n6_;clear hb hbox hg;have hnb80 := NB13_8.out;have hnc80 := NB8_13.out;have hcz81_0 : w79.cell? ⟨gb13, 0, none⟩ = some (.int .i64 0) := (blk_cell BK13.out 0).trans rfl;have hcz81_1 : w79.cell? ⟨gb13, 1, none⟩ = some (.int .i64 0) := (blk_cell BK13.out 1).trans rfl;have hcz81_2 : w79.cell? ⟨gb13, 2, none⟩ = some (.int .i64 0) := (blk_cell BK13.out 2).trans rfl;have hfz81_0 := blk_frozen BK13.out 0;have hfz81_1 := blk_frozen BK13.out 1;have hfz81_2 := blk_frozen BK13.out 2;have hcz82_0 : w79.cell? ⟨gb8, 0, none⟩ = some (.int .i64 t4) := (blk_cell BK8.out 0).trans rfl;have hcz82_1 : w79.cell? ⟨gb8, 1, none⟩ = some (.int .i64 t5) := (blk_cell BK8.out 1).trans rfl;have hcz82_2 : w79.cell? ⟨gb8, 2, none⟩ = some (.int .i64 t6) := (blk_cell BK8.out 2).trans rfl;have hfz82_0 := blk_frozen BK8.out 0;have hfz82_1 := blk_frozen BK8.out 1;have hfz82_2 := blk_frozen BK8.out 2))
     go_ret
     exact ⟨by first|rfl|(simp [errW_none, errW_some] <;> rfl)|(simp [*, errW_none, errW_some] <;> rfl), by repeat (first|(with_reducible first|exact HB.out|apply below_alloc|apply pw_below_drewN|apply below_drew1|refine below_set ?_ GE8.out|refine below_set ?_ GE13.out)|exact HB.out)⟩
end Go.Proofs.Ytcgefpklljclgaa.Print

namespace Go.Proofs.Ytcgefpklljclgaa.Print
open Go.RowKit Go.Proofs.YtcgefpklljclgaaW.PrintWords Go.Proofs.YtcgefpklljclgaaW.PrintLast
set_option linter.unusedVariables false
set_option linter.unusedSimpArgs false
abbrev Item := S31
abbrev Vec := S27
abbrev zItem : Item := z31
theorem rd_item (l : List Item) (i : Int) : rd_T31 l i = l.getD i.toNat zItem := rfl
instance baLawful : LawfulBEq ByteArray where
  eq_of_beq {a b} h := by
    obtain ⟨a⟩ := a
    obtain ⟨b⟩ := b
    have : (a == b) = true := h
    rw [eq_of_beq this]
  rfl {a} := by
    obtain ⟨a⟩ := a
    show (a == a) = true
    exact beq_self_eq_true a
/-- a name is its bytes -/
theorem nm_inj {a b : ByteArray} : a.toList = b.toList ↔ a = b := by
  constructor
  · intro h
    rw [ByteArray.toList_eq, ByteArray.toList_eq] at h
    exact ByteArray.ext (Array.toList_inj.1 h)
  · rintro rfl; rfl
theorem nm_beq (a b : ByteArray) : (a.toList == b.toList) = decide (a = b) := by
  rw [Bool.eq_iff_iff, beq_iff_eq, nm_inj, decide_eq_true_iff]
theorem nm_empty {a : ByteArray} : a.toList = ([] : List UInt8) ↔ a = ⟨#[]⟩ := by
  rw [← nm_inj]; rw [show (ByteArray.mk #[]).toList = [] from by rw [ByteArray.toList_eq]]
theorem w64 {n : Int} (h0 : -9223372036854775808 ≤ n) (h1 : n ≤ 9223372036854775807) : wrap64 n = n := by unfold wrap64; omega
/-! the place of a name -/
def look (l : List Item) (n : ByteArray) : Option Item := l.find? (fun x => x.f0 = n)
def fnd (l : List Item) (n : ByteArray) : Int := fidx (fun x : Item => x.f0.toList == n.toList) l 0
theorem fidx_none {α : Type} {p : α → Bool} : ∀ {l : List α} {i : Int}, (∀ x ∈ l, p x = false) → fidx p l i = -1
  | [], _, _ => rfl
  | x :: l, i, h => by
    unfold fidx
    rw [if_neg (by rw [h x (by simp)]; simp)]
    exact fidx_none (fun y hy => h y (by simp [hy]))
theorem fidx_some {α : Type} {p : α → Bool} (z : α) : ∀ {l : List α} {i : Int} {x : α}, l.find? p = some x → ∃ j : Nat, j < l.length ∧ fidx p l i = i + j ∧ l.getD j z = x ∧ p x = true ∧ ∀ m, m < j → p (l.getD m z) = false
  | [], _, _, h => by simp at h
  | y :: l, i, x, h => by
    unfold fidx
    by_cases hy : p y = true
    · rw [if_pos hy]
      simp only [List.find?_cons, hy] at h
      obtain rfl := Option.some.inj h
      exact ⟨0, by simp, by simp, by simp, hy, fun m hm => by omega⟩
    · rw [if_neg hy]
      have hy' : p y = false := by simpa using hy
      simp only [List.find?_cons, hy'] at h
      obtain ⟨j, hj, h1, h2, h3, h4⟩ := fidx_some z (i := i + 1) h
      refine ⟨j + 1, by simp; omega, by rw [h1]; omega, by simpa using h2, h3, fun m hm => ?_⟩
      cases m with
      | zero => simpa using hy'
      | succ m => simpa using h4 m (by omega)
theorem look_pred (n : ByteArray) : (fun x : Item => x.f0.toList == n.toList) = (fun x : Item => decide (x.f0 = n)) := by
  funext x; exact nm_beq _ _
theorem look_mem {l : List Item} {n : ByteArray} {x : Item} (h : look l n = some x) : x ∈ l ∧ x.f0 = n := by
  unfold look at h
  exact ⟨List.mem_of_find?_eq_some h, by simpa using List.find?_some h⟩
theorem look_none {l : List Item} {n : ByteArray} : look l n = none ↔ ∀ x ∈ l, x.f0 ≠ n := by
  unfold look
  simp
theorem fnd_none {l : List Item} {n : ByteArray} (h : look l n = none) : fnd l n = -1 := by
  unfold fnd
  refine fidx_none fun x hx => ?_
  rw [nm_beq]
  simpa using look_none.1 h x hx
theorem fnd_some {l : List Item} {n : ByteArray} {x : Item} (h : look l n = some x) : ∃ j : Nat, j < l.length ∧ fnd l n = j ∧ l.getD j zItem = x ∧ x.f0 = n ∧ ∀ m, m < j → (l.getD m zItem).f0 ≠ n := by
  have h' : l.find? (fun x : Item => x.f0.toList == n.toList) = some x := by rw [look_pred]; exact h
  obtain ⟨j, h1, h2, h3, h4, h5⟩ := fidx_some zItem (i := 0) h'
  refine ⟨j, h1, by unfold fnd; rw [h2]; omega, h3, by simpa [nm_beq] using h4, fun m hm => ?_⟩
  simpa [nm_beq] using h5 m hm
theorem fnd_lt (l : List Item) (n : ByteArray) : fnd l n < l.length := by
  cases h : look l n with
  | none => rw [fnd_none h]; omega
  | some x => obtain ⟨j, h1, h2, _⟩ := fnd_some h; omega
theorem fnd_neg {l : List Item} {n : ByteArray} : fnd l n < 0 ↔ look l n = none := by
  cases h : look l n with
  | none => rw [fnd_none h]; simp
  | some x => obtain ⟨j, h1, h2, _⟩ := fnd_some h; simp; omega
theorem fnd_ge {l : List Item} {n : ByteArray} : 0 ≤ fnd l n ↔ ∃ x, look l n = some x := by
  cases h : look l n with
  | none => rw [fnd_none h]; simp
  | some x => obtain ⟨j, h1, h2, _⟩ := fnd_some h; simp; omega
theorem fnd_rd {l : List Item} {n : ByteArray} {x : Item} (h : look l n = some x) : rd_T31 l (fnd l n) = x := by
  obtain ⟨j, h1, h2, h3, _⟩ := fnd_some h
  rw [rd_item, h2, Int.toNat_natCast]; exact h3
theorem tree_Find_eq (l : List Item) (n : ByteArray) : tree_Find.f l n = some (fnd l n) := rfl
/-! the way up -/
inductive Chain (l : List Item) : ByteArray → List ByteArray → Prop where
  | nil {n : ByteArray} : look l n = none → Chain l n []
  | cons {n : ByteArray} {x : Item} {us : List ByteArray} : look l n = some x → Chain l x.f1 us → Chain l n (n :: us)
def upGo (l : List Item) : Nat → ByteArray → List ByteArray
  | 0, _ => []
  | m + 1, n => match look l n with
    | none => []
    | some x => n :: upGo l m x.f1
def up (l : List Item) (n : ByteArray) : List ByteArray := upGo l (l.length + 1) n
theorem upGo_len (l : List Item) : ∀ (m : Nat) (n : ByteArray), (upGo l m n).length ≤ m
  | 0, _ => by simp [upGo]
  | m + 1, n => by
    unfold upGo
    cases look l n with
    | none => simp
    | some x => have := upGo_len l m x.f1; simp; omega
theorem up_len (l : List Item) (n : ByteArray) : (up l n).length ≤ l.length + 1 := upGo_len l _ n
theorem upGo_none {l : List Item} {n : ByteArray} (h : look l n = none) (m : Nat) : upGo l m n = [] := by
  cases m with
  | zero => rfl
  | succ m => unfold upGo; rw [h]
theorem upGo_some {l : List Item} {n : ByteArray} {x : Item} (h : look l n = some x) (m : Nat) : upGo l (m + 1) n = n :: upGo l m x.f1 := by
  rw [upGo.eq_2, h]
theorem Chain.det {l : List Item} {n : ByteArray} {us : List ByteArray} (h : Chain l n us) : ∀ {vs : List ByteArray}, Chain l n vs → us = vs := by
  induction h with
  | nil h =>
    intro vs k
    cases k with
    | nil _ => rfl
    | cons k _ => rw [h] at k; cases k
  | cons h _ ih =>
    intro vs k
    cases k with
    | nil k => rw [h] at k; cases k
    | cons k k2 =>
      rw [h] at k
      cases k
      rw [ih k2]
theorem Chain.upGo {l : List Item} {n : ByteArray} {us : List ByteArray} (h : Chain l n us) : ∀ m, us.length ≤ m → upGo l m n = us := by
  induction h with
  | nil h => intro m _; exact upGo_none h m
  | cons h _ ih =>
    intro m hm
    cases m with
    | zero => simp at hm
    | succ m =>
      rw [upGo_some h, ih m (by simpa using hm)]
theorem upGo_chain (l : List Item) : ∀ (m : Nat) (n : ByteArray), (upGo l m n).length < m → Chain l n (upGo l m n)
  | 0, _, h => by simp [upGo] at h
  | m + 1, n, h => by
    cases hl : look l n with
    | none => rw [upGo_none hl]; exact .nil hl
    | some x =>
      rw [upGo_some hl] at h ⊢
      exact .cons hl (upGo_chain l m x.f1 (by simpa using h))
theorem up_chain {l : List Item} {n : ByteArray} (h : (up l n).length ≤ l.length) : Chain l n (up l n) := upGo_chain l _ n (by unfold up at h; omega)
theorem Chain.suffix {l : List Item} {n : ByteArray} {us : List ByteArray} (h : Chain l n us) : ∀ {m : ByteArray}, m ∈ us → ∃ vs ws, us = ws ++ vs ∧ Chain l m vs ∧ ∃ vt, vs = m :: vt := by
  induction h with
  | nil _ => intro m hm; cases hm
  | @cons n x us h k ih =>
    intro m hm
    rcases List.mem_cons.1 hm with rfl | hm
    · exact ⟨_, [], rfl, .cons h k, _, rfl⟩
    · obtain ⟨vs, ws, e, hc, he⟩ := ih hm
      exact ⟨vs, n :: ws, by rw [e]; rfl, hc, he⟩
theorem Chain.mem_look {l : List Item} {n : ByteArray} {us : List ByteArray} (h : Chain l n us) {m : ByteArray} (hm : m ∈ us) : ∃ x, look l m = some x := by
  obtain ⟨vs, ws, _, hc, vt, rfl⟩ := h.suffix hm
  cases hc with
  | cons h _ => exact ⟨_, h⟩
theorem Chain.nodup {l : List Item} {n : ByteArray} {us : List ByteArray} (h : Chain l n us) : us.Nodup := by
  induction h with
  | nil _ => simp
  | @cons n x us h k ih =>
    rw [List.nodup_cons]
    refine ⟨fun hm => ?_, ih⟩
    obtain ⟨vs, ws, e, hc, _⟩ := k.suffix hm
    have := hc.det (.cons h k)
    rw [this] at e
    have := congrArg List.length e
    simp at this
    omega
theorem Chain.len {l : List Item} {n : ByteArray} {us : List ByteArray} (h : Chain l n us) : us.length ≤ l.length := by
  have := h.nodup.length_le_of_subset (l₂ := l.map (·.f0)) (fun m hm => by
    obtain ⟨x, hx⟩ := h.mem_look hm
    obtain ⟨h1, rfl⟩ := look_mem hx
    exact List.mem_map_of_mem h1)
  simpa using this
theorem Chain.up {l : List Item} {n : ByteArray} {us : List ByteArray} (h : Chain l n us) : up l n = us := h.upGo _ (by have := h.len; omega)
theorem up_len_iff {l : List Item} {n : ByteArray} : (up l n).length ≤ l.length ↔ ∃ us, Chain l n us :=
  ⟨fun h => ⟨_, up_chain h⟩, fun ⟨us, h⟩ => by rw [h.up]; exact h.len⟩
end Go.Proofs.Ytcgefpklljclgaa.Print

namespace Go.Proofs.Ytcgefpklljclgaa.Print
open Go.RowKit Go.Proofs.YtcgefpklljclgaaW.PrintWords Go.Proofs.YtcgefpklljclgaaW.PrintLast
open Go.ChangeShapes Go.WideShapes Go.Deep
set_option linter.unusedVariables false
set_option linter.unusedSimpArgs false
section
variable {H : Type} {enc : TypeId × Value → H} {w : World} {base : Nat} {spare : Nat → Bool} {held : Bool}
theorem cells_i : Try.prog.cellsOf 3 = 1 := by kernel_rfl
theorem cells_s : Try.prog.cellsOf 9 = 1 := by kernel_rfl
theorem cells_v : Try.prog.cellsOf 27 = 3 := by kernel_rfl
theorem cells_it : Try.prog.cellsOf 31 = 12 := by kernel_rfl
theorem open_i {fuel : Nat} {c : Value} {x : DataW H × List MemPlace} (h : DataW.trod enc Try.prog w base spare held fuel 3 [c] = some x) : ∃ n : Int, c = .int .i64 n := by
  obtain ⟨n, e, _, _⟩ := DataW.trod_int Try.underlying3 h
  exact ⟨n, (List.cons.inj e).1⟩
theorem open_s {fuel : Nat} {c : Value} {x : DataW H × List MemPlace} (h : DataW.trod enc Try.prog w base spare held fuel 9 [c] = some x) : ∃ s : ByteArray, c = .string s := by
  obtain ⟨n, e, _, _⟩ := DataW.trod_string Try.underlying9 h
  exact ⟨n, (List.cons.inj e).1⟩
/-- an amount's cells -/
theorem open_vec {fuel : Nat} {cs : List Value} {x : DataW H × List MemPlace} (h : DataW.trod enc Try.prog w base spare held fuel 27 cs = some x) : ∃ v : Vec, cs = [.int .i64 v.f0, .int .i64 v.f1, .int .i64 v.f2] := by
  obtain ⟨xs, n, _, hx, hl, hlen, hf⟩ := DataW.trod_struct Try.underlying27 h
  replace hl : cs.length = 3 := hl.trans cells_v
  replace hlen : xs.length = 3 := hlen
  clear h hx
  obtain ⟨c0, c1, c2, rfl⟩ : ∃ c0 c1 c2, cs = [c0, c1, c2] := by
    clear hf
    match cs, hl with
    | [c0, c1, c2], _ => exact ⟨_, _, _, rfl⟩
  obtain ⟨y0, y1, y2, rfl⟩ : ∃ y0 y1 y2, xs = [y0, y1, y2] := by
    clear hf
    match xs, hlen with
    | [y0, y1, y2], _ => exact ⟨_, _, _, rfl⟩
  have g0 : DataW.trod enc Try.prog w base spare held n 3 (List.take (Try.prog.cellsOf 3) (List.drop 0 [c0, c1, c2])) = some y0 := hf 0 _ rfl
  have g1 : DataW.trod enc Try.prog w base spare held n 3 (List.take (Try.prog.cellsOf 3) (List.drop 1 [c0, c1, c2])) = some y1 := hf 1 _ rfl
  have g2 : DataW.trod enc Try.prog w base spare held n 3 (List.take (Try.prog.cellsOf 3) (List.drop 2 [c0, c1, c2])) = some y2 := hf 2 _ rfl
  rw [cells_i] at g0 g1 g2
  obtain ⟨n0, rfl⟩ := open_i (c := c0) g0
  obtain ⟨n1, rfl⟩ := open_i (c := c1) g1
  obtain ⟨n2, rfl⟩ := open_i (c := c2) g2
  exact ⟨⟨n0, n1, n2⟩, rfl⟩
/-- an item's cells -/
theorem open_item {fuel : Nat} {cs : List Value} {x : DataW H × List MemPlace} (h : DataW.trod enc Try.prog w base spare held fuel 31 cs = some x) : ∃ it : Item, cs = [.string it.f0, .string it.f1, .int .i64 it.f2.f0, .int .i64 it.f2.f1, .int .i64 it.f2.f2, .int .i64 it.f3.f0, .int .i64 it.f3.f1, .int .i64 it.f3.f2, .int .i64 it.f4.f0, .int .i64 it.f4.f1, .int .i64 it.f4.f2, .int .i64 it.f5] := by
  obtain ⟨xs, n, _, hx, hl, hlen, hf⟩ := DataW.trod_struct Try.underlying31 h
  replace hl : cs.length = 12 := hl.trans cells_it
  replace hlen : xs.length = 6 := hlen
  clear h hx
  obtain ⟨c0, c1, c2, c3, c4, c5, c6, c7, c8, c9, c10, c11, rfl⟩ : ∃ c0 c1 c2 c3 c4 c5 c6 c7 c8 c9 c10 c11, cs = [c0, c1, c2, c3, c4, c5, c6, c7, c8, c9, c10, c11] := by
    clear hf
    match cs, hl with
    | [c0, c1, c2, c3, c4, c5, c6, c7, c8, c9, c10, c11], _ => exact ⟨_, _, _, _, _, _, _, _, _, _, _, _, rfl⟩
  obtain ⟨y0, y1, y2, y3, y4, y5, rfl⟩ : ∃ y0 y1 y2 y3 y4 y5, xs = [y0, y1, y2, y3, y4, y5] := by
    clear hf
    match xs, hlen with
    | [y0, y1, y2, y3, y4, y5], _ => exact ⟨_, _, _, _, _, _, rfl⟩
  have g0 : DataW.trod enc Try.prog w base spare held n 9 (List.take (Try.prog.cellsOf 9) (List.drop 0 [c0, c1, c2, c3, c4, c5, c6, c7, c8, c9, c10, c11])) = some y0 := hf 0 _ rfl
  have g1 : DataW.trod enc Try.prog w base spare held n 9 (List.take (Try.prog.cellsOf 9) (List.drop 1 [c0, c1, c2, c3, c4, c5, c6, c7, c8, c9, c10, c11])) = some y1 := hf 1 _ rfl
  have g2 : DataW.trod enc Try.prog w base spare held n 27 (List.take (Try.prog.cellsOf 27) (List.drop 2 [c0, c1, c2, c3, c4, c5, c6, c7, c8, c9, c10, c11])) = some y2 := hf 2 _ rfl
  have g3 : DataW.trod enc Try.prog w base spare held n 27 (List.take (Try.prog.cellsOf 27) (List.drop 5 [c0, c1, c2, c3, c4, c5, c6, c7, c8, c9, c10, c11])) = some y3 := hf 3 _ rfl
  have g4 : DataW.trod enc Try.prog w base spare held n 27 (List.take (Try.prog.cellsOf 27) (List.drop 8 [c0, c1, c2, c3, c4, c5, c6, c7, c8, c9, c10, c11])) = some y4 := hf 4 _ rfl
  have g5 : DataW.trod enc Try.prog w base spare held n 3 (List.take (Try.prog.cellsOf 3) (List.drop 11 [c0, c1, c2, c3, c4, c5, c6, c7, c8, c9, c10, c11])) = some y5 := hf 5 _ rfl
  rw [cells_s] at g0 g1
  rw [cells_v] at g2 g3 g4
  rw [cells_i] at g5
  obtain ⟨n0, rfl⟩ := open_s (c := c0) g0
  obtain ⟨n1, rfl⟩ := open_s (c := c1) g1
  obtain ⟨v2, e2⟩ := open_vec (cs := [c2, c3, c4]) g2
  obtain ⟨v3, e3⟩ := open_vec (cs := [c5, c6, c7]) g3
  obtain ⟨v4, e4⟩ := open_vec (cs := [c8, c9, c10]) g4
  obtain ⟨n5, rfl⟩ := open_i (c := c11) g5
  simp only [List.cons.injEq, and_true] at e2 e3 e4
  obtain ⟨rfl, rfl, rfl⟩ := e2
  obtain ⟨rfl, rfl, rfl⟩ := e3
  obtain ⟨rfl, rfl, rfl⟩ := e4
  exact ⟨⟨n0, n1, v2, v3, v4, n5⟩, rfl⟩
/-- a row of items -/
theorem open_items {t : TypeId} (ht : Try.prog.underlying t = some (.slice 31)) {v : Value} {d : DataW H} {p : List MemPlace} {A : Option Addr} {len cap : Nat} (hv : v = .slice A len cap) (h : DataW.Trod enc Try.prog w base spare held t v d p) :
    ∃ zs : List Item, len = zs.length ∧ len ≤ cap ∧ Kd.C k31 w A zs.length zs := by
  subst hv
  obtain ⟨fuel, hf⟩ := h
  rcases open_slice ht hf with ⟨e, _⟩ | ⟨a, len', cap', m, n, D, Pl, e, _, hl, hm, hmm, _, hi⟩
  · simp only [Value.cells, List.cons.injEq, Value.slice.injEq, and_true] at e
    obtain ⟨rfl, rfl, rfl⟩ := e
    exact ⟨[], rfl, Nat.le_refl _, Kd.C_nil _ _⟩
  · simp only [Value.cells, List.cons.injEq, Value.slice.injEq, and_true] at e
    obtain ⟨rfl, rfl, rfl⟩ := e
    have hlm : len ≤ m := by rw [hmm]; split <;> omega
    have key : ∀ i, i < len → ∃ it : Item, ∀ j u, [Value.string it.f0, .string it.f1, .int .i64 it.f2.f0, .int .i64 it.f2.f1, .int .i64 it.f2.f2, .int .i64 it.f3.f0, .int .i64 it.f3.f1, .int .i64 it.f3.f2, .int .i64 it.f4.f0, .int .i64 it.f4.f1, .int .i64 it.f4.f2, .int .i64 it.f5][j]? = some u → w.cell? (a.add (i * 12 + j)) = some u := by
      intro i hil
      obtain ⟨cs', h1, h2⟩ := hi i (by omega)
      rw [cells_it] at h1
      obtain ⟨_, hcl, hat⟩ := World.cells?_some h1
      obtain ⟨it, rfl⟩ := open_item h2
      refine ⟨it, fun j u hj => ?_⟩
      have hj12 : j < 12 := by
        have := (List.getElem?_eq_some_iff.1 hj).1
        simpa using this
      have := hat j hj12
      rw [Go.Deep.add_add, hj] at this
      exact this
    have hg : ∃ g : Nat → Item, ∀ i, i < len → ∀ j u, [Value.string (g i).f0, .string (g i).f1, .int .i64 (g i).f2.f0, .int .i64 (g i).f2.f1, .int .i64 (g i).f2.f2, .int .i64 (g i).f3.f0, .int .i64 (g i).f3.f1, .int .i64 (g i).f3.f2, .int .i64 (g i).f4.f0, .int .i64 (g i).f4.f1, .int .i64 (g i).f4.f2, .int .i64 (g i).f5][j]? = some u → w.cell? (a.add (i * 12 + j)) = some u := by
      refine ⟨fun i => if q : i < len then Classical.choose (key i q) else zItem, fun i q => ?_⟩
      have := Classical.choose_spec (key i q)
      simp only [q, dif_pos]
      exact this
    obtain ⟨g, hg⟩ := hg
    refine ⟨(List.range len).map g, by simp, hl, ?_⟩
    have hml : maxLen = 9223372036854775807 := rfl
    refine ⟨rfl, by simp; omega, fun _ => ⟨a, rfl, fun j p hj => ?_⟩⟩
    rw [List.getElem?_map] at hj
    obtain ⟨i, hi1, rfl⟩ := Option.map_eq_some_iff.1 hj
    obtain ⟨hjl, e⟩ := List.getElem?_eq_some_iff.1 hi1
    rw [List.getElem_range] at e
    subst e
    rw [List.length_range] at hjl
    exact ⟨_, rfl, k31_mk w (g j), fun i u hu => hg j hjl i u hu⟩
/-- a row of texts -/
theorem open_strs {t : TypeId} (ht : Try.prog.underlying t = some (.slice 9)) {v : Value} {d : DataW H} {p : List MemPlace} {A : Option Addr} {len cap : Nat} (hv : v = .slice A len cap) (h : DataW.Trod enc Try.prog w base spare held t v d p) :
    ∃ zs : List ByteArray, len = zs.length ∧ len ≤ cap ∧ Kd.C Kd.string w A zs.length zs := by
  subst hv
  obtain ⟨fuel, hf⟩ := h
  rcases open_slice ht hf with ⟨e, _⟩ | ⟨a, len', cap', m, n, D, Pl, e, _, hl, hm, hmm, _, hi⟩
  · simp only [Value.cells, List.cons.injEq, Value.slice.injEq, and_true] at e
    obtain ⟨rfl, rfl, rfl⟩ := e
    exact ⟨[], rfl, Nat.le_refl _, Kd.C_nil _ _⟩
  · simp only [Value.cells, List.cons.injEq, Value.slice.injEq, and_true] at e
    obtain ⟨rfl, rfl, rfl⟩ := e
    have hlm : len ≤ m := by rw [hmm]; split <;> omega
    have key : ∀ i, i < len → ∃ s : ByteArray, w.cell? (a.add (i * 1)) = some (.string s) := by
      intro i hil
      obtain ⟨cs', h1, h2⟩ := hi i (by omega)
      rw [cells_s] at h1
      obtain ⟨_, hcl, hat⟩ := World.cells?_some h1
      obtain ⟨s, e, _, _⟩ := DataW.trod_string Try.underlying9 h2
      subst e
      have := hat 0 (by omega)
      refine ⟨s, ?_⟩
      rw [Go.Deep.add_add] at this
      exact this
    have hg : ∃ g : Nat → ByteArray, ∀ i, i < len → w.cell? (a.add (i * 1)) = some (.string (g i)) := by
      refine ⟨fun i => if q : i < len then Classical.choose (key i q) else ByteArray.empty, fun i q => ?_⟩
      have := Classical.choose_spec (key i q)
      simp only [q, dif_pos]
      exact this
    obtain ⟨g, hg⟩ := hg
    have hml : maxLen = 9223372036854775807 := rfl
    refine ⟨(List.range len).map g, by simp, hl, ?_⟩
    refine ⟨rfl, by simp; omega, fun _ => ⟨a, rfl, fun j p hj => ?_⟩⟩
    rw [List.getElem?_map] at hj
    obtain ⟨i, hi1, rfl⟩ := Option.map_eq_some_iff.1 hj
    obtain ⟨hjl, e⟩ := List.getElem?_eq_some_iff.1 hi1
    rw [List.getElem_range] at e
    subst e
    rw [List.length_range] at hjl
    refine ⟨[.string (g j)], rfl, rfl, fun i u hu => ?_⟩
    match i, hu with
    | 0, hu =>
      obtain rfl := Option.some.inj hu
      exact hg j hjl
    | i + 1, hu => simp at hu
end
end Go.Proofs.Ytcgefpklljclgaa.Print

namespace Go.Proofs.Ytcgefpklljclgaa.Print
open Go.RowKit Go.Proofs.YtcgefpklljclgaaW.PrintWords Go.Proofs.YtcgefpklljclgaaW.PrintLast
set_option linter.unusedVariables false
set_option linter.unusedSimpArgs false
/-! names in order -/
def lt (a b : ByteArray) : Bool := Op.bytesLess a.toList b.toList
theorem bl_irrefl : ∀ a : List UInt8, Op.bytesLess a a = false
  | [] => rfl
  | x :: a => by unfold Op.bytesLess; simp [bl_irrefl a]
theorem bl_trans : ∀ {a b c : List UInt8}, Op.bytesLess a b = true → Op.bytesLess b c = true → Op.bytesLess a c = true
  | [], [], _, h, _ => by simp [Op.bytesLess] at h
  | [], _ :: _, [], _, k => by simp [Op.bytesLess] at k
  | [], _ :: _, _ :: _, _, _ => by simp [Op.bytesLess]
  | _ :: _, [], _, h, _ => by simp [Op.bytesLess] at h
  | _ :: _, _ :: _, [], _, k => by simp [Op.bytesLess] at k
  | x :: a, y :: b, z :: c, h, k => by
    simp only [Op.bytesLess, Bool.or_eq_true, Bool.and_eq_true, decide_eq_true_eq, beq_iff_eq] at h k ⊢
    rcases h with h | ⟨rfl, h⟩
    · rcases k with k | ⟨rfl, k⟩
      · exact .inl (UInt8.lt_trans h k)
      · exact .inl h
    · rcases k with k | ⟨rfl, k⟩
      · exact .inl k
      · exact .inr ⟨rfl, bl_trans h k⟩
theorem lt_irrefl (a : ByteArray) : lt a a = false := bl_irrefl _
theorem lt_trans {a b c : ByteArray} (h : lt a b = true) (k : lt b c = true) : lt a c = true := bl_trans h k
theorem lt_ne {a b : ByteArray} (h : lt a b = true) : a ≠ b := by rintro rfl; rw [lt_irrefl] at h; cases h
/-! amounts -/
inductive Comp where | cpu | mem | pods
def Comp.of : Comp → Vec → Int | .cpu, v => v.f0 | .mem, v => v.f1 | .pods, v => v.f2
theorem vec_ext {a b : Vec} (h : ∀ c : Comp, c.of a = c.of b) : a = b := by
  cases a; cases b
  have h0 := h .cpu; have h1 := h .mem; have h2 := h .pods
  simp [Comp.of] at h0 h1 h2
  simp [h0, h1, h2]
def vadd (a b : Vec) : Vec := ⟨a.f0 + b.f0, a.f1 + b.f1, a.f2 + b.f2⟩
def vsub (a b : Vec) : Vec := ⟨a.f0 - b.f0, a.f1 - b.f1, a.f2 - b.f2⟩
theorem of_vadd (c : Comp) (a b : Vec) : c.of (vadd a b) = c.of a + c.of b := by cases c <;> rfl
theorem of_vsub (c : Comp) (a b : Vec) : c.of (vsub a b) = c.of a - c.of b := by cases c <;> rfl
def MayP (v : Vec) : Prop := ∀ c : Comp, 0 ≤ c.of v ∧ c.of v ≤ 1099511627776
def LeP (a b : Vec) : Prop := ∀ c : Comp, c.of a ≤ c.of b
theorem comp_all {p : Comp → Prop} : (∀ c, p c) ↔ p .cpu ∧ p .mem ∧ p .pods :=
  ⟨fun h => ⟨h _, h _, h _⟩, fun ⟨a, b, d⟩ c => by cases c <;> assumption⟩
instance (v : Vec) : Decidable (MayP v) := decidable_of_iff _ comp_all.symm
instance (a b : Vec) : Decidable (LeP a b) := decidable_of_iff _ comp_all.symm
theorem mayP_iff {a b d : Int} : MayP ⟨a, b, d⟩ ↔ (0 ≤ a ∧ a ≤ 1099511627776) ∧ (0 ≤ b ∧ b ≤ 1099511627776) ∧ (0 ≤ d ∧ d ≤ 1099511627776) := comp_all
theorem leP_iff {a b d a' b' d' : Int} : LeP ⟨a, b, d⟩ ⟨a', b', d'⟩ ↔ a ≤ a' ∧ b ≤ b' ∧ d ≤ d' := comp_all
/-! sums over a tree -/
def sumBy (g : Item → Int) (l : List Item) : Int := (l.map g).sum
theorem sumBy_nil (g : Item → Int) : sumBy g [] = 0 := rfl
theorem sumBy_cons (g : Item → Int) (x : Item) (l : List Item) : sumBy g (x :: l) = g x + sumBy g l := by simp [sumBy]
theorem sumBy_append (g : Item → Int) (l m : List Item) : sumBy g (l ++ m) = sumBy g l + sumBy g m := by simp [sumBy]
theorem sumBy_nonneg {g : Item → Int} : ∀ {l : List Item}, (∀ x ∈ l, 0 ≤ g x) → 0 ≤ sumBy g l
  | [], _ => by simp [sumBy_nil]
  | x :: l, e => by rw [sumBy_cons]; have := e x (by simp); have := sumBy_nonneg (l := l) (fun y hy => e y (by simp [hy])); omega
theorem sumBy_le {g : Item → Int} {B : Int} : ∀ {l : List Item}, (∀ x ∈ l, g x ≤ B) → sumBy g l ≤ B * l.length
  | [], _ => by simp [sumBy_nil]
  | x :: l, e => by
    rw [sumBy_cons]; have := e x (by simp); have := sumBy_le (l := l) (fun y hy => e y (by simp [hy]))
    simp only [List.length_cons, Int.natCast_succ, Int.mul_add, Int.mul_one]; omega
/-- what the children have -/
def csum (c : Comp) (l : List Item) (n : ByteArray) : Int := sumBy (fun y => if y.f1 = n then c.of y.f4 else 0) l
/-! right trees -/
structure ItemOK (x : Item) : Prop where
  name : x.f0 ≠ ⟨#[]⟩
  size : x.f0.size ≤ 24
  lim : MayP x.f2
  own : MayP x.f3
  sub : MayP x.f4
  fit : LeP x.f4 x.f2
  ver : 1 ≤ x.f5 ∧ x.f5 ≤ 9007199254740992
structure RightP (l : List Item) : Prop where
  len : l.length ≤ 120
  ok : ∀ x ∈ l, ItemOK x
  sorted : l.Pairwise (fun x y => lt x.f0 y.f0 = true)
  par : ∀ x ∈ l, x.f1 = ⟨#[]⟩ ∨ ∃ y, look l x.f1 = some y
  sum : ∀ c : Comp, ∀ x ∈ l, c.of x.f4 = c.of x.f3 + csum c l x.f0
  chain : ∀ x ∈ l, ∃ us, Chain l x.f0 us
theorem sorted_nodup {l : List Item} (h : l.Pairwise (fun x y => lt x.f0 y.f0 = true)) : (l.map (·.f0)).Nodup := by
  rw [List.Nodup, List.pairwise_map]
  exact h.imp (fun hxy => lt_ne hxy)
theorem RightP.nodup {l : List Item} (h : RightP l) : (l.map (·.f0)).Nodup := sorted_nodup h.sorted
theorem look_of_mem {l : List Item} (hn : (l.map (·.f0)).Nodup) {x : Item} (hx : x ∈ l) : look l x.f0 = some x := by
  induction l with
  | nil => cases hx
  | cons y l ih =>
    rw [List.map_cons, List.nodup_cons] at hn
    unfold look
    rw [List.find?_cons]
    rcases List.mem_cons.1 hx with rfl | hx
    · simp
    · have : y.f0 ≠ x.f0 := fun e => hn.1 (by rw [e]; exact List.mem_map_of_mem hx)
      simp only [this, decide_false]
      exact ih hn.2 hx
theorem RightP.look {l : List Item} (h : RightP l) {x : Item} (hx : x ∈ l) : look l x.f0 = some x := look_of_mem h.nodup hx
end Go.Proofs.Ytcgefpklljclgaa.Print

namespace Go.Proofs.Ytcgefpklljclgaa.Print
open Go.RowKit Go.Proofs.YtcgefpklljclgaaW.PrintWords Go.Proofs.YtcgefpklljclgaaW.PrintLast
set_option linter.unusedVariables false
set_option linter.unusedSimpArgs false
/-! a tree whose items change, but neither their names nor parents -/
theorem look_map {f : Item → Item} (hf : ∀ x, (f x).f0 = x.f0) (l : List Item) (n : ByteArray) : look (l.map f) n = (look l n).map f := by
  unfold look
  rw [List.find?_map]
  congr 2
  funext x
  simp [hf]
theorem Chain.map {f : Item → Item} (hf : ∀ x, (f x).f0 = x.f0) (hp : ∀ x, (f x).f1 = x.f1) {l : List Item} {n : ByteArray} {us : List ByteArray} (h : Chain l n us) : Chain (l.map f) n us := by
  induction h with
  | nil h => exact .nil (by rw [look_map hf, h]; rfl)
  | @cons n x us h k ih => exact .cons (x := f x) (by rw [look_map hf, h]; rfl) (by rw [hp]; exact ih)
theorem up_self {l : List Item} {n : ByteArray} {x : Item} (h : look l n = some x) : n ∈ up l n := by
  unfold up
  rw [upGo_some h]
  simp
end Go.Proofs.Ytcgefpklljclgaa.Print

namespace Go.Proofs.Ytcgefpklljclgaa.Print
open Go.RowKit Go.Proofs.YtcgefpklljclgaaW.PrintWords Go.Proofs.YtcgefpklljclgaaW.PrintLast Go.Proofs.YtcgefpklljclgaaW.PrintMore
attribute [local go_sem] max2_int min2_int max_two min_two max_three min_three max_four min_four   -- for this text's walks alone
set_option linter.unusedVariables false
set_option linter.unusedSimpArgs false
end Go.Proofs.Ytcgefpklljclgaa.Print

namespace Go.Proofs.Ytcgefpklljclgaa.Print
open Go.RowKit Go.Proofs.YtcgefpklljclgaaW.PrintWords Go.Proofs.YtcgefpklljclgaaW.PrintLast Go.Proofs.YtcgefpklljclgaaW.PrintMore
attribute [local go_sem] max2_int min2_int max_two min_two max_three min_three max_four min_four   -- for this text's walks alone
set_option linter.unusedVariables false
set_option linter.unusedSimpArgs false
end Go.Proofs.Ytcgefpklljclgaa.Print

namespace Go.Proofs.Ytcgefpklljclgaa.Print
open Go.RowKit Go.Proofs.YtcgefpklljclgaaW.PrintWords Go.Proofs.YtcgefpklljclgaaW.PrintLast Go.Proofs.YtcgefpklljclgaaW.PrintMore
attribute [local go_sem] max2_int min2_int max_two min_two max_three min_three max_four min_four   -- for this text's walks alone
set_option linter.unusedVariables false
set_option linter.unusedSimpArgs false
end Go.Proofs.Ytcgefpklljclgaa.Print

namespace Go.Proofs.Ytcgefpklljclgaa.Print
open Go.RowKit Go.Proofs.YtcgefpklljclgaaW.PrintWords Go.Proofs.YtcgefpklljclgaaW.PrintLast Go.Proofs.YtcgefpklljclgaaW.PrintMore
attribute [local go_sem] max2_int min2_int max_two min_two max_three min_three max_four min_four   -- for this text's walks alone
set_option linter.unusedVariables false
set_option linter.unusedSimpArgs false
end Go.Proofs.Ytcgefpklljclgaa.Print

namespace Go.Proofs.Ytcgefpklljclgaa.Print
open Go.RowKit Go.Proofs.YtcgefpklljclgaaW.PrintWords Go.Proofs.YtcgefpklljclgaaW.PrintLast Go.Proofs.YtcgefpklljclgaaW.PrintMore
attribute [local go_sem] max2_int min2_int max_two min_two max_three min_three max_four min_four   -- for this text's walks alone
set_option linter.unusedVariables false
set_option linter.unusedSimpArgs false
end Go.Proofs.Ytcgefpklljclgaa.Print

namespace Go.Proofs.Ytcgefpklljclgaa.Print
open Go.RowKit Go.Proofs.YtcgefpklljclgaaW.PrintWords Go.Proofs.YtcgefpklljclgaaW.PrintLast
set_option linter.unusedVariables false
set_option linter.unusedSimpArgs false
/-! the document's small functions -/
theorem r10_Le_eq (a b d a' b' d' : Int) : r10_Le.f a b d a' b' d' = some (decide (LeP ⟨a, b, d⟩ ⟨a', b', d'⟩)) := by
  unfold r10_Le.f
  by_cases h0 : a ≤ a' <;> by_cases h1 : b ≤ b' <;> simp [h0, h1, leP_iff]
theorem r10_unit_eq (a : Int) : r10_unit.f a = some (decide (0 ≤ a ∧ a ≤ 1099511627776)) := by
  unfold r10_unit.f
  by_cases h0 : 0 ≤ a
  · rw [if_pos (by omega)]; simp [h0]
  · rw [if_neg (by omega)]; simp [h0]
theorem r10_MayVec_eq (a b d : Int) : r10_MayVec.f a b d = some (decide (MayP ⟨a, b, d⟩)) := by
  unfold r10_MayVec.f
  simp only [r10_unit_eq, Option.bind_some]
  by_cases h0 : 0 ≤ a ∧ a ≤ 1099511627776 <;> by_cases h1 : 0 ≤ b ∧ b ≤ 1099511627776 <;> simp [h0, h1, mayP_iff]
theorem r10_MayName_eq (n : ByteArray) : r10_MayName.f n = some (decide (n ≠ ⟨#[]⟩ ∧ n.size ≤ 24)) := by
  unfold r10_MayName.f
  by_cases h : n = ⟨#[]⟩
  · rw [if_pos (nm_empty.2 h)]; simp [h]
  · rw [if_neg (fun q => h (nm_empty.1 q))]; simp [h]; omega
theorem r10_Find_l0 (l : List Item) (n : ByteArray) (hl : l.length < 1000000) : ∀ (d i : Nat), l.length - i = d → i ≤ l.length →
    Ev (fun k => r10_Find.l0 k l n i) (fidx (fun x : Item => x.f0.toList == n.toList) (l.drop i) i)
  | 0, i, hd, hi => by
    obtain rfl : i = l.length := by omega
    refine Ev.step (f := fun _ => some (-1)) (fun k => ?_) (by rw [List.drop_length]; exact Ev.now _)
    simp only [r10_Find.l0]
    rw [if_neg (by omega)]
  | d + 1, i, hd, hi => by
    have hlt : i < l.length := by omega
    rw [fidx_drop _ zItem l i hlt]
    have hrd : rd_T31 l (i : Int) = l.getD i zItem := by rw [rd_item, Int.toNat_natCast]
    by_cases e : (l.getD i zItem).f0.toList = n.toList
    · rw [if_pos (beq_iff_eq.2 e)]
      refine Ev.step (f := fun _ => some (i : Int)) (fun k => ?_) (Ev.now _)
      simp only [r10_Find.l0]
      rw [if_pos (by omega), if_pos (by omega), hrd, if_pos e]
    · rw [if_neg (fun q => e (beq_iff_eq.1 q))]
      refine Ev.step (f := fun k => r10_Find.l0 k l n ((i + 1 : Nat) : Int)) (fun k => ?_) (r10_Find_l0 l n hl d (i + 1) (by omega) (by omega))
      simp only [r10_Find.l0]
      rw [if_pos (by omega), if_pos (by omega), hrd, if_neg e, w64 (by omega) (by omega)]
      rfl
theorem r10_Find_ev (l : List Item) (n : ByteArray) (hl : l.length < 1000000) : Ev (fun k => r10_Find.f k l n) (fnd l n) := r10_Find_l0 l n hl _ 0 rfl (by omega)
theorem r10_Up_l0 (l : List Item) (hl : l.length < 1000000) : ∀ (m : Nat) (n : ByteArray) (out : List ByteArray), out.length + m = l.length + 1 →
    Ev (fun k => r10_Up.l0 k l out (fnd l n)) (out ++ upGo l m n)
  | 0, n, out, hm => by
    rw [upGo.eq_1, List.append_nil]
    refine Ev.step (f := fun _ => some out) (fun k => ?_) (Ev.now _)
    simp only [r10_Up.l0]
    by_cases h : 0 ≤ fnd l n
    · rw [if_pos h, if_neg (by omega)]
    · rw [if_neg h]
  | m + 1, n, out, hm => by
    cases h : look l n with
    | none =>
      rw [upGo_none h, List.append_nil]
      refine Ev.step (f := fun _ => some out) (fun k => ?_) (Ev.now _)
      simp only [r10_Up.l0]
      rw [fnd_none h, if_neg (by omega)]
    | some x =>
      rw [upGo_some h]
      have h0 := fnd_ge.2 ⟨x, h⟩
      have h1 := fnd_lt l n
      obtain ⟨hx, hn⟩ := look_mem h
      refine Ev.step (f := fun k => (r10_Find.f k l x.f1).bind fun t => r10_Up.l0 k l (out ++ [n]) t) (fun k => ?_) (Ev.bind (r10_Find_ev l x.f1 hl) ?_)
      · simp only [r10_Up.l0]
        rw [if_pos h0, if_pos (by omega), if_pos h0, if_pos h1, if_pos (by omega), fnd_rd h, hn]
      · have := r10_Up_l0 l hl m x.f1 (out ++ [n]) (by simp; omega)
        simpa using this
theorem r10_Up_ev (l : List Item) (n : ByteArray) (hl : l.length < 1000000) : Ev (fun k => r10_Up.f k l n) (up l n) :=
  Ev.bind (r10_Find_ev l n hl) (by have := r10_Up_l0 l hl (l.length + 1) n [] (by simp); rw [List.nil_append] at this; exact this)
theorem drop_cons {us : List ByteArray} {i : Nat} (h : i < us.length) : us.drop i = rdOf ByteArray.empty us i :: us.drop (i + 1) := by
  rw [List.drop_eq_getElem_cons h]; simp [rdOf, h]
end Go.Proofs.Ytcgefpklljclgaa.Print

namespace Go.Proofs.Ytcgefpklljclgaa.Print
open Go.RowKit Go.Proofs.YtcgefpklljclgaaW.PrintWords Go.Proofs.YtcgefpklljclgaaW.PrintLast
set_option linter.unusedVariables false
set_option linter.unusedSimpArgs false
def Bytes (ns : List Int) : Prop := ∀ x ∈ ns, 0 ≤ x ∧ x ≤ 255
theorem Bytes.rd {ns : List Int} (h : Bytes ns) (i : Int) : 0 ≤ rd ns i ∧ rd ns i ≤ 255 := by
  unfold Go.Proofs.YtcgefpklljclgaaW.PrintWords.rd
  rw [List.getD_eq_getElem?_getD]
  cases e : ns[i.toNat]? with
  | none => simp
  | some x => exact h x (List.mem_of_getElem? e)
/-- a name of one byte -/
def one (c : Int) : ByteArray := strOfNums [c]
structure MadeP (l : List Item) : Prop where
  right : RightP l
  len : l.length ≤ 24
  name : ∀ x ∈ l, ∃ c : Int, 97 ≤ c ∧ c ≤ 120 ∧ x.f0 = one c
  ver : ∀ x ∈ l, x.f5 = 1
  lim : ∀ x ∈ l, ∀ c : Comp, 20 ≤ c.of x.f2 ∧ c.of x.f2 ≤ 275
end Go.Proofs.Ytcgefpklljclgaa.Print

namespace Go.Proofs.Ytcgefpklljclgaa.Print
open Go.RowKit Go.Proofs.YtcgefpklljclgaaW.PrintWords Go.Proofs.YtcgefpklljclgaaW.PrintLast Go.Proofs.YtcgefpklljclgaaW.PrintMore
set_option linter.unusedVariables false
set_option linter.unusedSimpArgs false
/-! the program's way up -/
theorem tree_Up_l0 (l : List Item) (hl : l.length < 1000000) : ∀ (m : Nat) (n : ByteArray) (out : List ByteArray), out.length + m = l.length + 1 →
    Ev (fun k => tree_Up.l0 k l out (fnd l n)) (out ++ upGo l m n)
  | 0, n, out, hm => by
    rw [upGo.eq_1, List.append_nil]
    refine Ev.step (f := fun _ => some out) (fun k => ?_) (Ev.now _)
    simp only [tree_Up.l0]
    by_cases h : 0 ≤ fnd l n
    · rw [if_pos h, if_neg (by omega)]
    · rw [if_neg h]
  | m + 1, n, out, hm => by
    cases h : look l n with
    | none =>
      rw [upGo_none h, List.append_nil]
      refine Ev.step (f := fun _ => some out) (fun k => ?_) (Ev.now _)
      simp only [tree_Up.l0]
      rw [fnd_none h, if_neg (by omega)]
    | some x =>
      rw [upGo_some h]
      have h0 := fnd_ge.2 ⟨x, h⟩
      have h1 := fnd_lt l n
      obtain ⟨hx, hn⟩ := look_mem h
      refine Ev.step (f := fun k => tree_Up.l0 k l (out ++ [n]) (fnd l x.f1)) (fun k => ?_) ?_
      · simp only [tree_Up.l0]
        rw [if_pos h0, if_pos (by omega), if_pos h0, if_pos h1, if_pos (by omega), fnd_rd h, hn, tree_Find_eq]
        rfl
      · have := tree_Up_l0 l hl m x.f1 (out ++ [n]) (by simp; omega)
        simpa using this
theorem tree_Up_ev (l : List Item) (n : ByteArray) (hl : l.length < 1000000) : Ev (fun k => tree_Up.f k l n) (up l n) := by
  have := tree_Up_l0 l hl (l.length + 1) n [] (by simp)
  rw [List.nil_append] at this
  exact this
/-! room -/
def ways (l : List Item) (n : ByteArray) : List Item := (up l n).map (fun u => rd_T31 l (fnd l u))
theorem up_in {l : List Item} {n u : ByteArray} (h : u ∈ up l n) : ∃ x, look l u = some x := by
  have : ∀ (m : Nat) (n : ByteArray), u ∈ upGo l m n → ∃ x, look l u = some x := by
    intro m
    induction m with
    | zero => intro n h; cases h
    | succ m ih =>
      intro n h
      cases e : look l n with
      | none => rw [upGo_none e] at h; cases h
      | some x =>
        rw [upGo_some e] at h
        rcases List.mem_cons.1 h with rfl | h
        · exact ⟨x, e⟩
        · exact ih _ h
  exact this _ _ h
theorem ways_mem {l : List Item} {n : ByteArray} {x : Item} (h : x ∈ ways l n) : x ∈ l ∧ x.f0 ∈ up l n := by
  obtain ⟨u, hu, rfl⟩ := List.mem_map.1 h
  obtain ⟨x, hx⟩ := up_in hu
  rw [fnd_rd hx]
  obtain ⟨h1, h2⟩ := look_mem hx
  exact ⟨h1, by rw [h2]; exact hu⟩
theorem room_along_l0 (l : List Item) (us : List ByteArray) (hu : ∀ u ∈ us, ∃ x, look l u = some x) (hs : us.length < 1000000) : ∀ (d i : Nat) (acc : List Item), us.length - i = d → i ≤ us.length → acc.length = i →
    Ev (fun k => room_along.l0 k l us us.length i acc) (acc ++ (us.drop i).map (fun u => rd_T31 l (fnd l u)))
  | 0, i, acc, hd, hi, ha => by
    obtain rfl : i = us.length := by omega
    rw [List.drop_length, List.map_nil, List.append_nil]
    refine Ev.step (f := fun _ => some acc) (fun k => ?_) (Ev.now _)
    simp only [room_along.l0]
    rw [if_neg (by omega)]
  | d + 1, i, acc, hd, hi, ha => by
    have hlt : i < us.length := by omega
    rw [drop_cons hlt, List.map_cons]
    obtain ⟨x, hx⟩ := hu (rdOf ByteArray.empty us i) (by simp [rdOf, hlt])
    have h0 := fnd_ge.2 ⟨x, hx⟩
    have h1 := fnd_lt l (rdOf ByteArray.empty us i)
    refine Ev.step (f := fun k => room_along.l0 k l us us.length ((i + 1 : Nat) : Int) (acc ++ [rd_T31 l (fnd l (rdOf ByteArray.empty us i))])) (fun k => ?_) ?_
    · simp only [room_along.l0, tree_Find_eq, Option.bind_some]
      rw [if_pos (by omega), if_pos (by omega), if_pos (by omega), if_pos h0, if_pos h1, if_pos (by omega), w64 (by omega) (by omega)]
      rfl
    · have := room_along_l0 l us hu hs d (i + 1) (acc ++ [rd_T31 l (fnd l (rdOf ByteArray.empty us i))]) (by omega) (by omega) (by simp; omega)
      simpa using this
theorem room_along_ev (l : List Item) (n : ByteArray) (hl : l.length < 100000) : Ev (fun k => room_along.f k l n) (ways l n) :=
  Ev.bind (tree_Up_ev l n (by omega)) (by
    have := room_along_l0 l (up l n) (fun u hu => up_in hu) (by have := up_len l n; omega) _ 0 [] rfl (by omega) rfl
    rw [List.nil_append, List.drop_zero] at this
    exact this)
def vmin (a b : Vec) : Vec := ⟨min a.f0 b.f0, min a.f1 b.f1, min a.f2 b.f2⟩
def most : Vec := ⟨1099511627776, 1099511627776, 1099511627776⟩
theorem most_may : MayP most := by intro c; cases c <;> simp [most, Comp.of]
theorem of_vmin (c : Comp) (a b : Vec) : c.of (vmin a b) = min (c.of a) (c.of b) := by cases c <;> rfl
def freeV (x : Item) : Vec := vsub x.f2 x.f4
theorem free_may {x : Item} (h : ItemOK x) : MayP (freeV x) := fun c => by
  have a := h.lim c; have b := h.sub c; have d := h.fit c
  unfold freeV; rw [of_vsub]; omega
def leastV (ws : List Item) (a : Vec) : Vec := ws.foldl (fun a x => vmin a (freeV x)) a
theorem vmin_may {a b : Vec} (ha : MayP a) (hb : MayP b) : MayP (vmin a b) := fun c => by
  have a := ha c; have b := hb c
  rw [of_vmin]; omega
theorem least_cons (x : Item) (ws : List Item) (a : Vec) : leastV (x :: ws) a = leastV ws (vmin a (freeV x)) := rfl
theorem vec_Sub_eq {a b : Vec} (ha : MayP a) (hb : MayP b) : vec_Sub.f a.f0 a.f1 a.f2 b.f0 b.f1 b.f2 = some ((vsub a b).f0, (vsub a b).f1, (vsub a b).f2) := by
  have a0 := ha .cpu; have a1 := ha .mem; have a2 := ha .pods
  have b0 := hb .cpu; have b1 := hb .mem; have b2 := hb .pods
  simp only [Comp.of] at a0 a1 a2 b0 b1 b2
  unfold vec_Sub.f
  rw [w64 (by omega) (by omega), w64 (by omega) (by omega), w64 (by omega) (by omega)]
  rfl
theorem vec_Add2 {a b : Vec} (ha : MayP a) (hb : MayP b) : vec_Add.f [a, b] = some (a.f0 + b.f0, a.f1 + b.f1, a.f2 + b.f2) := by
  have a0 := ha .cpu; have a1 := ha .mem; have a2 := ha .pods
  have b0 := hb .cpu; have b1 := hb .mem; have b2 := hb .pods
  simp only [Comp.of] at a0 a1 a2 b0 b1 b2
  simp only [vec_Add.f, vecByF]
  rw [w64 (n := 0 + a.f0) (by omega) (by omega), w64 (n := 0 + a.f1) (by omega) (by omega), w64 (n := 0 + a.f2) (by omega) (by omega), w64 (by omega) (by omega), w64 (by omega) (by omega), w64 (by omega) (by omega), Int.zero_add, Int.zero_add, Int.zero_add]
theorem vec_Max2 {a b : Vec} (ha : MayP a) (hb : MayP b) : vec_Max.f [a, b] = some (max a.f0 b.f0, max a.f1 b.f1, max a.f2 b.f2) := by
  have a0 := ha .cpu; have a1 := ha .mem; have a2 := ha .pods
  have b0 := hb .cpu; have b1 := hb .mem; have b2 := hb .pods
  simp only [Comp.of] at a0 a1 a2 b0 b1 b2
  have e : ∀ x y : Int, 0 ≤ x → mx (mx 0 x) y = max x y := fun x y hx => by unfold mx; split <;> split <;> omega
  simp only [vec_Max.f, vecByF]
  rw [e _ _ a0.1, e _ _ a1.1, e _ _ a2.1]
theorem room_free_eq {x : Item} (h : ItemOK x) : room_free.f x.f0 x.f1 x.f2.f0 x.f2.f1 x.f2.f2 x.f3.f0 x.f3.f1 x.f3.f2 x.f4.f0 x.f4.f1 x.f4.f2 x.f5 = some ((freeV x).f0, (freeV x).f1, (freeV x).f2) := by
  unfold room_free.f
  rw [vec_Sub_eq (a := x.f2) (b := x.f4) h.lim h.sub]
  rfl
theorem room_made_l0 (ws ws' : List Item) (hw : ∀ x ∈ ws, ItemOK x) (hs : ws.length < 1000000) : ∀ (d i : Nat) (a : Vec), ws.length - i = d → i ≤ ws.length → MayP a →
    Ev (fun k => room_made.l0 k ws ws.length i ws' a.f0 a.f1 a.f2) (ws', (leastV (ws.drop i) a).f0, (leastV (ws.drop i) a).f1, (leastV (ws.drop i) a).f2)
  | 0, i, a, hd, hi, ha => by
    obtain rfl : i = ws.length := by omega
    rw [List.drop_length]
    refine Ev.step (f := fun _ => some (ws', a.f0, a.f1, a.f2)) (fun k => ?_) (Ev.now _)
    simp only [room_made.l0]
    rw [if_neg (by omega)]
  | d + 1, i, a, hd, hi, ha => by
    have hlt : i < ws.length := by omega
    have hrd : rd_T31 ws (i : Int) = ws[i] := by rw [rd_item, Int.toNat_natCast]; simp [hlt]
    have hx : ItemOK ws[i] := hw _ (List.getElem_mem hlt)
    have hf := free_may hx
    rw [List.drop_eq_getElem_cons hlt]
    have hmin : vec_Sub.f (a.f0 + (freeV ws[i]).f0) (a.f1 + (freeV ws[i]).f1) (a.f2 + (freeV ws[i]).f2) (max a.f0 (freeV ws[i]).f0) (max a.f1 (freeV ws[i]).f1) (max a.f2 (freeV ws[i]).f2) = some ((vmin a (freeV ws[i])).f0, (vmin a (freeV ws[i])).f1, (vmin a (freeV ws[i])).f2) := by
      have a0 := ha .cpu; have a1 := ha .mem; have a2 := ha .pods
      have b0 := hf .cpu; have b1 := hf .mem; have b2 := hf .pods
      simp only [Comp.of] at a0 a1 a2 b0 b1 b2
      have e : ∀ x y : Int, 0 ≤ x ∧ x ≤ 1099511627776 → 0 ≤ y ∧ y ≤ 1099511627776 → wrap64 (x + y - max x y) = min x y := fun x y hx hy => by rw [w64 (by omega) (by omega)]; omega
      unfold vec_Sub.f
      rw [e _ _ a0 b0, e _ _ a1 b1, e _ _ a2 b2]
      rfl
    refine Ev.step (f := fun k => room_made.l0 k ws ws.length ((i + 1 : Nat) : Int) ws' (vmin a (freeV ws[i])).f0 (vmin a (freeV ws[i])).f1 (vmin a (freeV ws[i])).f2) (fun k => ?_) (room_made_l0 ws ws' hw hs d (i + 1) _ (by omega) (by omega) (vmin_may ha hf))
    simp only [room_made.l0]
    rw [if_pos (by omega), if_pos (by omega), if_pos (by omega), hrd, room_free_eq hx]
    simp only [Option.bind_some]
    rw [show (⟨a.f0, a.f1, a.f2⟩ : Vec) = a from rfl, show (⟨(freeV ws[i]).f0, (freeV ws[i]).f1, (freeV ws[i]).f2⟩ : Vec) = freeV ws[i] from rfl, vec_Add2 ha hf, vec_Max2 ha hf]
    simp only [Option.bind_some]
    rw [hmin, w64 (by omega) (by omega)]
    rfl
theorem right_ways {l : List Item} (hl : RightP l) (n : ByteArray) : ∀ x ∈ ways l n, ItemOK x := fun x hx => hl.ok x (ways_mem hx).1
def roomV (l : List Item) (n : ByteArray) : Vec := leastV (ways l n) most
theorem room_made_ev {l : List Item} (hl : RightP l) (n : ByteArray) : Ev (fun k => room_made.f k l n) (ways l n, (roomV l n).f0, (roomV l n).f1, (roomV l n).f2) := by
  have hlen := hl.len
  refine Ev.bind (room_along_ev l n (by omega)) ?_
  have h := room_made_l0 (ways l n) (ways l n) (right_ways hl n) (by unfold ways; rw [List.length_map]; have := up_len l n; omega) _ 0 most rfl (by omega) most_may
  rw [List.drop_zero] at h
  refine Ev.congr (fun k => ?_) h
  rfl
def roomR (l : List Item) (n : ByteArray) : Int × Int × Int × Bool := if (look l n).isNone = true then (0, 0, 0, false) else ((roomV l n).f0, (roomV l n).f1, (roomV l n).f2, true)
theorem room_Of_ev {l : List Item} (hl : RightP l) (n : ByteArray) : Ev (fun k => room_Of.f k l n) (roomR l n) := by
  refine Ev.bind (room_made_ev hl n) ?_
  unfold roomR
  refine Ev.congr (fun k => ?_) (Ev.now _)
  cases h : look l n with
  | none =>
    rw [if_pos (show (none : Option Item).isNone = true from rfl), show ways l n = [] from by unfold ways; rw [show up l n = [] from upGo_none h _]; rfl]
    rfl
  | some x =>
    have := up_self h
    have : (ways l n).length ≠ 0 := by unfold ways; rw [List.length_map]; intro q; rw [List.length_eq_zero_iff.1 q] at this; cases this
    rw [if_neg (by show ¬ ((ways l n).length : Int) = 0; omega), if_neg (by simp)]
end Go.Proofs.Ytcgefpklljclgaa.Print

namespace Go.Proofs.Ytcgefpklljclgaa.Print
open Go.RowKit Go.Proofs.YtcgefpklljclgaaW.PrintWords Go.Proofs.YtcgefpklljclgaaW.PrintLast Go.Proofs.YtcgefpklljclgaaW.PrintMore
set_option linter.unusedVariables false
set_option linter.unusedSimpArgs false
end Go.Proofs.Ytcgefpklljclgaa.Print

namespace Go.Proofs.Ytcgefpklljclgaa.Print
open Go.RowKit Go.Proofs.YtcgefpklljclgaaW.PrintWords Go.Proofs.YtcgefpklljclgaaW.PrintLast Go.Proofs.YtcgefpklljclgaaW.PrintMore
set_option linter.unusedVariables false
set_option linter.unusedSimpArgs false
/-! when a tree is right: place by place -/
def Ok1 (l : List Item) (i : Nat) : Prop := ItemOK (rd_T31 l i) ∧ (0 < i → lt (rd_T31 l ((i : Int) - 1)).f0 (rd_T31 l i).f0 = true) ∧ ((rd_T31 l i).f1 = ⟨#[]⟩ ∨ ∃ y, look l (rd_T31 l i).f1 = some y)
def Ok2 (l : List Item) (i : Nat) : Prop := (∀ c : Comp, c.of (rd_T31 l i).f4 = c.of (rd_T31 l i).f3 + csum c l (rd_T31 l i).f0)
def Ok3 (l : List Item) (i : Nat) : Prop := (up l (rd_T31 l i).f0).length ≤ l.length
theorem rd_get {l : List Item} {i : Nat} (h : i < l.length) : rd_T31 l (i : Int) = l[i] := by rw [rd_item, Int.toNat_natCast]; simp [h]
theorem rd_mem {l : List Item} {i : Nat} (h : i < l.length) : rd_T31 l (i : Int) ∈ l := by rw [rd_get h]; exact List.getElem_mem h
theorem rightP_iff (l : List Item) : RightP l ↔ l.length ≤ 120 ∧ (∀ i, i < l.length → Ok1 l i) ∧ (∀ i, i < l.length → Ok2 l i) ∧ (∀ i, i < l.length → Ok3 l i) := by
  constructor
  · intro h
    refine ⟨h.len, fun i hi => ⟨h.ok _ (rd_mem hi), fun h0 => ?_, h.par _ (rd_mem hi)⟩, fun i hi c => h.sum c _ (rd_mem hi), fun i hi => up_len_iff.2 (h.chain _ (rd_mem hi))⟩
    have := List.pairwise_iff_getElem.1 h.sorted (i - 1) i (by omega) hi (by omega)
    rw [show ((i : Int) - 1) = ((i - 1 : Nat) : Int) from by omega, rd_get (show i - 1 < l.length by omega), rd_get hi]
    exact this
  · rintro ⟨h1, h2, h3, h4⟩
    have hx : ∀ x ∈ l, ∃ i, i < l.length ∧ rd_T31 l (i : Int) = x := fun x hx => by
      obtain ⟨i, hi, e⟩ := List.getElem_of_mem hx
      exact ⟨i, hi, by rw [rd_get hi]; exact e⟩
    refine ⟨h1, fun x hx' => ?_, ?_, fun x hx' => ?_, fun c x hx' => ?_, fun x hx' => ?_⟩
    · obtain ⟨i, hi, rfl⟩ := hx x hx'
      exact (h2 i hi).1
    · rw [List.pairwise_iff_getElem]
      intro i j hi hj hij
      have step : ∀ d : Nat, ∀ hd : i + 1 + d < l.length, lt l[i].f0 (l[i + 1 + d]).f0 = true := by
        intro d
        induction d with
        | zero =>
          intro hd
          have := (h2 (i + 1) (by omega)).2.1 (by omega)
          rw [show (((i + 1 : Nat) : Int) - 1) = (i : Int) from by omega, rd_get hi, rd_get (show i + 1 < l.length by omega)] at this
          exact this
        | succ d ih =>
          intro hd
          have := (h2 (i + 1 + (d + 1)) hd).2.1 (by omega)
          rw [show (((i + 1 + (d + 1) : Nat) : Int) - 1) = ((i + 1 + d : Nat) : Int) from by omega, rd_get (show i + 1 + d < l.length by omega), rd_get hd] at this
          exact lt_trans (ih (by omega)) this
      have := step (j - (i + 1)) (by omega)
      simpa [show i + 1 + (j - (i + 1)) = j by omega] using this
    · obtain ⟨i, hi, rfl⟩ := hx x hx'
      exact (h2 i hi).2.2
    · obtain ⟨i, hi, rfl⟩ := hx x hx'
      exact h3 i hi c
    · obtain ⟨i, hi, rfl⟩ := hx x hx'
      exact up_len_iff.1 (h4 i hi)
end Go.Proofs.Ytcgefpklljclgaa.Print

namespace Go.Proofs.Ytcgefpklljclgaa.Print
open Go.RowKit Go.Proofs.YtcgefpklljclgaaW.PrintWords Go.Proofs.YtcgefpklljclgaaW.PrintLast Go.Proofs.YtcgefpklljclgaaW.PrintMore
set_option linter.unusedVariables false
set_option linter.unusedSimpArgs false
/-! what some nodes share -/
theorem hasStr_cons (x : ByteArray) (l : List ByteArray) (s : ByteArray) : hasStr (x :: l) s = (decide (s.toList = x.toList) || hasStr l s) := by unfold hasStr; rw [List.any_cons]
theorem r10_in_l0 (l : List ByteArray) (s : ByteArray) (hl : l.length < 1000000) : ∀ (d i : Nat), l.length - i = d → i ≤ l.length → Ev (fun k => r10_in.l0 k l s i) (hasStr (l.drop i) s)
  | 0, i, hd, hi => by
    obtain rfl : i = l.length := by omega
    rw [List.drop_length]
    refine Ev.step (f := fun _ => some false) (fun k => ?_) (Ev.now _)
    simp only [r10_in.l0]
    rw [if_neg (by omega)]
  | d + 1, i, hd, hi => by
    have hlt : i < l.length := by omega
    have hrd : rdOf ByteArray.empty l (i : Int) = l[i] := by simp [rdOf, hlt]
    rw [List.drop_eq_getElem_cons hlt, hasStr_cons]
    by_cases e : l[i].toList = s.toList
    · rw [decide_eq_true e.symm, Bool.true_or]
      refine Ev.step (f := fun _ => some true) (fun k => ?_) (Ev.now _)
      simp only [r10_in.l0]
      rw [if_pos (by omega), if_pos (by omega), hrd, if_pos e]
    · rw [decide_eq_false (fun q => e q.symm), Bool.false_or]
      refine Ev.step (f := fun k => r10_in.l0 k l s ((i + 1 : Nat) : Int)) (fun k => ?_) (r10_in_l0 l s hl d (i + 1) (by omega) (by omega))
      simp only [r10_in.l0]
      rw [if_pos (by omega), if_pos (by omega), hrd, if_neg e, w64 (by omega) (by omega)]
      rfl
theorem r10_in_ev (l : List ByteArray) (s : ByteArray) (hl : l.length < 1000000) : Ev (fun k => r10_in.f k l s) (hasStr l s) := r10_in_l0 l s hl _ 0 rfl (by omega)
/-- is this node's name told, and none above it? -/
def topB (l : List Item) (ns : List ByteArray) (x : Item) : Bool := hasStr ns x.f0 && !((up l x.f0).drop 1).any (hasStr ns)
def addV (a : Vec) (ws : List Item) : Vec := ⟨a.f0 + sumBy (fun x => x.f4.f0) ws, a.f1 + sumBy (fun x => x.f4.f1) ws, a.f2 + sumBy (fun x => x.f4.f2) ws⟩
def shareV (l : List Item) (ns : List ByteArray) : Vec := addV ⟨0, 0, 0⟩ (l.filter (topB l ns))
theorem addV_nil (a : Vec) : addV a [] = a := by unfold addV; simp [sumBy_nil]
theorem addV_cons (a : Vec) (x : Item) (ws : List Item) : addV a (x :: ws) = addV (vadd a x.f4) ws := by
  unfold addV vadd
  simp only [sumBy_cons]
  congr 1 <;> omega
def SmallV (a : Vec) (n : Nat) : Prop := ∀ c : Comp, 0 ≤ c.of a ∧ c.of a ≤ 1099511627776 * n
theorem small_zero : SmallV ⟨0, 0, 0⟩ 0 := fun c => by cases c <;> simp [Comp.of]
theorem small_add {a b : Vec} {n : Nat} (ha : SmallV a n) (hb : MayP b) : SmallV (vadd a b) (n + 1) := fun c => by
  have h1 := ha c; have h2 := hb c
  rw [of_vadd]; omega
theorem small_mono {a : Vec} {n m : Nat} (h : SmallV a n) (hn : n ≤ m) : SmallV a m := fun c => by have := h c; omega
theorem small_wrap {a b : Vec} {n : Nat} (ha : SmallV a n) (hb : MayP b) (hn : n ≤ 1000) : wrap64 (a.f0 + b.f0) = (vadd a b).f0 ∧ wrap64 (a.f1 + b.f1) = (vadd a b).f1 ∧ wrap64 (a.f2 + b.f2) = (vadd a b).f2 := by
  have a0 := ha .cpu; have a1 := ha .mem; have a2 := ha .pods
  have b0 := hb .cpu; have b1 := hb .mem; have b2 := hb .pods
  simp only [Comp.of] at a0 a1 a2 b0 b1 b2
  exact ⟨w64 (by omega) (by omega), w64 (by omega) (by omega), w64 (by omega) (by omega)⟩
theorem vecAdd_items : ∀ (ws : List Item) (a : Vec) (n : Nat), SmallV a n → (∀ x ∈ ws, MayP x.f4) → n + ws.length ≤ 1000 → vecByF (fun x y => wrap64 (x + y)) (ws.map (·.f4)) a.f0 a.f1 a.f2 = ((addV a ws).f0, (addV a ws).f1, (addV a ws).f2)
  | [], a, n, ha, hw, hn => by rw [addV_nil]; rfl
  | x :: ws, a, n, ha, hw, hn => by
    rw [addV_cons]
    obtain ⟨e0, e1, e2⟩ := small_wrap ha (hw x (by simp)) (by simp at hn; omega)
    have := vecAdd_items ws (vadd a x.f4) (n + 1) (small_add ha (hw x (by simp))) (fun y hy => hw y (by simp [hy])) (by simp at hn; omega)
    rw [← this]
    show vecByF (fun x y => wrap64 (x + y)) (ws.map (·.f4)) (wrap64 (a.f0 + x.f4.f0)) (wrap64 (a.f1 + x.f4.f1)) (wrap64 (a.f2 + x.f4.f2)) = _
    rw [e0, e1, e2]
theorem room_Share_l0 {l : List Item} (hr : RightP l) (ns : List ByteArray) : ∀ (d i : Nat) (acc : List Vec), l.length - i = d → i ≤ l.length → acc.length ≤ i → Ev (fun k => room_Share.l0 k l ns i acc) (acc ++ ((l.drop i).filter (topB l ns)).map (·.f4))
  | 0, i, acc, hd, hi, ha => by
    obtain rfl : i = l.length := by omega
    rw [List.drop_length]
    refine Ev.step (f := fun _ => some acc) (fun k => ?_) (by rw [show acc ++ (([] : List Item).filter (topB l ns)).map (·.f4) = acc from List.append_nil _]; exact Ev.now _)
    rw [room_Share.l0, if_neg (by omega)]
  | d + 1, i, acc, hd, hi, ha => by
    have hlen := hr.len
    have hlt : i < l.length := by omega
    have hrd : rd_T31 l (i : Int) = l[i] := by rw [rd_item, Int.toNat_natCast]; simp [hlt]
    have hm : l[i] ∈ l := List.getElem_mem hlt
    have hpos : 1 ≤ (up l l[i].f0).length := by have := up_self (hr.look hm); exact List.length_pos_of_mem this
    rw [List.drop_eq_getElem_cons hlt]
    generalize l[i] = x at *
    have ht : topB l ns x = true ↔ (hasStr ns x.f0 = true ∧ ((up l x.f0).drop 1).any (hasStr ns) = false) := by unfold topB; simp
    by_cases h : topB l ns x = true
    · rw [List.filter_cons_of_pos h]
      refine Ev.step (f := fun k => (tree_Up.f k l x.f0).bind fun us => if 1 ≤ us.length then (if hasStr ns x.f0 = true ∧ (us.drop 1).any (hasStr ns) = false then (if acc.length < 1000000000 then room_Share.l0 k l ns (wrap64 ((i : Int) + 1)) (acc ++ [x.f4]) else none) else room_Share.l0 k l ns (wrap64 ((i : Int) + 1)) acc) else none) (fun k => ?_) ?_
      · rw [room_Share.l0, if_pos (by omega), if_pos (by omega), hrd]
      · refine Ev.bind (tree_Up_ev l x.f0 (by omega)) ?_
        have := room_Share_l0 hr ns d (i + 1) (acc ++ [x.f4]) (by omega) (by omega) (by simp; omega)
        rw [List.append_assoc] at this
        refine Ev.congr (fun k => ?_) this
        rw [if_pos hpos, if_pos (ht.1 h), if_pos (by omega), w64 (by omega) (by omega)]
        rfl
    · rw [List.filter_cons_of_neg h]
      refine Ev.step (f := fun k => (tree_Up.f k l x.f0).bind fun us => if 1 ≤ us.length then (if hasStr ns x.f0 = true ∧ (us.drop 1).any (hasStr ns) = false then (if acc.length < 1000000000 then room_Share.l0 k l ns (wrap64 ((i : Int) + 1)) (acc ++ [x.f4]) else none) else room_Share.l0 k l ns (wrap64 ((i : Int) + 1)) acc) else none) (fun k => ?_) ?_
      · rw [room_Share.l0, if_pos (by omega), if_pos (by omega), hrd]
      · refine Ev.bind (tree_Up_ev l x.f0 (by omega)) ?_
        refine Ev.congr (fun k => ?_) (room_Share_l0 hr ns d (i + 1) acc (by omega) (by omega) (by omega))
        rw [if_pos hpos, if_neg (fun q => h (ht.2 q)), w64 (by omega) (by omega)]
        rfl
theorem room_Share_ev {l : List Item} (hr : RightP l) (ns : List ByteArray) (hn : ns.length < 1000000) : Ev (fun k => room_Share.f k l ns) ((shareV l ns).f0, (shareV l ns).f1, (shareV l ns).f2) := by
  have hlen := hr.len
  refine Ev.congr (fun k => if_pos (by omega)) ?_
  have h := room_Share_l0 hr ns _ 0 [] rfl (by omega) (by simp)
  rw [List.drop_zero, List.nil_append] at h
  refine Ev.bind h ?_
  have hf := List.length_filter_le (topB l ns) l
  refine Ev.congr (fun k => ?_) (Ev.now _)
  unfold vec_Add.f
  rw [show ((0 : Int) = (⟨0, 0, 0⟩ : Vec).f0) from rfl]
  congr 1
  exact vecAdd_items (l.filter (topB l ns)) ⟨0, 0, 0⟩ 0 small_zero (fun x hx => (hr.ok x (List.mem_filter.1 hx).1).sub) (by omega)
end Go.Proofs.Ytcgefpklljclgaa.Print

namespace Go.Proofs.Ytcgefpklljclgaa.Print
open Go.RowKit Go.Proofs.YtcgefpklljclgaaW.PrintWords Go.Proofs.YtcgefpklljclgaaW.PrintLast Go.Proofs.YtcgefpklljclgaaW.PrintMore
attribute [local go_sem] max2_int min2_int max_two min_two max_three min_three max_four min_four   -- for this text's walks alone
set_option linter.unusedVariables false
set_option linter.unusedSimpArgs false
end Go.Proofs.Ytcgefpklljclgaa.Print

namespace Go.Proofs.Ytcgefpklljclgaa.Print
open Go.RowKit Go.Proofs.YtcgefpklljclgaaW.PrintWords Go.Proofs.YtcgefpklljclgaaW.PrintLast Go.Proofs.YtcgefpklljclgaaW.PrintMore
set_option linter.unusedVariables false
set_option linter.unusedSimpArgs false
theorem sumBy_filter (g : Item → Int) (p : Item → Bool) : ∀ l : List Item, sumBy g (l.filter p) = sumBy (fun x => if p x = true then g x else 0) l
  | [] => rfl
  | x :: l => by
    rw [sumBy_cons]
    by_cases h : p x = true
    · rw [List.filter_cons_of_pos h, sumBy_cons, sumBy_filter g p l, if_pos h]
    · rw [List.filter_cons_of_neg h, sumBy_filter g p l, if_neg h]; omega
end Go.Proofs.Ytcgefpklljclgaa.Print

namespace Go.Proofs.Ytcgefpklljclgaa.Print
open Go.RowKit Go.Proofs.YtcgefpklljclgaaW.PrintWords Go.Proofs.YtcgefpklljclgaaW.PrintLast Go.Proofs.YtcgefpklljclgaaW.PrintMore
set_option linter.unusedVariables false
set_option linter.unusedSimpArgs false
/-! the document's answer of any tree -/
theorem of_addV_ (c : Comp) (a : Vec) (ws : List Item) : c.of (addV a ws) = c.of a + sumBy (fun x => c.of x.f4) ws := by cases c <;> rfl
theorem addV_snoc_ (a : Vec) (ws : List Item) (y : Item) : addV a (ws ++ [y]) = vadd (addV a ws) y.f4 := vec_ext fun c => by
  rw [of_vadd, of_addV_, of_addV_, sumBy_append, sumBy_cons, sumBy_nil]; omega
theorem small_addV_ {a : Vec} {n : Nat} (ha : SmallV a n) {ws : List Item} (hw : ∀ y ∈ ws, MayP y.f4) : SmallV (addV a ws) (n + ws.length) := fun c => by
  have h1 := ha c
  have h2 := sumBy_nonneg (g := fun x => c.of x.f4) (l := ws) (fun y hy => (hw y hy c).1)
  have h3 := sumBy_le (g := fun x => c.of x.f4) (B := 1099511627776) (l := ws) (fun y hy => (hw y hy c).2)
  rw [of_addV_]
  omega
theorem r10_add_small_ {a b : Vec} {n : Nat} (ha : SmallV a n) (hb : MayP b) (hn : n ≤ 1000) : r10_Add.f a.f0 a.f1 a.f2 b.f0 b.f1 b.f2 = some ((vadd a b).f0, (vadd a b).f1, (vadd a b).f2) := by
  obtain ⟨e0, e1, e2⟩ := small_wrap ha hb hn
  unfold r10_Add.f
  rw [e0, e1, e2]
theorem ok2_iff {l : List Item} {i : Nat} {x : Item} (hx : rd_T31 l i = x) : Ok2 l i ↔ addV x.f3 (l.filter (fun y => decide (y.f1 = x.f0))) = x.f4 := by
  have key : ∀ c : Comp, c.of (addV x.f3 (l.filter (fun y => decide (y.f1 = x.f0)))) = c.of x.f3 + csum c l x.f0 := fun c => by
    rw [of_addV_, sumBy_filter]
    simp only [decide_eq_true_eq]
    rfl
  unfold Ok2
  rw [hx]
  constructor
  · intro h
    exact vec_ext fun c => by rw [key c, h c]
  · intro h c
    rw [← key c, h]
theorem r10_full_l2 {l : List Item} (hlen : l.length ≤ 120) (h1 : ∀ i, i < l.length → Ok1 l i) {i : Nat} (hi : i < l.length) {x : Item} (hx : rd_T31 l i = x) {b : Bool} (hno : ¬ (Ok2 l i ∧ Ok3 l i) → b = false)
    (rest : Ok2 l i ∧ Ok3 l i → Ev (fun k => r10_Right.l1 k l ((i + 1 : Nat) : Int)) b) : ∀ (d j : Nat), l.length - j = d → j ≤ l.length →
    Ev (fun k => r10_Right.l2 k l i j (addV x.f3 ((l.take j).filter (fun y => decide (y.f1 = x.f0)))).f0 (addV x.f3 ((l.take j).filter (fun y => decide (y.f1 = x.f0)))).f1 (addV x.f3 ((l.take j).filter (fun y => decide (y.f1 = x.f0)))).f2) b
  | 0, j, hd, hj => by
    obtain rfl : j = l.length := by omega
    rw [List.take_length]
    have hok := ok2_iff (l := l) (i := i) hx
    generalize addV x.f3 (l.filter (fun y => decide (y.f1 = x.f0))) = s at hok
    refine Ev.step (fun k => r10_Right.l2.eq_2 (k := k) ..) ?_
    have e1 : ((i : Int) < (l.length : Int)) = True := eq_true (by omega)
    have e2 : ((0 : Int) ≤ (i : Int)) = True := eq_true (by omega)
    have e3 : wrap64 ((i : Int) + 1) = ((i + 1 : Nat) : Int) := by rw [w64 (by omega) (by omega)]; rfl
    simp only [Int.lt_irrefl, if_false, e1, e2, if_true, hx, e3]
    by_cases hs : s = x.f4
    · subst hs
      refine Ev.congr (fun k => if_neg (by simp)) ?_
      refine Ev.bind (r10_Up_ev l x.f0 (by omega)) ?_
      by_cases hu : (up l x.f0).length ≤ l.length
      · exact Ev.congr (fun k => if_neg (by omega)) (rest ⟨hok.2 rfl, by unfold Ok3; rw [hx]; exact hu⟩)
      · refine Ev.congr (fun k => if_pos (by omega)) ?_
        rw [hno (fun q => hu (by have := q.2; unfold Ok3 at this; rw [hx] at this; exact this))]
        exact Ev.now _
    · refine Ev.congr (fun k => if_pos ?_) ?_
      · have : ¬ (s.f0 = x.f4.f0 ∧ s.f1 = x.f4.f1 ∧ s.f2 = x.f4.f2) := fun ⟨a, b, c⟩ => hs (vec_ext fun d => by cases d <;> assumption)
        by_cases a : s.f0 = x.f4.f0 <;> by_cases b : s.f1 = x.f4.f1 <;> by_cases c : s.f2 = x.f4.f2 <;> simp_all
      · rw [hno (fun q => hs (hok.1 q.1))]
        exact Ev.now _
  | d + 1, j, hd, hj => by
    have hlt : j < l.length := by omega
    have ih := r10_full_l2 hlen h1 hi hx hno rest d (j + 1) (by omega) (by omega)
    have hrd := rd_get hlt
    have hall : ∀ y ∈ l, ItemOK y := fun y hy => by
      obtain ⟨m, hm, e⟩ := List.getElem_of_mem hy
      have := (h1 m hm).1
      rw [rd_get hm, e] at this
      exact this
    have hym : MayP (l[j]).f4 := (hall _ (List.getElem_mem hlt)).sub
    rw [List.take_succ_eq_append_getElem hlt, List.filter_append] at ih
    have hxm : ItemOK x := by rw [← hx]; exact (h1 i hi).1
    have hsm := small_addV_ (a := x.f3) (n := 1) (fun c => by have := hxm.own c; omega) (ws := (l.take j).filter (fun y => decide (y.f1 = x.f0))) (fun y hy => (hall y (List.mem_of_mem_take (List.mem_filter.1 hy).1)).sub)
    have hfl := List.length_filter_le (fun y : Item => decide (y.f1 = x.f0)) (l.take j)
    rw [List.length_take] at hfl
    generalize l[j] = y at hrd ih hym
    refine Ev.step (fun k => r10_Right.l2.eq_2 (k := k) ..) ?_
    have e1 : ((i : Int) < (l.length : Int)) = True := eq_true (by omega)
    have e2 : ((0 : Int) ≤ (i : Int)) = True := eq_true (by omega)
    have e4 : ((j : Int) < (l.length : Int)) = True := eq_true (by omega)
    have e5 : ((0 : Int) ≤ (j : Int)) = True := eq_true (by omega)
    have e3 : wrap64 ((j : Int) + 1) = ((j + 1 : Nat) : Int) := by rw [w64 (by omega) (by omega)]; rfl
    simp only [e1, e2, e4, e5, if_true, hx, hrd, e3]
    by_cases hy : y.f1 = x.f0
    · have e6 : (y.f1.toList = x.f0.toList) = True := eq_true (nm_inj.2 hy)
      rw [List.filter_cons_of_pos (by simpa using hy), List.filter_nil, addV_snoc_] at ih
      simp only [e6, if_true, r10_add_small_ hsm hym (by omega), Option.bind_some]
      exact ih
    · have e6 : (y.f1.toList = x.f0.toList) = False := eq_false (fun q => hy (nm_inj.1 q))
      rw [List.filter_cons_of_neg (by simpa using hy), List.filter_nil, List.append_nil] at ih
      simp only [e6, if_false]
      exact ih
theorem r10_full_l1 {l : List Item} (hlen : l.length ≤ 120) (h1 : ∀ i, i < l.length → Ok1 l i) {b : Bool} (hb : b = true ↔ RightP l) : ∀ (d i : Nat), l.length - i = d → i ≤ l.length → (∀ j, j < i → Ok2 l j ∧ Ok3 l j) → Ev (fun k => r10_Right.l1 k l i) b
  | 0, i, hd, hi, hp => by
    obtain rfl : i = l.length := by omega
    refine Ev.step (fun k => r10_Right.l1.eq_2 (k := k) ..) ?_
    simp only [Int.lt_irrefl, if_false]
    rw [hb.2 ((rightP_iff l).2 ⟨hlen, h1, fun j hj => (hp j hj).1, fun j hj => (hp j hj).2⟩)]
    exact Ev.now _
  | d + 1, i, hd, hi, hp => by
    have hlt : i < l.length := by omega
    refine Ev.step (fun k => r10_Right.l1.eq_2 (k := k) ..) ?_
    have e1 : ((i : Int) < (l.length : Int)) = True := eq_true (by omega)
    have e2 : ((0 : Int) ≤ (i : Int)) = True := eq_true (by omega)
    simp only [e1, e2, if_true]
    have := r10_full_l2 hlen h1 hlt (x := rd_T31 l i) rfl (b := b) (fun q => by
      cases b with
      | false => rfl
      | true =>
        obtain ⟨_, _, a, c⟩ := (rightP_iff l).1 (hb.1 rfl)
        exact absurd ⟨a i hlt, c i hlt⟩ q) (fun q => r10_full_l1 hlen h1 hb d (i + 1) (by omega) (by omega) (fun j hj => by
        by_cases e : j = i
        · rw [e]; exact q
        · exact hp j (by omega))) _ 0 rfl (by omega)
    rw [List.take_zero, List.filter_nil, addV_nil] at this
    exact this
theorem r10_full_l0 {l : List Item} (hlen : l.length ≤ 120) {b : Bool} (hb : b = true ↔ RightP l) : ∀ (d i : Nat), l.length - i = d → i ≤ l.length → (∀ j, j < i → Ok1 l j) → Ev (fun k => r10_Right.l0 k l i) b
  | 0, i, hd, hi, hp => by
    obtain rfl : i = l.length := by omega
    refine Ev.step (fun k => r10_Right.l0.eq_2 (k := k) ..) ?_
    simp only [Int.lt_irrefl, if_false]
    exact r10_full_l1 hlen hp hb _ 0 rfl (by omega) (fun j hj => absurd hj (by omega))
  | d + 1, i, hd, hi, hp => by
    have hlt : i < l.length := by omega
    have hbad : ¬ Ok1 l i → Ev (fun _ => some false) b := fun q => by
      cases b with
      | false => exact Ev.now _
      | true => exact absurd (((rightP_iff l).1 (hb.1 rfl)).2.1 i hlt) q
    have hnext : Ok1 l i → Ev (fun k => r10_Right.l0 k l ((i + 1 : Nat) : Int)) b := fun q => r10_full_l0 hlen hb d (i + 1) (by omega) (by omega) (fun j hj => by
      by_cases e : j = i
      · rw [e]; exact q
      · exact hp j (by omega))
    obtain ⟨x, hx⟩ : ∃ x, rd_T31 l (i : Int) = x := ⟨_, rfl⟩
    have hOk : Ok1 l i ↔ ItemOK x ∧ (0 < i → lt (rd_T31 l ((i : Int) - 1)).f0 x.f0 = true) ∧ (x.f1 = ⟨#[]⟩ ∨ ∃ y, look l x.f1 = some y) := by unfold Ok1; rw [hx]
    have e1 : ((i : Int) < (l.length : Int)) = True := eq_true (by omega)
    have e2 : ((0 : Int) ≤ (i : Int)) = True := eq_true (by omega)
    have e3 : wrap64 ((i : Int) + 1) = ((i + 1 : Nat) : Int) := by rw [w64 (by omega) (by omega)]; rfl
    have n0 : r10_MayName.f x.f0 = some (decide (x.f0 ≠ ⟨#[]⟩ ∧ x.f0.size ≤ 24)) := r10_MayName_eq _
    have n1 : r10_MayVec.f x.f2.f0 x.f2.f1 x.f2.f2 = some (decide (MayP x.f2)) := r10_MayVec_eq _ _ _
    have n2 : r10_MayVec.f x.f3.f0 x.f3.f1 x.f3.f2 = some (decide (MayP x.f3)) := r10_MayVec_eq _ _ _
    have n3 : r10_Le.f x.f4.f0 x.f4.f1 x.f4.f2 x.f2.f0 x.f2.f1 x.f2.f2 = some (decide (LeP x.f4 x.f2)) := r10_Le_eq _ _ _ _ _ _
    have n4 : r10_MayVec.f x.f4.f0 x.f4.f1 x.f4.f2 = some (decide (MayP x.f4)) := r10_MayVec_eq _ _ _
    refine Ev.step (fun k => r10_Right.l0.eq_2 (k := k) ..) ?_
    simp only [e1, e2, if_true, hx, n0, n1, n2, n3, n4, Option.bind_some, e3, decide_eq_true_eq]
    by_cases m0 : x.f0 ≠ ⟨#[]⟩ ∧ x.f0.size ≤ 24
    case neg => exact Ev.congr (fun k => if_neg m0) (hbad fun q => m0 ⟨(hOk.1 q).1.name, (hOk.1 q).1.size⟩)
    refine Ev.congr (fun k => if_pos m0) ?_
    have hver : (0 < i → lt (rd_T31 l ((i : Int) - 1)).f0 x.f0 = true) → MayP x.f2 → MayP x.f3 → (x.f1 = ⟨#[]⟩ ∨ ∃ y, look l x.f1 = some y) →
        Ev (fun k => if x.f5 < 1 then some false else if x.f5 > 9007199254740992 then some false else if LeP x.f4 x.f2 then (if MayP x.f4 then r10_Right.l0 k l ((i + 1 : Nat) : Int) else some false) else some false) b := fun ho ml mo hpar => by
      by_cases v1 : x.f5 < 1
      · exact Ev.congr (fun k => if_pos v1) (hbad fun q => by have := (hOk.1 q).1.ver; omega)
      refine Ev.congr (fun k => if_neg v1) ?_
      by_cases v2 : x.f5 > 9007199254740992
      · exact Ev.congr (fun k => if_pos v2) (hbad fun q => by have := (hOk.1 q).1.ver; omega)
      refine Ev.congr (fun k => if_neg v2) ?_
      by_cases v3 : LeP x.f4 x.f2
      case neg => exact Ev.congr (fun k => if_neg v3) (hbad fun q => v3 (hOk.1 q).1.fit)
      refine Ev.congr (fun k => if_pos v3) ?_
      by_cases v4 : MayP x.f4
      case neg => exact Ev.congr (fun k => if_neg v4) (hbad fun q => v4 (hOk.1 q).1.sub)
      exact Ev.congr (fun k => if_pos v4) (hnext (hOk.2 ⟨⟨m0.1, m0.2, ml, mo, v4, v3, by omega⟩, ho, hpar⟩))
    have hpar : (0 < i → lt (rd_T31 l ((i : Int) - 1)).f0 x.f0 = true) → Ev (fun k => if MayP x.f2 then (if MayP x.f3 then (if x.f1.toList = ([] : List UInt8) then (if x.f5 < 1 then some false else if x.f5 > 9007199254740992 then some false else if LeP x.f4 x.f2 then (if MayP x.f4 then r10_Right.l0 k l ((i + 1 : Nat) : Int) else some false) else some false) else ((r10_Find.f k l x.f1).bind fun t9 => (if t9 < 0 then some false else (if x.f5 < 1 then some false else if x.f5 > 9007199254740992 then some false else if LeP x.f4 x.f2 then (if MayP x.f4 then r10_Right.l0 k l ((i + 1 : Nat) : Int) else some false) else some false)))) else some false) else some false) b := fun ho => by
      by_cases ml : MayP x.f2
      case neg => exact Ev.congr (fun k => if_neg ml) (hbad fun q => ml (hOk.1 q).1.lim)
      refine Ev.congr (fun k => if_pos ml) ?_
      by_cases mo : MayP x.f3
      case neg => exact Ev.congr (fun k => if_neg mo) (hbad fun q => mo (hOk.1 q).1.own)
      refine Ev.congr (fun k => if_pos mo) ?_
      by_cases hp : x.f1 = ⟨#[]⟩
      · exact Ev.congr (fun k => if_pos (nm_empty.2 hp)) (hver ho ml mo (.inl hp))
      · refine Ev.congr (fun k => if_neg (fun z => hp (nm_empty.1 z))) (Ev.bind (r10_Find_ev l x.f1 (by omega)) ?_)
        by_cases hf : fnd l x.f1 < 0
        · refine Ev.congr (fun k => if_pos hf) (hbad fun q => ?_)
          rcases (hOk.1 q).2.2 with z | ⟨y, hy⟩
          · exact hp z
          · rw [fnd_neg.1 hf] at hy; cases hy
        · exact Ev.congr (fun k => if_neg hf) (hver ho ml mo (.inr (fnd_ge.1 (by omega))))
    by_cases hi0 : (i : Int) > 0
    · have e4 : wrap64 ((i : Int) - 1) = (i : Int) - 1 := w64 (by omega) (by omega)
      have e5 : ((i : Int) > 0) = True := eq_true hi0
      have e6 : (0 ≤ (i : Int) - 1) = True := eq_true (by omega)
      have e7 : ((i : Int) - 1 < (l.length : Int)) = True := eq_true (by omega)
      simp only [e4, e5, e6, e7, if_true]
      by_cases m2 : lt (rd_T31 l ((i : Int) - 1)).f0 x.f0 = true
      · exact Ev.congr (fun k => if_pos m2) (hpar (fun _ => m2))
      · exact Ev.congr (fun k => if_neg m2) (hbad fun q => m2 ((hOk.1 q).2.1 (by omega)))
    · have e5 : ((i : Int) > 0) = False := eq_false hi0
      simp only [e5, if_false]
      exact hpar (fun q => absurd q (by omega))
theorem r10_Right_ev (l : List Item) {b : Bool} (hb : b = true ↔ RightP l) : Ev (fun k => r10_Right.f k l) b := by
  unfold r10_Right.f
  by_cases h : (l.length : Int) > 120
  · refine Ev.congr (fun k => if_pos h) ?_
    cases b with
    | false => exact Ev.now _
    | true => exact absurd (hb.1 rfl).len (by omega)
  · exact Ev.congr (fun k => if_neg h) (r10_full_l0 (by omega) hb _ 0 rfl (by omega) (fun j hj => absurd hj (by omega)))
end Go.Proofs.Ytcgefpklljclgaa.Print

namespace Go.Proofs.Ytcgefpklljclgaa.Print
open Go.RowKit Go.Proofs.YtcgefpklljclgaaW.PrintWords Go.Proofs.YtcgefpklljclgaaW.PrintLast Go.Proofs.YtcgefpklljclgaaW.PrintMore
set_option linter.unusedVariables false
set_option linter.unusedSimpArgs false
/-! more than a statement goes through? -/
theorem great_l0 (l : List Item) : ∀ (d i : Nat), 150 - i = d → i ≤ 150 → i ≤ l.length → ∃ g, Ev (fun k => law12_Great.l0 k l i) g ∧ (g = false → l.length ≤ 130)
  | 0, i, hd, hi, hl => by
    obtain rfl : i = 150 := by omega
    have hj : Ev (fun k => law12_Great.j1 k l ((150 : Nat) : Int) false) (decide ((l.length : Int) > 130)) := by
      refine Ev.step (fun k => law12_Great.j1.eq_2 (k := k) ..) ?_
      simp only [Bool.false_eq_true, if_false]
      exact Ev.now _
    refine ⟨decide ((l.length : Int) > 130), ?_, fun h => by have := of_decide_eq_false h; omega⟩
    refine Ev.step (fun k => law12_Great.l0.eq_2 (k := k) ..) ?_
    rw [show decide (((150 : Nat) : Int) < 150) = false from by decide]
    by_cases h : ((150 : Nat) : Int) < (l.length : Int)
    · exact Ev.congr (fun k => if_pos h) hj
    · exact Ev.congr (fun k => if_neg h) hj
  | d + 1, i, hd, hi, hl => by
    by_cases h : (i : Int) < (l.length : Int)
    · have hj : ∃ g, Ev (fun k => law12_Great.j1 k l (i : Int) true) g ∧ (g = false → l.length ≤ 130) := by
        have e1 : ((0 : Int) ≤ (i : Int)) = True := eq_true (by omega)
        have e2 : ((i : Int) < (l.length : Int)) = True := eq_true h
        have e3 : wrap64 ((i : Int) + 1) = ((i + 1 : Nat) : Int) := by rw [w64 (by omega) (by omega)]; rfl
        by_cases h1 : ((rd_T31 l (i : Int)).f0.size : Int) > 100
        · refine ⟨true, ?_, fun q => by cases q⟩
          refine Ev.step (fun k => law12_Great.j1.eq_2 (k := k) ..) ?_
          simp only [e1, e2, if_true]
          exact Ev.congr (fun k => if_pos h1) (Ev.now _)
        by_cases h2 : ((rd_T31 l (i : Int)).f1.size : Int) > 100
        · refine ⟨true, ?_, fun q => by cases q⟩
          refine Ev.step (fun k => law12_Great.j1.eq_2 (k := k) ..) ?_
          simp only [e1, e2, if_true]
          exact Ev.congr (fun k => (if_neg h1).trans (if_pos h2)) (Ev.now _)
        · obtain ⟨g, hg, hg2⟩ := great_l0 l d (i + 1) (by omega) (by omega) (by omega)
          refine ⟨g, ?_, hg2⟩
          refine Ev.step (fun k => law12_Great.j1.eq_2 (k := k) ..) ?_
          simp only [e1, e2, e3, if_true]
          exact Ev.congr (fun k => (if_neg h1).trans (if_neg h2)) hg
      obtain ⟨g, hg, hg2⟩ := hj
      refine ⟨g, ?_, hg2⟩
      refine Ev.step (fun k => law12_Great.l0.eq_2 (k := k) ..) ?_
      rw [show decide ((i : Int) < 150) = true from decide_eq_true (by omega)]
      exact Ev.congr (fun k => if_pos h) hg
    · refine ⟨decide ((l.length : Int) > 130), ?_, fun h => by have := of_decide_eq_false h; omega⟩
      refine Ev.step (fun k => law12_Great.l0.eq_2 (k := k) ..) ?_
      refine Ev.congr (fun k => if_neg h) ?_
      refine Ev.step (fun k => law12_Great.j1.eq_2 (k := k) ..) ?_
      simp only [Bool.false_eq_true, if_false]
      exact Ev.now _
theorem great_ev (l : List Item) : ∃ g, Ev (fun k => law12_Great.f k l) g ∧ (g = false → l.length ≤ 130) := great_l0 l _ 0 rfl (by omega) (by omega)
/-- the document's answer, true or not -/
theorem r10_Right_some (l : List Item) : ∃ b, Ev (fun k => r10_Right.f k l) b ∧ (b = true ↔ RightP l) := by
  by_cases h : RightP l
  · exact ⟨true, r10_Right_ev l (by simp [h]), by simp [h]⟩
  · exact ⟨false, r10_Right_ev l (by simp [h]), by simp [h]⟩
end Go.Proofs.Ytcgefpklljclgaa.Print

namespace Go.Proofs.Ytcgefpklljclgaa.Print
open Go.RowKit Go.Proofs.YtcgefpklljclgaaW.PrintWords Go.Proofs.YtcgefpklljclgaaW.PrintLast Go.Proofs.YtcgefpklljclgaaW.PrintMore
set_option linter.unusedVariables false
set_option linter.unusedSimpArgs false
def tightB (v : Vec) (x : Item) : Bool := decide ((freeV x).f0 = v.f0 ∨ (freeV x).f1 = v.f1 ∨ (freeV x).f2 = v.f2)
def tightL (ws : List Item) (v : Vec) : List ByteArray := (ws.filter (tightB v)).map (·.f0)
theorem room_tight_eq {ws : List Item} {v : Vec} {x : Item} (h : ItemOK x) : room_looker_tight.f ws v.f0 v.f1 v.f2 x.f0 x.f1 x.f2.f0 x.f2.f1 x.f2.f2 x.f3.f0 x.f3.f1 x.f3.f2 x.f4.f0 x.f4.f1 x.f4.f2 x.f5 = some (tightB v x) := by
  unfold room_looker_tight.f
  rw [room_free_eq h]
  simp only [Option.bind_some]
  unfold tightB
  by_cases h0 : (freeV x).f0 = v.f0
  · rw [if_pos h0]; simp [h0]
  · rw [if_neg h0]
    by_cases h1 : (freeV x).f1 = v.f1
    · rw [if_pos h1]; simp [h1]
    · rw [if_neg h1]
      congr 1
      rw [Bool.eq_iff_iff]
      simp [h0, h1]
theorem room_Tight_l0 (ws : List Item) (v : Vec) (hw : ∀ x ∈ ws, ItemOK x) (hs : ws.length < 1000000) : ∀ (d i : Nat) (acc : List ByteArray), ws.length - i = d → i ≤ ws.length → acc.length ≤ i →
    Ev (fun k => room_Tight.l0 k acc ws ws.length i ws v.f0 v.f1 v.f2) (acc ++ tightL (ws.drop i) v)
  | 0, i, acc, hd, hi, ha => by
    obtain rfl : i = ws.length := by omega
    rw [List.drop_length]
    refine Ev.step (f := fun _ => some acc) (fun k => ?_) (by rw [show acc ++ tightL [] v = acc from List.append_nil _]; exact Ev.now _)
    simp only [room_Tight.l0]
    rw [if_neg (by omega)]
  | d + 1, i, acc, hd, hi, ha => by
    have hlt : i < ws.length := by omega
    have hrd : rd_T31 ws (i : Int) = ws[i] := by rw [rd_item, Int.toNat_natCast]; simp [hlt]
    have hx : ItemOK ws[i] := hw _ (List.getElem_mem hlt)
    rw [List.drop_eq_getElem_cons hlt]
    by_cases ht : tightB v ws[i] = true
    · refine Ev.step (f := fun k => room_Tight.l0 k (acc ++ [ws[i].f0]) ws ws.length ((i + 1 : Nat) : Int) ws v.f0 v.f1 v.f2) (fun k => ?_) ?_
      · simp only [room_Tight.l0]
        rw [if_pos (by omega), if_pos (by omega), if_pos (by omega), hrd, room_tight_eq hx]
        simp only [Option.bind_some]
        rw [if_pos ht, if_pos (by omega), w64 (by omega) (by omega)]
        rfl
      · have := room_Tight_l0 ws v hw hs d (i + 1) (acc ++ [ws[i].f0]) (by omega) (by omega) (by simp; omega)
        rw [show tightL (ws[i] :: ws.drop (i + 1)) v = ws[i].f0 :: tightL (ws.drop (i + 1)) v from by unfold tightL; rw [List.filter_cons_of_pos ht]; rfl]
        rw [List.append_assoc] at this
        exact this
    · refine Ev.step (f := fun k => room_Tight.l0 k acc ws ws.length ((i + 1 : Nat) : Int) ws v.f0 v.f1 v.f2) (fun k => ?_) ?_
      · simp only [room_Tight.l0]
        rw [if_pos (by omega), if_pos (by omega), if_pos (by omega), hrd, room_tight_eq hx]
        simp only [Option.bind_some]
        rw [if_neg ht, w64 (by omega) (by omega)]
        rfl
      · have := room_Tight_l0 ws v hw hs d (i + 1) acc (by omega) (by omega) (by omega)
        rw [show tightL (ws[i] :: ws.drop (i + 1)) v = tightL (ws.drop (i + 1)) v from by unfold tightL; rw [List.filter_cons_of_neg ht]]
        exact this
theorem room_Tight_ev {l : List Item} (hl : RightP l) (n : ByteArray) : Ev (fun k => room_Tight.f k l n) (tightL (ways l n) (roomV l n)) := by
  have hlen := hl.len
  refine Ev.bind (room_made_ev hl n) ?_
  have h := room_Tight_l0 (ways l n) (roomV l n) (right_ways hl n) (by unfold ways; rw [List.length_map]; have := up_len l n; omega) _ 0 [] rfl (by omega) (by simp)
  rw [List.drop_zero, List.nil_append] at h
  exact h
end Go.Proofs.Ytcgefpklljclgaa.Print

namespace Go.Proofs.Ytcgefpklljclgaa.Print
open Go.RowKit Go.Proofs.YtcgefpklljclgaaW.PrintWords Go.Proofs.YtcgefpklljclgaaW.PrintLast Go.Proofs.YtcgefpklljclgaaW.PrintMore
attribute [local go_sem] max2_int min2_int max_two min_two max_three min_three max_four min_four   -- for this text's walks alone
set_option linter.unusedVariables false
set_option linter.unusedSimpArgs false
end Go.Proofs.Ytcgefpklljclgaa.Print

namespace Go.Proofs.Ytcgefpklljclgaa.Print
open Go.RowKit Go.Proofs.YtcgefpklljclgaaW.PrintWords Go.Proofs.YtcgefpklljclgaaW.PrintLast Go.Proofs.YtcgefpklljclgaaW.PrintMore
attribute [local go_sem] max2_int min2_int max_two min_two max_three min_three max_four min_four   -- for this text's walks alone
set_option linter.unusedVariables false
set_option linter.unusedSimpArgs false
attribute [local go_sem high] eqA27
end Go.Proofs.Ytcgefpklljclgaa.Print

namespace Go.Proofs.Ytcgefpklljclgaa.Print
open Go.RowKit Go.Proofs.YtcgefpklljclgaaW.PrintWords Go.Proofs.YtcgefpklljclgaaW.PrintLast Go.Proofs.YtcgefpklljclgaaW.PrintMore
set_option linter.unusedVariables false
set_option linter.unusedSimpArgs false
theorem made_awake_ev : Ev (fun k => law13_awake.f k) true := Ev.of (g := fun k => law13_awake.f k) (fun k => law13_awake.mono k) (k := 20) (by kernel_rfl)
theorem mn_min (a b : Int) : mn a b = min a b := by unfold mn; split <;> omega
theorem r10_free_eq {x : Item} (h : ItemOK x) : r10_free.f x.f0 x.f1 x.f2.f0 x.f2.f1 x.f2.f2 x.f3.f0 x.f3.f1 x.f3.f2 x.f4.f0 x.f4.f1 x.f4.f2 x.f5 = some ((freeV x).f0, (freeV x).f1, (freeV x).f2) := by
  have a0 := h.lim .cpu; have a1 := h.lim .mem; have a2 := h.lim .pods
  have b0 := h.sub .cpu; have b1 := h.sub .mem; have b2 := h.sub .pods
  simp only [Comp.of] at a0 a1 a2 b0 b1 b2
  unfold r10_free.f r10_Sub.f
  rw [w64 (n := x.f2.f0 - x.f4.f0) (by omega) (by omega), w64 (n := x.f2.f1 - x.f4.f1) (by omega) (by omega), w64 (n := x.f2.f2 - x.f4.f2) (by omega) (by omega)]
  rfl
/-- what stands at a place of the way up -/
theorem way_at {l : List Item} (hr : RightP l) {n : ByteArray} {i : Nat} (hi : i < (up l n).length) : ∃ x ∈ l, rdOf ByteArray.empty (up l n) (i : Int) = x.f0 ∧ look l x.f0 = some x ∧ (up l n)[i] = x.f0 := by
  have hm : (up l n)[i] ∈ up l n := List.getElem_mem hi
  obtain ⟨x, hx⟩ := up_in hm
  obtain ⟨h1, h2⟩ := look_mem hx
  exact ⟨x, h1, by simp [rdOf, hi, h2], hr.look h1, h2.symm⟩
theorem ways_drop {l : List Item} (hr : RightP l) {n : ByteArray} {i : Nat} (hi : i < (up l n).length) {x : Item} (hx : look l x.f0 = some x) (e : (up l n)[i] = x.f0) : (ways l n).drop i = x :: (ways l n).drop (i + 1) := by
  unfold ways
  have hi' : i < ((up l n).map (fun u => rd_T31 l (fnd l u))).length := by rw [List.length_map]; exact hi
  rw [List.drop_eq_getElem_cons hi', List.getElem_map, e, fnd_rd hx]
theorem r10_Room_l0 {l : List Item} (hr : RightP l) (n : ByteArray) : ∀ (d i : Nat) (a : Vec), (up l n).length - i = d → i ≤ (up l n).length → Ev (fun k => r10_Room.l0 k l (up l n) i a.f0 a.f1 a.f2) ((leastV ((ways l n).drop i) a).f0, (leastV ((ways l n).drop i) a).f1, (leastV ((ways l n).drop i) a).f2, true)
  | 0, i, a, hd, hi => by
    have : (ways l n).drop i = [] := by rw [List.drop_eq_nil_iff]; unfold ways; rw [List.length_map]; omega
    rw [this]
    refine Ev.step (f := fun _ => some (a.f0, a.f1, a.f2, true)) (fun k => ?_) (Ev.now _)
    rw [r10_Room.l0, if_neg (by omega)]
  | d + 1, i, a, hd, hi => by
    have hlen := hr.len
    have hul := up_len l n
    have hlt : i < (up l n).length := by omega
    obtain ⟨x, hx, hrd, hlk, e⟩ := way_at hr hlt
    rw [ways_drop hr hlt hlk e, least_cons]
    have ih := r10_Room_l0 hr n d (i + 1) (vmin a (freeV x)) (by omega) (by omega)
    have h0 := fnd_ge.2 ⟨_, hlk⟩
    have h1 := fnd_lt l x.f0
    have hg := fnd_rd hlk
    refine Ev.step (f := fun k => (r10_Find.f k l x.f0).bind fun t13 => (if 0 ≤ t13 then (if t13 < (l.length : Int) then ((r10_free.f ((rd_T31 l t13).f0) ((rd_T31 l t13).f1) ((rd_T31 l t13).f2.f0) ((rd_T31 l t13).f2.f1) ((rd_T31 l t13).f2.f2) ((rd_T31 l t13).f3.f0) ((rd_T31 l t13).f3.f1) ((rd_T31 l t13).f3.f2) ((rd_T31 l t13).f4.f0) ((rd_T31 l t13).f4.f1) ((rd_T31 l t13).f4.f2) ((rd_T31 l t13).f5)).bind fun bt15 => (r10_Room.l0 k l (up l n) (wrap64 ((i : Int) + 1)) (mn a.f0 bt15.1) (mn a.f1 bt15.2.1) (mn a.f2 bt15.2.2))) else (none)) else (none))) (fun k => ?_) ?_
    · rw [r10_Room.l0, if_pos (by omega), if_pos (by omega), hrd]
    · refine Ev.bind (r10_Find_ev l x.f0 (by omega)) (Ev.congr (fun k => ?_) ih)
      rw [if_pos h0, if_pos (by omega), hg, r10_free_eq (hr.ok x hx), Option.bind_some, mn_min, mn_min, mn_min, w64 (by omega) (by omega)]
      rfl
theorem vmin_most {v : Vec} (h : MayP v) : vmin most v = v := vec_ext fun c => by
  have := h c
  rw [of_vmin, show c.of most = 1099511627776 from by cases c <;> rfl]; omega
theorem r10_Room_ev {l : List Item} (hr : RightP l) (n : ByteArray) : Ev (fun k => r10_Room.f k l n) (roomR l n) := by
  have hlen := hr.len
  refine Ev.bind (r10_Up_ev l n (by omega)) ?_
  unfold roomR
  cases h : look l n with
  | none =>
    rw [if_pos (show (none : Option Item).isNone = true from rfl)]
    refine Ev.congr (fun k => ?_) (Ev.now _)
    rw [if_pos (by rw [show up l n = [] from upGo_none h _]; rfl)]
  | some z =>
    rw [if_neg (by simp)]
    have hpos : 0 < (up l n).length := List.length_pos_of_mem (up_self h)
    obtain ⟨x, hx, hrd, hlk, e⟩ := way_at hr hpos
    have h0 := fnd_ge.2 ⟨_, hlk⟩
    have h1 := fnd_lt l x.f0
    have hg := fnd_rd hlk
    have ih := r10_Room_l0 hr n _ 1 (freeV x) rfl (by omega)
    have hv : roomV l n = leastV ((ways l n).drop 1) (freeV x) := by
      have := ways_drop hr hpos hlk e
      rw [List.drop_zero] at this
      have h2 : roomV l n = leastV (x :: (ways l n).drop 1) most := congrArg (fun ws => leastV ws most) this
      rw [h2, least_cons, vmin_most (free_may (hr.ok x hx))]
    rw [← hv] at ih
    have hf : Ev (fun k => (r10_Find.f k l x.f0).bind fun t6 => (if 0 ≤ t6 then (if t6 < (l.length : Int) then ((r10_free.f ((rd_T31 l t6).f0) ((rd_T31 l t6).f1) ((rd_T31 l t6).f2.f0) ((rd_T31 l t6).f2.f1) ((rd_T31 l t6).f2.f2) ((rd_T31 l t6).f3.f0) ((rd_T31 l t6).f3.f1) ((rd_T31 l t6).f3.f2) ((rd_T31 l t6).f4.f0) ((rd_T31 l t6).f4.f1) ((rd_T31 l t6).f4.f2) ((rd_T31 l t6).f5)).bind fun bt8 => (r10_Room.l0 k l (up l n) 1 bt8.1 bt8.2.1 bt8.2.2)) else (none)) else (none))) ((roomV l n).f0, (roomV l n).f1, (roomV l n).f2, true) := by
      refine Ev.bind (r10_Find_ev l x.f0 (by omega)) (Ev.congr (fun k => ?_) ih)
      rw [if_pos h0, if_pos (by omega), hg, r10_free_eq (hr.ok x hx), Option.bind_some]
      rfl
    refine Ev.congr (fun k => ?_) hf
    rw [if_neg (by omega), if_pos (by omega), show rdOf ByteArray.empty (up l n) 0 = x.f0 from hrd]
theorem texts_l0 (l : List ByteArray) (hl : l.length < 1000000) : ∀ (d i : Nat), l.length - i = d → i ≤ l.length → Ev (fun k => r1_Texts.l0 k l l i) true
  | 0, i, hd, hi => by
    refine Ev.step (f := fun _ => some true) (fun k => ?_) (Ev.now _)
    rw [r1_Texts.l0, if_neg (by omega)]
  | d + 1, i, hd, hi => by
    refine Ev.step (f := fun k => r1_Texts.l0 k l l ((i + 1 : Nat) : Int)) (fun k => ?_) (texts_l0 l hl d (i + 1) (by omega) (by omega))
    rw [r1_Texts.l0, if_pos (by omega), if_pos (by omega), if_pos (by omega), if_pos rfl, w64 (by omega) (by omega)]
    rfl
theorem texts_refl (l : List ByteArray) (hl : l.length < 1000000) : Ev (fun k => r1_Texts.f k l l) true := Ev.congr (fun k => if_pos rfl) (texts_l0 l hl _ 0 rfl (by omega))
theorem r10_Tight_l0 {l : List Item} (hr : RightP l) (n : ByteArray) (v : Vec) : ∀ (d i : Nat) (acc : List ByteArray), (up l n).length - i = d → i ≤ (up l n).length → acc.length ≤ i → Ev (fun k => r10_Tight.l0 k l (up l n) acc i v.f0 v.f1 v.f2) (acc ++ tightL ((ways l n).drop i) v)
  | 0, i, acc, hd, hi, ha => by
    have : (ways l n).drop i = [] := by rw [List.drop_eq_nil_iff]; unfold ways; rw [List.length_map]; omega
    rw [this]
    refine Ev.step (f := fun _ => some acc) (fun k => ?_) (by rw [show acc ++ tightL [] v = acc from List.append_nil _]; exact Ev.now _)
    rw [r10_Tight.l0, if_neg (by omega)]
  | d + 1, i, acc, hd, hi, ha => by
    have hlen := hr.len
    have hul := up_len l n
    have hlt : i < (up l n).length := by omega
    obtain ⟨x, hx, hrd, hlk, e⟩ := way_at hr hlt
    rw [ways_drop hr hlt hlk e]
    have h0 := fnd_ge.2 ⟨_, hlk⟩
    have h1 := fnd_lt l x.f0
    have hg := fnd_rd hlk
    obtain ⟨K1, hK1⟩ := r10_Find_ev l x.f0 (by omega)
    have hs : acc.length < 8796093022208 := by omega
    have hw : wrap64 ((i : Int) + 1) = ((i + 1 : Nat) : Int) := w64 (by omega) (by omega)
    by_cases ht : tightB v x = true
    · have ih := r10_Tight_l0 hr n v d (i + 1) (acc ++ [x.f0]) (by omega) (by omega) (by simp; omega)
      rw [show tightL (x :: (ways l n).drop (i + 1)) v = x.f0 :: tightL ((ways l n).drop (i + 1)) v from by unfold tightL; rw [List.filter_cons_of_pos ht]; rfl]
      rw [List.append_assoc] at ih
      obtain ⟨K2, hK2⟩ := ih
      have hq : (freeV x).f0 = v.f0 ∨ (freeV x).f1 = v.f1 ∨ (freeV x).f2 = v.f2 := of_decide_eq_true ht
      refine ⟨K1 + K2 + 1, fun k hk => ?_⟩
      obtain ⟨k, rfl⟩ : ∃ m, k = m + 1 := ⟨k - 1, by omega⟩
      have e2 := hK2 k (by omega)
      have e1 := hK1 k (by omega)
      dsimp only at e1 e2 ⊢
      rw [r10_Tight.l0, if_pos (by omega), if_pos (by omega), hrd, e1, Option.bind_some, if_pos h0, if_pos (by omega), hg, r10_free_eq (hr.ok x hx), Option.bind_some, if_pos hs, hw]
      by_cases q0 : (freeV x).f0 = v.f0
      · rw [if_pos q0]; exact e2
      · rw [if_neg q0]
        by_cases q1 : (freeV x).f1 = v.f1
        · rw [if_pos q1]; exact e2
        · rw [if_neg q1, if_pos (by rcases hq with h | h | h <;> first | exact absurd h q0 | exact absurd h q1 | exact h)]; exact e2
    · have ih := r10_Tight_l0 hr n v d (i + 1) acc (by omega) (by omega) (by omega)
      rw [show tightL (x :: (ways l n).drop (i + 1)) v = tightL ((ways l n).drop (i + 1)) v from by unfold tightL; rw [List.filter_cons_of_neg ht]]
      obtain ⟨K2, hK2⟩ := ih
      have hq : ¬ ((freeV x).f0 = v.f0 ∨ (freeV x).f1 = v.f1 ∨ (freeV x).f2 = v.f2) := fun q => ht (decide_eq_true q)
      refine ⟨K1 + K2 + 1, fun k hk => ?_⟩
      obtain ⟨k, rfl⟩ : ∃ m, k = m + 1 := ⟨k - 1, by omega⟩
      have e2 := hK2 k (by omega)
      have e1 := hK1 k (by omega)
      dsimp only at e1 e2 ⊢
      rw [r10_Tight.l0, if_pos (by omega), if_pos (by omega), hrd, e1, Option.bind_some, if_pos h0, if_pos (by omega), hg, r10_free_eq (hr.ok x hx), Option.bind_some, hw]
      rw [if_neg (fun q => hq (.inl q)), if_neg (fun q => hq (.inr (.inl q))), if_neg (fun q => hq (.inr (.inr q)))]
      exact e2
theorem r10_Tight_ev {l : List Item} (hr : RightP l) (n : ByteArray) : Ev (fun k => r10_Tight.f k l n) (tightL (ways l n) (roomV l n)) := by
  have hlen := hr.len
  have hul := up_len l n
  refine Ev.bind (r10_Room_ev hr n) ?_
  refine Ev.bind (r10_Up_ev l n (by omega)) ?_
  unfold roomR
  cases h : look l n with
  | none =>
    rw [if_pos (show (none : Option Item).isNone = true from rfl)]
    have hu : up l n = [] := upGo_none h _
    have hw : ways l n = [] := by unfold ways; rw [hu]; rfl
    rw [hw, hu]
    refine Ev.step (f := fun _ => some []) (fun k => ?_) (Ev.now _)
    rw [r10_Tight.l0, if_neg (by simp)]
  | some z =>
    rw [if_neg (by simp)]
    have ih := r10_Tight_l0 hr n (roomV l n) _ 0 [] rfl (by omega) (by simp)
    rw [List.drop_zero, List.nil_append] at ih
    exact ih
theorem r10_Share_l1 (l : List Item) (ns us : List ByteArray) (hns : ns.length < 1000000) (hus : us.length < 1000000) (i : Nat) (hi : i < l.length) (hl : l.length < 1000000) {x : Item} (hrd : rd_T31 l (i : Int) = x) (v : Vec) {m : Nat} (hv : SmallV v m) (hm : m ≤ 1000) (hx : MayP x.f4) (R : Int × Int × Int) :
    ∀ (d j : Nat) (b : Bool), us.length - j = d → j ≤ us.length → Ev (fun k => r10_Share.l0 k l ns ((i + 1 : Nat) : Int) (if (b || (us.drop j).any (hasStr ns)) = true then v else vadd v x.f4).f0 (if (b || (us.drop j).any (hasStr ns)) = true then v else vadd v x.f4).f1 (if (b || (us.drop j).any (hasStr ns)) = true then v else vadd v x.f4).f2) R → Ev (fun k => r10_Share.l1 k l ns i us b j v.f0 v.f1 v.f2) R
  | 0, j, b, hd, hj, h => by
    have hw : wrap64 ((i : Int) + 1) = ((i + 1 : Nat) : Int) := w64 (by omega) (by omega)
    rw [show us.drop j = [] from List.drop_eq_nil_iff.2 (by omega), List.any_nil, Bool.or_false] at h
    refine Ev.step (fun k => ?_) h
    rw [r10_Share.l1, if_neg (by omega), hw]
    cases b with
    | true => rw [if_pos rfl, if_pos rfl]
    | false =>
      rw [if_neg Bool.false_ne_true, if_pos (by omega), if_pos (by omega), hrd, if_neg Bool.false_ne_true]
      obtain ⟨e0, e1, e2⟩ := small_wrap hv hx hm
      unfold r10_Add.f
      rw [e0, e1, e2]
      rfl
  | d + 1, j, b, hd, hj, h => by
    have hlt : j < us.length := by omega
    have hw : wrap64 ((j : Int) + 1) = ((j + 1 : Nat) : Int) := w64 (by omega) (by omega)
    have hrj : rdOf ByteArray.empty us (j : Int) = us[j] := by simp [rdOf, hlt]
    cases b with
    | true =>
      refine Ev.step (f := fun k => r10_Share.l1 k l ns i us true ((j + 1 : Nat) : Int) v.f0 v.f1 v.f2) (fun k => ?_) (r10_Share_l1 l ns us hns hus i hi hl hrd v hv hm hx R d (j + 1) true (by omega) (by omega) (by simpa using h))
      rw [r10_Share.l1, if_pos (by omega), if_pos rfl, hw]
    | false =>
      rw [List.drop_eq_getElem_cons hlt, List.any_cons, Bool.false_or] at h
      refine Ev.step (f := fun k => (r10_in.f k ns us[j]).bind fun t10 => r10_Share.l1 k l ns i us t10 ((j + 1 : Nat) : Int) v.f0 v.f1 v.f2) (fun k => ?_) (Ev.bind (r10_in_ev ns us[j] hns) (r10_Share_l1 l ns us hns hus i hi hl hrd v hv hm hx R d (j + 1) _ (by omega) (by omega) h))
      rw [r10_Share.l1, if_pos (by omega), if_neg Bool.false_ne_true, if_pos (by omega), hrj, hw]
theorem r10_Share_l0 {l : List Item} (hr : RightP l) (ns : List ByteArray) (hns : ns.length < 1000000) : ∀ (d i : Nat) (v : Vec), l.length - i = d → i ≤ l.length → SmallV v i → Ev (fun k => r10_Share.l0 k l ns i v.f0 v.f1 v.f2) ((addV v ((l.drop i).filter (topB l ns))).f0, (addV v ((l.drop i).filter (topB l ns))).f1, (addV v ((l.drop i).filter (topB l ns))).f2)
  | 0, i, v, hd, hi, hv => by
    obtain rfl : i = l.length := by omega
    rw [List.drop_length, List.filter_nil, addV_nil]
    refine Ev.step (f := fun _ => some (v.f0, v.f1, v.f2)) (fun k => ?_) (Ev.now _)
    rw [r10_Share.l0, if_neg (by omega)]
  | d + 1, i, v, hd, hi, hv => by
    have hlen := hr.len
    have hlt : i < l.length := by omega
    have hrd : rd_T31 l (i : Int) = l[i] := by rw [rd_item, Int.toNat_natCast]; simp [hlt]
    have hm : l[i] ∈ l := List.getElem_mem hlt
    rw [List.drop_eq_getElem_cons hlt]
    generalize l[i] = x at *
    have hx := (hr.ok x hm).sub
    have hul := up_len l x.f0
    have hw : wrap64 ((i : Int) + 1) = ((i + 1 : Nat) : Int) := w64 (by omega) (by omega)
    have hin := r10_in_ev ns x.f0 hns
    refine Ev.step (f := fun k => (r10_in.f k ns x.f0).bind fun t4 => (if t4 = true then ((r10_Up.f k l x.f0).bind fun t6 => (r10_Share.l1 k l ns i t6 false 1 v.f0 v.f1 v.f2)) else (r10_Share.l0 k l ns ((i + 1 : Nat) : Int) v.f0 v.f1 v.f2))) (fun k => ?_) ?_
    · rw [r10_Share.l0, if_pos (by omega), if_pos (by omega), hrd, hw]
    · refine Ev.bind hin ?_
      by_cases hh : hasStr ns x.f0 = true
      · refine Ev.congr (fun k => if_pos hh) (Ev.bind (r10_Up_ev l x.f0 (by omega)) ?_)
        refine r10_Share_l1 l ns (up l x.f0) hns (by omega) i hlt (by omega) hrd v hv (by omega) hx _ _ 1 false rfl (by have := List.length_pos_of_mem (up_self (hr.look hm)); omega) ?_
        rw [Bool.false_or]
        have ht : topB l ns x = !((up l x.f0).drop 1).any (hasStr ns) := by unfold topB; rw [hh, Bool.true_and]
        by_cases ha : ((up l x.f0).drop 1).any (hasStr ns) = true
        · rw [if_pos ha, List.filter_cons_of_neg (by rw [ht, ha]; simp)]
          exact r10_Share_l0 hr ns hns d (i + 1) v (by omega) (by omega) (small_mono hv (by omega))
        · rw [if_neg ha, List.filter_cons_of_pos (by rw [ht]; simpa using ha), addV_cons]
          exact r10_Share_l0 hr ns hns d (i + 1) (vadd v x.f4) (by omega) (by omega) (small_add hv hx)
      · refine Ev.congr (fun k => if_neg hh) ?_
        rw [List.filter_cons_of_neg (by unfold topB; simp [hh])]
        exact r10_Share_l0 hr ns hns d (i + 1) v (by omega) (by omega) (small_mono hv (by omega))
theorem r10_Share_ev {l : List Item} (hr : RightP l) (ns : List ByteArray) (hns : ns.length < 1000000) : Ev (fun k => r10_Share.f k l ns) ((shareV l ns).f0, (shareV l ns).f1, (shareV l ns).f2) := by
  have h := r10_Share_l0 hr ns hns _ 0 ⟨0, 0, 0⟩ rfl (by omega) small_zero
  rw [List.drop_zero] at h
  exact h
end Go.Proofs.Ytcgefpklljclgaa.Print
namespace Go.Proofs.Ytcgefpklljclgaa.Pure
open Go.RowKit Go.Proofs.Ytcgefpklljclgaa.Print Go.Proofs.YtcgefpklljclgaaW.PrintWords Go.Proofs.YtcgefpklljclgaaW.PrintLast
set_option linter.unusedVariables false
set_option linter.unusedSimpArgs false
end Go.Proofs.Ytcgefpklljclgaa.Pure

namespace Go.Proofs.Ytcgefpklljclgaa.Print
open Go.RowKit Go.Proofs.YtcgefpklljclgaaW.PrintWords Go.Proofs.YtcgefpklljclgaaW.PrintLast Go.Proofs.YtcgefpklljclgaaW.PrintMore
set_option linter.unusedVariables false
set_option linter.unusedSimpArgs false
theorem ra_awake_bind : Ev (fun k => (law13_awake.f k).bind fun t => some t) true := Ev.bind made_awake_ev (Ev.now _)
theorem ra_j1 (l : List Item) (n : ByteArray) (ns : List ByteArray) : Ev (fun k => law13_RoomAll.j0 k l n ns true) true := by
  refine Ev.step (fun k => law13_RoomAll.j0.eq_2 (k := k) ..) ?_
  simp only [if_true]
  exact ra_awake_bind
theorem ra_j0 {l : List Item} (hr : RightP l) (n : ByteArray) {ns : List ByteArray} (hns : ns.length ≤ 20) : Ev (fun k => law13_RoomAll.j0 k l n ns false) true := by
  have hlen := hr.len
  have htl : (tightL (Print.ways l n) (roomV l n)).length < 1000000 := by
    unfold tightL Print.ways
    rw [List.length_map]
    have h1 := List.length_filter_le (tightB (roomV l n)) ((Print.up l n).map (fun u => rd_T31 l (fnd l u)))
    rw [List.length_map] at h1
    have := up_len l n
    omega
  refine Ev.step (fun k => law13_RoomAll.j0.eq_2 (k := k) ..) ?_
  simp only [Bool.false_eq_true, if_false]
  refine Ev.bind (room_Of_ev hr n) (Ev.bind (r10_Room_ev hr n) ?_)
  refine Ev.congr (fun k => (if_pos (by simp)).trans (if_pos (by simp))) ?_
  refine Ev.bind (room_Tight_ev hr n) (Ev.bind (r10_Tight_ev hr n) (Ev.bind (texts_refl _ htl) (Ev.congr (fun k => if_pos rfl) ?_)))
  refine Ev.bind (room_Share_ev hr ns (by omega)) (Ev.bind (r10_Share_ev hr ns (by omega)) ?_)
  exact Ev.congr (fun k => if_pos (by simp)) ra_awake_bind
end Go.Proofs.Ytcgefpklljclgaa.Print
namespace Go.Proofs.Ytcgefpklljclgaa.Pure
open Go.RowKit Go.Proofs.Ytcgefpklljclgaa.Print Go.Proofs.YtcgefpklljclgaaW.PrintWords Go.Proofs.YtcgefpklljclgaaW.PrintLast
set_option linter.unusedVariables false
set_option linter.unusedSimpArgs false
theorem RoomAll (l : List Print.Item) (n : ByteArray) (ns : List ByteArray) : ∃ k, law13_RoomAll.f k l n ns = some true := by
  obtain ⟨g, hg, hg2⟩ := great_ev l
  unfold law13_RoomAll.f
  refine Ev.rounds (Ev.bind hg ?_)
  cases g with
  | true => exact Ev.congr (fun k => if_pos rfl) (ra_j1 l n ns)
  | false =>
    refine Ev.congr (fun k => if_neg (by simp)) ?_
    by_cases h : (n.size : Int) > 100
    · exact Ev.congr (fun k => if_pos h) (ra_j1 l n ns)
    refine Ev.congr (fun k => if_neg h) ?_
    by_cases h2 : (ns.length : Int) > 20
    · exact Ev.congr (fun k => if_pos h2) (ra_j1 l n ns)
    refine Ev.congr (fun k => if_neg h2) ?_
    obtain ⟨b, hb, hb2⟩ := r10_Right_some l
    refine Ev.bind hb ?_
    cases b with
    | false => exact ra_j1 l n ns
    | true => exact ra_j0 (hb2.1 rfl) n (by omega)
end Go.Proofs.Ytcgefpklljclgaa.Pure
