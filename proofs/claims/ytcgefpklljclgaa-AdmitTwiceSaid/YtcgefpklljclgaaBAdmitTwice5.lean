/- A part of the proof of AdmitTwice: the machine's side by the kit's print, contracts and lemmas by this session. -/
import Derived.Test.YtcgefpklljclgaaRows
import Derived.WalkKit
import Derived.ProofKit
import Derived.OpenShut
import Derived.JoinedOf
import Derived.SizedLaws
import Derived.ChangeSlices
import Derived.Test.YtcgefpklljclgaaBAdmitTwice1
import Derived.Test.YtcgefpklljclgaaBAdmitTwice4
namespace Go.Proofs.Ytcgefpklljclgaa.Print
open Go.RowKit Go.Proofs.YtcgefpklljclgaaW.PrintWords Go.Proofs.YtcgefpklljclgaaW.PrintLast Go.Proofs.YtcgefpklljclgaaW.PrintMore
attribute [local go_sem] max2_int min2_int max_two min_two max_three min_three max_four min_four   -- for this text's walks alone
set_option linter.unusedVariables false
set_option linter.unusedSimpArgs false
/-! ### room_along: function 156 -/
def room_along.l0 : Nat → List (S31) → List ByteArray → Int → Int → List (S31) → Option ((List (S31)))
 | 0, _, _, _, _, _ => none
 | k + 1, x0, x10, x11, x12, x3000 => if x12 < x11 then (if 0 ≤ x12 then (if x12 < (x10.length : Int) then ((tree_Find.f x0 (rdOf ByteArray.empty x10 x12)).bind fun t7 => (if 0 ≤ t7 then (if t7 < (x0.length : Int) then (if x3000.length < 1256584717458 then (room_along.l0 k x0 x10 x11 (wrap64 (x12 + 1)) (x3000 ++ [(⟨(rd_T31 x0 t7).f0, (rd_T31 x0 t7).f1, (⟨(rd_T31 x0 t7).f2.f0, (rd_T31 x0 t7).f2.f1, (rd_T31 x0 t7).f2.f2⟩ : S27), (⟨(rd_T31 x0 t7).f3.f0, (rd_T31 x0 t7).f3.f1, (rd_T31 x0 t7).f3.f2⟩ : S27), (⟨(rd_T31 x0 t7).f4.f0, (rd_T31 x0 t7).f4.f1, (rd_T31 x0 t7).f4.f2⟩ : S27), (rd_T31 x0 t7).f5⟩ : S31)])) else (none)) else (none)) else (none))) else (none)) else (none)) else (some x3000)
def room_along.f (k : Nat) (l0 : List (S31)) (a1 : ByteArray) : Option ((List (S31))) := (tree_Up.f k l0 a1).bind fun t3 => (room_along.l0 k l0 t3 (t3.length : Int) 0 ([] : List (S31)))
theorem room_along.mono_l : ∀ k, (∀ y0 y1 y2 y3 y4, LeO (room_along.l0 k y0 y1 y2 y3 y4) (room_along.l0 (k + 1) y0 y1 y2 y3 y4))
 | 0 => fun _ _ _ _ _ r h => by simp [room_along.l0] at h
 | k + 1 => by
  have ih0 := room_along.mono_l k
  ·intro y0 y1 y2 y3 y4
   unfold room_along.l0
   repeat' first
   | (with_reducible exact ih0 _ _ _ _ _)
   | (with_reducible exact tree_Up.mono _ _ _)
   | (with_reducible exact LeO.refl _)
   | (with_reducible exact LeO.none _)
   | (with_reducible refine LeO.ite ?_ ?_)
   | (with_reducible refine LeO.bind ?_ (fun _ => ?_))
   | exact ih0 _ _ _ _ _
   | exact tree_Up.mono _ _ _
   | exact LeO.none _
   | refine LeO.ite ?_ ?_
   | refine LeO.bind ?_ (fun _ => ?_)
theorem room_along.mono : ∀ a0 a1 k, LeO (room_along.f k a0 a1) (room_along.f (k + 1) a0 a1) := by
 intro a0 a1 k
 have ih0 := room_along.mono_l k
 unfold room_along.f
 repeat' first
   | (with_reducible exact ih0 _ _ _ _ _)
   | (with_reducible exact tree_Up.mono _ _ _)
   | (with_reducible exact LeO.refl _)
   | (with_reducible exact LeO.none _)
   | (with_reducible refine LeO.ite ?_ ?_)
   | (with_reducible refine LeO.bind ?_ (fun _ => ?_))
   | exact ih0 _ _ _ _ _
   | exact tree_Up.mono _ _ _
   | exact LeO.none _
   | refine LeO.ite ?_ ?_
   | refine LeO.bind ?_ (fun _ => ?_)
def room_along.T5 : Bool × List (List Nat × List Nat) := (true, [([], []), ([0], [0]), ([], []), ([], []), ([], []), ([3, 4], [3, 4]), ([2, 5], [2, 5]), ([6], [6]), ([7], [7]), ([1, 8, 5], [1, 8]), ([0, 1, 2, 3, 4, 5, 6, 7, 8, 9], []), ([10, 9, 9, 0, 1, 2, 3, 4, 5, 6, 7, 8, 9], [9, 10])])
def room_along.B5 : List Nat := [0, 1, 0, 0, 0, 24, 60, 124, 252, 511, 1023, 2047]
theorem room_along.tab5 : rtab .any (opsOf Try.f156 5) = room_along.T5 := by kernel_rfl
theorem room_along.bits5 : waitsOk room_along.T5.2 room_along.B5 = true := by kernel_rfl
set_option maxHeartbeats 8000000 in
set_option maxRecDepth 100000 in
theorem room_along.calls (k : Nat) (A0 : Option Addr) (c0 : Nat) (l0 : List (S31)) (a1 : ByteArray) (r : List (S31)) (w : World) (hr0 : Kd.C k31 w A0 l0.length l0) (hc0 : l0.length ≤ c0) (h : room_along.f k l0 a1 = some r) :
  Calls Try.prog 156 #[.slice A0 l0.length c0, .string a1] w fun e w' => ∃ v0_ : Value, e = .returned (.agg #[v0_]) ∧ Kd.R k31 31 w' w.heap.size (fun _ => True) v0_ r ∧ Below w.heap.size w w' := by
 have hu125 := Try.underlying125
 have hu31 := Try.underlying31
 have HR0 := Aside0.mk hr0
 have HC0 := Aside0.mk hc0
 clear hr0 hc0
 have HB := Aside0.mk (Below.refl w.heap.size w)
 have H : ((tree_Up.f k l0 a1).bind fun t3 => (room_along.l0 k l0 t3 (t3.length : Int) 0 ([] : List (S31)))) = some r := h
 clear h
 replace H := Option.bind_eq_some_iff.mp H
 obtain ⟨t3, A30, H⟩ := H
 replace H : (room_along.l0 k l0 t3 (t3.length : Int) 0 ([] : List (S31))) = some r := H
 have A3 := Aside0.mk A30
 clear A30
 have H' := Aside0.mk H
 clear H
 go_enter Try.func156, Try.ntmps156
 go_wp2_with (first | ((with_reducible refine gate_dst (N := 4) rfl ?_); refine box_event ?hg (N := 4) ?hd (cs := #[.slice none 0 0]) (t := 125) ?hr ?_; (case hd => rfl); (case hg => rfl); (case hr => first | (go_simp; done) | (go_simp; rfl)); intro gb1 hg w4 hbox hb; have n0_ := Aside0.mk (below_step (by repeat (first | (with_reducible first | exact HB.out | apply below_alloc | apply pw_below_drewN | apply below_drew1) | exact HB.out)) hb); have n1_ := Aside0.mk (hbox); have n2_ := Aside0.mk ((by rw [hg]; exact (below_size (by repeat (first | (with_reducible first | exact HB.out | apply below_alloc | apply pw_below_drewN | apply below_drew1) | exact HB.out))) : w.heap.size ≤ gb1)); have n3_ := Aside0.mk ((by rw [hg]; exact (below_size (by repeat (first | (with_reducible first | exact HB.out | apply below_alloc | apply pw_below_drewN | apply below_drew1) | exact HB.out))) : w.heap.size ≤ gb1)); clear HB; have HB := n0_; have BK1 := n1_; have GW1 := n2_; have GE1 := n3_; clear n0_ n1_ n2_ n3_; clear hb hbox hg) | ((with_reducible refine gate_dst (N := 5) rfl ?_); refine box_event ?hg (N := 5) ?hd (cs := #[.slice none 0 0]) (t := 125) ?hr ?_; (case hd => rfl); (case hg => rfl); (case hr => first | (go_simp; done) | (go_simp; rfl)); intro gb2 hg w5 hbox hb; have n0_ := Aside0.mk (blk_below (g := gb1) (o := .cells #[.slice none 0 0] 125 (0, 0)) (by (with_reducible repeat (first | refine blk_drewN ?_ _ | refine blk_drew ?_ | refine blk_alloc ?_ _)); exact BK1.out) hb); have n1_ := Aside0.mk (below_step (by repeat (first | (with_reducible first | exact HB.out | apply below_alloc | apply pw_below_drewN | apply below_drew1 | refine below_set ?_ GE1.out) | exact HB.out)) hb); have n2_ := Aside0.mk (hbox); have n3_ := Aside0.mk ((by rw [hg]; exact (below_size (by repeat (first | (with_reducible first | exact HB.out | apply below_alloc | apply pw_below_drewN | apply below_drew1 | refine below_set ?_ GE1.out) | exact HB.out))) : w.heap.size ≤ gb2)); have n4_ := Aside0.mk ((by rw [hg]; exact (below_size (by repeat (first | (with_reducible first | exact HB.out | apply below_alloc | apply pw_below_drewN | apply below_drew1 | refine below_set ?_ GE1.out) | exact HB.out))) : w.heap.size ≤ gb2)); have n5_ := Aside0.mk ((by rw [hg]; exact Nat.ne_of_lt (blk_lt (g := gb1) (o := .cells #[.slice none 0 0] 125 (0, 0)) (by (with_reducible repeat (first | refine blk_drewN ?_ _ | refine blk_drew ?_ | refine blk_alloc ?_ _)); exact BK1.out)) : gb1 ≠ gb2)); have n6_ := Aside0.mk ((by rw [hg]; exact Nat.ne_of_gt (blk_lt (g := gb1) (o := .cells #[.slice none 0 0] 125 (0, 0)) (by (with_reducible repeat (first | refine blk_drewN ?_ _ | refine blk_drew ?_ | refine blk_alloc ?_ _)); exact BK1.out)) : gb2 ≠ gb1)); clear BK1; clear HB; have BK1 := n0_; have HB := n1_; have BK2 := n2_; have GW2 := n3_; have GE2 := n4_; have NB1_2 := n5_; have NB2_1 := n6_; clear n0_ n1_ n2_ n3_ n4_ n5_ n6_; clear hb hbox hg) | ((with_reducible refine gate_callee (f := 70) rfl ?_); refine goesL_ (some 10) rfl rfl Try.func70 (by kernel_rfl) rfl #[.slice A0 l0.length c0, .string a1] rfl (by (try simp only [List.map_toArray, List.map_cons, List.map_nil]); first | done | rfl | (simp only [List.length_drop, List.length_take]; rfl)) ?_; (with_reducible refine (tree_Up.calls k _ _ l0 a1 t3 _ ?side1 ?side2 A3.out).mono ?_); (case side1 => repeat (first | exact (Kd.C_below HR0.out HB.out) | (with_reducible refine Kd.C_alloc ?_ _) | (with_reducible refine Kd.C_drewN ?_ _) | (with_reducible refine Kd.C_drew ?_))); (case side2 => exact HC0.out); rintro e w6 ⟨v4, rfl, ho0, hb⟩; refine ⟨_, rfl, ?_⟩; have n0_ := Aside0.mk (Kd.R_lower ho0 (below_size (by repeat (first | (with_reducible first | exact HB.out | apply below_alloc | apply pw_below_drewN | apply below_drew1 | refine below_set ?_ GE1.out | refine below_set ?_ GE2.out) | exact HB.out)))); have n1_ := Aside0.mk (blk_below (g := gb1) (o := .cells #[.slice none 0 0] 125 (0, 0)) (by (with_reducible repeat (first | refine blk_drewN ?_ _ | refine blk_drew ?_ | refine blk_alloc ?_ _)); exact BK1.out) hb); have n2_ := Aside0.mk (blk_below (g := gb2) (o := .cells #[.slice none 0 0] 125 (0, 0)) (by (with_reducible repeat (first | refine blk_drewN ?_ _ | refine blk_drew ?_ | refine blk_alloc ?_ _)); exact BK2.out) hb); have n3_ := Aside0.mk (below_step (by repeat (first | (with_reducible first | exact HB.out | apply below_alloc | apply pw_below_drewN | apply below_drew1 | refine below_set ?_ GE1.out | refine below_set ?_ GE2.out) | exact HB.out)) hb); clear BK1; clear BK2; clear HB; have HO5 := n0_; have BK1 := n1_; have BK2 := n2_; have HB := n3_; clear n0_ n1_ n2_ n3_; (try clear hb); (try clear hb2); (try clear hk); (try clear hi); (try clear ho0); obtain ⟨Ao7, co7, eo7⟩ := Kd.R_slice HO5.out; subst eo7))
 go_loopg [12] k (fun kq v12 w' => ∃ (x12_1 : Int) (x3000_1 : List (S31)) (u3000 : Value), v12 = .int .i64 x12_1 ∧ Aside0 (room_along.l0 kq l0 t3 (t3.length : Int) x12_1 x3000_1 = some r) ∧ Aside0 (kq ≤ k) ∧ Aside0 (Kd.R Kd.string 9 w' w.heap.size (fun _ => True) (.slice Ao7 t3.length co7) t3) ∧ Aside0 (Kd.R k31 31 w' w.heap.size (fun _ => True) u3000 x3000_1) ∧ Aside0 (w'.heap[gb1]? = some (.cells #[(.slice none 0 0)] 125 (0, 0))) ∧ Aside0 (w'.heap[gb2]? = some (.cells #[u3000] 125 (0, 0))) ∧ Aside0 (Below w.heap.size w w'))
 case atStart => exact ⟨(0), (([] : List (S31))), (.slice none 0 0), (by first | rfl | (simp; done) | (simp [*]; done)), H', ⟨Nat.le_refl _⟩, ⟨by (with_reducible repeat (first | apply Kd.R_alloc | apply Kd.R_drewN | apply Kd.R_drew)); exact HO5.out⟩, ⟨by first | exact Kd.R_nil _ _ _ _ _ | exact Kd.N_nil _ _ _ _ _ | exact Kd.V_nil _ _ _ _ _ | exact Kd.Q_nil _ _ _ _ _ | exact Kd.S_nil _ _ _ _ _⟩, ⟨by (with_reducible repeat (first | refine blk_drewN ?_ _ | refine blk_drew ?_ | refine blk_alloc ?_ _)); exact BK1.out⟩, ⟨by (with_reducible repeat (first | refine blk_drewN ?_ _ | refine blk_drew ?_ | refine blk_alloc ?_ _)); exact BK2.out⟩, ⟨by repeat (first | (with_reducible first | exact HB.out | apply below_alloc | apply pw_below_drewN | apply below_drew1 | refine below_set ?_ GE1.out | refine below_set ?_ GE2.out) | exact HB.out)⟩⟩
 case round =>
  clear H'
  try clear c1
  try clear p2
  try clear c7
  obtain ⟨x12_1, x3000_1, u3000, rfl, HA, HK1, HO_10, HO_3000, BK1, BK2, HB⟩ := hrel
  cases gk with
  | zero => exact absurd HA.out (by simp [room_along.l0])
  | succ k1 =>
   have H := HA.out
   clear HA
   simp only [room_along.l0] at H
   by_cases c8 : x12_1 < (t3.length : Int)
   ·rw [if_pos c8] at H
    have c8b0 : decide (x12_1 < (t3.length : Int)) = true := decide_eq_true c8
    clear c8
    by_cases c9 : 0 ≤ x12_1
    ·rw [if_pos c9] at H
     have c9b0 : decide (0 ≤ x12_1) = true := decide_eq_true c9
     clear c9
     by_cases c10 : x12_1 < (t3.length : Int)
     ·rw [if_pos c10] at H
      have c10b0 : decide (x12_1 < (t3.length : Int)) = true := decide_eq_true c10
      clear c10
      replace H := Option.bind_eq_some_iff.mp H
      obtain ⟨t7, A110, H⟩ := H
      replace H : (if 0 ≤ t7 then (if t7 < (l0.length : Int) then (if x3000_1.length < 1256584717458 then (room_along.l0 k1 l0 t3 (t3.length : Int) (wrap64 (x12_1 + 1)) (x3000_1 ++ [(⟨(rd_T31 l0 t7).f0, (rd_T31 l0 t7).f1, (⟨(rd_T31 l0 t7).f2.f0, (rd_T31 l0 t7).f2.f1, (rd_T31 l0 t7).f2.f2⟩ : S27), (⟨(rd_T31 l0 t7).f3.f0, (rd_T31 l0 t7).f3.f1, (rd_T31 l0 t7).f3.f2⟩ : S27), (⟨(rd_T31 l0 t7).f4.f0, (rd_T31 l0 t7).f4.f1, (rd_T31 l0 t7).f4.f2⟩ : S27), (rd_T31 l0 t7).f5⟩ : S31)])) else (none)) else (none)) else (none)) = some r := H
      have A11 := Aside0.mk A110
      clear A110
      by_cases c12 : 0 ≤ t7
      ·rw [if_pos c12] at H
       have c12b0 : decide (0 ≤ t7) = true := decide_eq_true c12
       clear c12
       by_cases c13 : t7 < (l0.length : Int)
       ·rw [if_pos c13] at H
        have c13b0 : decide (t7 < (l0.length : Int)) = true := decide_eq_true c13
        clear c13
        by_cases c14 : x3000_1.length < 1256584717458
        ·rw [if_pos c14] at H
         have LMc14 := Aside0.mk c14
         clear c14
         obtain ⟨y9, hy9⟩ : ∃ y_ : List (S31), y_ = (x3000_1 ++ [(⟨(rd_T31 l0 t7).f0, (rd_T31 l0 t7).f1, (⟨(rd_T31 l0 t7).f2.f0, (rd_T31 l0 t7).f2.f1, (rd_T31 l0 t7).f2.f2⟩ : S27), (⟨(rd_T31 l0 t7).f3.f0, (rd_T31 l0 t7).f3.f1, (rd_T31 l0 t7).f3.f2⟩ : S27), (⟨(rd_T31 l0 t7).f4.f0, (rd_T31 l0 t7).f4.f1, (rd_T31 l0 t7).f4.f2⟩ : S27), (rd_T31 l0 t7).f5⟩ : S31)]) := ⟨_, rfl⟩
         replace H : (room_along.l0 k1 l0 t3 (t3.length : Int) (wrap64 (x12_1 + 1)) y9) = some r := by first | (rw [hy9]; with_reducible exact H) | (have H2_ := (Option.bind_some _ _).symm.trans H; rw [hy9]; with_reducible exact H2_) | (have H2_ := (Option.bind_some _ _).symm.trans H; with_reducible exact H2_) | with_reducible exact H | (rw [hy9]; exact H) | exact H
         have Ny9 := Aside0.mk hy9
         clear hy9
         have H' := Aside0.mk H
         clear H
         have p6 : 0 ≤ (x12_1 : Int) := of_decide_eq_true (by first | (with_reducible assumption) | assumption)
         have q6 : x12_1 < (t3.length : Int) := of_decide_eq_true (by first | (with_reducible assumption) | assumption)
         obtain ⟨ad6, e6, hx6_0⟩ := Kd.at_string (Kd.R_reads' HO_10.out).2.2 x12_1 p6 q6
         cases e6
         replace p6 := eq_true p6
         replace q6 := eq_true q6
         try go_wp2
         have n0_ := Aside0.mk (Kd.R_drew HO_10.out)
         have n1_ := Aside0.mk (Kd.R_drew HO_3000.out)
         have n2_ := Aside0.mk (blk_drew BK1.out)
         have n3_ := Aside0.mk (blk_drew BK2.out)
         have n4_ := Aside0.mk (below_drew1 HB.out)
         clear HO_10
         clear HO_3000
         clear BK1
         clear BK2
         clear HB
         have HO_10 := n0_
         have HO_3000 := n1_
         have BK1 := n2_
         have BK2 := n3_
         have HB := n4_
         clear n0_ n1_ n2_ n3_ n4_
         have p8 : 0 ≤ (t7 : Int) := of_decide_eq_true (by first | (with_reducible assumption) | assumption)
         have q8 : t7 < (l0.length : Int) := of_decide_eq_true (by first | (with_reducible assumption) | assumption)
         obtain ⟨ad8, e8, hx8_0, hx8_1, hx8_2, hx8_3, hx8_4, hx8_5, hx8_6, hx8_7, hx8_8, hx8_9, hx8_10, hx8_11⟩ := at_T31 HR0.out t7 p8 q8
         have hw8_11 := hx8_11
         have hw8_10 := hx8_10
         have hw8_9 := hx8_9
         have hw8_8 := hx8_8
         have hw8_7 := hx8_7
         have hw8_6 := hx8_6
         have hw8_5 := hx8_5
         have hw8_4 := hx8_4
         have hw8_3 := hx8_3
         have hw8_2 := hx8_2
         have hw8_1 := hx8_1
         have hw8_0 := hx8_0
         cases e8
         replace hx8_0 := (HB.out.cell (World.block_lt_of_cell? w _ hx8_0)).trans hx8_0
         replace hx8_1 := (HB.out.cell (World.block_lt_of_cell? w _ hx8_1)).trans hx8_1
         replace hx8_2 := (HB.out.cell (World.block_lt_of_cell? w _ hx8_2)).trans hx8_2
         replace hx8_3 := (HB.out.cell (World.block_lt_of_cell? w _ hx8_3)).trans hx8_3
         replace hx8_4 := (HB.out.cell (World.block_lt_of_cell? w _ hx8_4)).trans hx8_4
         replace hx8_5 := (HB.out.cell (World.block_lt_of_cell? w _ hx8_5)).trans hx8_5
         replace hx8_6 := (HB.out.cell (World.block_lt_of_cell? w _ hx8_6)).trans hx8_6
         replace hx8_7 := (HB.out.cell (World.block_lt_of_cell? w _ hx8_7)).trans hx8_7
         replace hx8_8 := (HB.out.cell (World.block_lt_of_cell? w _ hx8_8)).trans hx8_8
         replace hx8_9 := (HB.out.cell (World.block_lt_of_cell? w _ hx8_9)).trans hx8_9
         replace hx8_10 := (HB.out.cell (World.block_lt_of_cell? w _ hx8_10)).trans hx8_10
         replace hx8_11 := (HB.out.cell (World.block_lt_of_cell? w _ hx8_11)).trans hx8_11
         replace p8 := eq_true p8
         replace q8 := eq_true q8
         refine start_ (n := 12) (S := fun w' => w'.cell? ⟨gb2, 0, none⟩ = some (u3000) ∧ w'.cell? (ad8.add ((t7).toNat * 12)) = some (.string ((rd_T31 l0 t7).f0)) ∧ w'.cell? ⟨(ad8.add ((t7).toNat * 12)).block, (ad8.add ((t7).toNat * 12)).off + 1, none⟩ = some (.string ((rd_T31 l0 t7).f1)) ∧ w'.cell? ⟨(ad8.add ((t7).toNat * 12)).block, (ad8.add ((t7).toNat * 12)).off + 2, none⟩ = some (.int .i64 ((rd_T31 l0 t7).f2.f0)) ∧ w'.cell? ⟨(ad8.add ((t7).toNat * 12)).block, (ad8.add ((t7).toNat * 12)).off + 3, none⟩ = some (.int .i64 ((rd_T31 l0 t7).f2.f1)) ∧ w'.cell? ⟨(ad8.add ((t7).toNat * 12)).block, (ad8.add ((t7).toNat * 12)).off + 4, none⟩ = some (.int .i64 ((rd_T31 l0 t7).f2.f2)) ∧ w'.cell? ⟨(ad8.add ((t7).toNat * 12)).block, (ad8.add ((t7).toNat * 12)).off + 5, none⟩ = some (.int .i64 ((rd_T31 l0 t7).f3.f0)) ∧ w'.cell? ⟨(ad8.add ((t7).toNat * 12)).block, (ad8.add ((t7).toNat * 12)).off + 6, none⟩ = some (.int .i64 ((rd_T31 l0 t7).f3.f1)) ∧ w'.cell? ⟨(ad8.add ((t7).toNat * 12)).block, (ad8.add ((t7).toNat * 12)).off + 7, none⟩ = some (.int .i64 ((rd_T31 l0 t7).f3.f2)) ∧ w'.cell? ⟨(ad8.add ((t7).toNat * 12)).block, (ad8.add ((t7).toNat * 12)).off + 8, none⟩ = some (.int .i64 ((rd_T31 l0 t7).f4.f0)) ∧ w'.cell? ⟨(ad8.add ((t7).toNat * 12)).block, (ad8.add ((t7).toNat * 12)).off + 9, none⟩ = some (.int .i64 ((rd_T31 l0 t7).f4.f1)) ∧ w'.cell? ⟨(ad8.add ((t7).toNat * 12)).block, (ad8.add ((t7).toNat * 12)).off + 10, none⟩ = some (.int .i64 ((rd_T31 l0 t7).f4.f2)) ∧ w'.cell? ⟨(ad8.add ((t7).toNat * 12)).block, (ad8.add ((t7).toNat * 12)).off + 11, none⟩ = some (.int .i64 ((rd_T31 l0 t7).f5))) (ds := [11]) #[false, false, false, false, false, false, false, false, false, false, false, false] (by kernel_rfl) rfl rfl ⟨(blk_cell BK2.out 0).trans rfl, ((HB.out.cell (World.block_lt_of_cell? w _ hw8_0)).trans hw8_0), ((HB.out.cell (World.block_lt_of_cell? w _ hw8_1)).trans hw8_1), ((HB.out.cell (World.block_lt_of_cell? w _ hw8_2)).trans hw8_2), ((HB.out.cell (World.block_lt_of_cell? w _ hw8_3)).trans hw8_3), ((HB.out.cell (World.block_lt_of_cell? w _ hw8_4)).trans hw8_4), ((HB.out.cell (World.block_lt_of_cell? w _ hw8_5)).trans hw8_5), ((HB.out.cell (World.block_lt_of_cell? w _ hw8_6)).trans hw8_6), ((HB.out.cell (World.block_lt_of_cell? w _ hw8_7)).trans hw8_7), ((HB.out.cell (World.block_lt_of_cell? w _ hw8_8)).trans hw8_8), ((HB.out.cell (World.block_lt_of_cell? w _ hw8_9)).trans hw8_9), ((HB.out.cell (World.block_lt_of_cell? w _ hw8_10)).trans hw8_10), ((HB.out.cell (World.block_lt_of_cell? w _ hw8_11)).trans hw8_11)⟩ (fun hHeld => ?_); refine with_tabW room_along.tab5 room_along.bits5 (fun HT_ HW_ => ?_)
         generalize wr.drew = w15 at HO_10 HO_3000 BK1 BK2 HB hx8_0 hx8_1 hx8_10 hx8_11 hx8_2 hx8_3 hx8_4 hx8_5 hx8_6 hx8_7 hx8_8 hx8_9 hHeld ⊢
         refine pure_ (i := 0) (N := some 16) (v := ?_) (a' := ?_) #[true, false, false, false, false, false, false, false, false, false, false, false] rfl rfl (any_of HT_.out (by kernel_rfl)) (fun _ _ _ h => h) (Or.inl ⟨by rfl, ?_⟩) ?_ ?_
         rotate_left
         ·intro w'
          go_simp
          with_reducible rfl
         rotate_left
         ·simp only [Act.put, List.setIfInBounds_toArray, List.set_cons_zero, List.set_cons_succ, i64_w, i32_w]
          rfl
         refine pure_ (i := 2) (N := some 18) (v := ?_) (a' := ?_) #[true, false, true, false, false, false, false, false, false, false, false, false] rfl rfl (any_of HT_.out (by kernel_rfl)) (fun _ _ _ h => h) (Or.inl ⟨by rfl, ?_⟩) ?_ ?_
         rotate_left
         ·intro w'
          go_simp
          with_reducible rfl
         rotate_left
         ·simp only [Act.put, List.setIfInBounds_toArray, List.set_cons_zero, List.set_cons_succ, i64_w, i32_w]
          rfl
         refine pure_ (i := 3) (N := some 19) (v := ?_) (a' := ?_) #[true, false, true, true, false, false, false, false, false, false, false, false] rfl rfl (any_of HT_.out (by kernel_rfl)) (fun _ _ _ h => h) (Or.inl ⟨by rfl, ?_⟩) ?_ ?_
         rotate_left
         ·intro w'
          go_simp
          with_reducible rfl
         rotate_left
         ·simp only [Act.put, List.setIfInBounds_toArray, List.set_cons_zero, List.set_cons_succ, i64_w, i32_w]
          rfl
         refine pure_ (i := 4) (N := some 20) (v := ?_) (a' := ?_) #[true, false, true, true, true, false, false, false, false, false, false, false] rfl rfl (any_of HT_.out (by kernel_rfl)) (fun _ _ _ h => h) (Or.inl ⟨by rfl, ?_⟩) ?_ ?_
         rotate_left
         ·intro w'
          go_simp
          with_reducible rfl
         rotate_left
         ·simp only [Act.put, List.setIfInBounds_toArray, List.set_cons_zero, List.set_cons_succ, i64_w, i32_w]
          rfl
         refine take_ (i := 1) (N := some 17) (v := ?_) (a' := ?_) #[true, true, true, true, true, false, false, false, false, false, false, false] rfl rfl (take_ofW HT_.out HW_.out (by kernel_rfl)) (fun _ _ _ h => h) (Or.inl ⟨by rfl, ?_⟩) hHeld ?_ ?_
         rotate_left
         ·rintro w' ⟨s0, s1, s2, s3, s4, s5, s6, s7, s8, s9, s10, s11, s12⟩
          go_simp
          with_reducible rfl
         rotate_left
         ·simp only [Act.put, List.setIfInBounds_toArray, List.set_cons_zero, List.set_cons_succ, i64_w, i32_w]
          rfl
         refine one_ (i := 5) (N := some 21) #[true, true, true, true, true, true, false, false, false, false, false, false] rfl rfl (one_of HT_.out (by kernel_rfl)) (by decide) (fun K hK => ?_)
         refine goes_ Try.func71 (by kernel_rfl) rfl #[.slice (some ad8) l0.length c0, .string (rdOf ByteArray.empty t3 x12_1)] (by rfl) rfl rfl (by (try simp only [List.map_toArray, List.map_cons, List.map_nil]); first | done | rfl | (simp only [List.length_drop, List.length_take]; rfl)) ?_
         with_reducible refine (tree_Find.calls _ _ l0 (rdOf ByteArray.empty t3 x12_1) t7 _ ?side1 ?side2 A11.out).mono ?_
         (case side1 => repeat (first | exact (Kd.C_below HR0.out HB.out) | (with_reducible refine Kd.C_alloc ?_ _) | (with_reducible refine Kd.C_drewN ?_ _) | (with_reducible refine Kd.C_drew ?_)))
         (case side2 => exact HC0.out)
         rintro e w16 ⟨rfl, hb⟩
         refine ⟨_, rfl, ?_⟩
         have n0_ := Aside0.mk (Kd.R_below (by (with_reducible repeat (first | apply Kd.R_alloc | apply Kd.R_drewN | apply Kd.R_drew)); exact HO_10.out) hb)
         have n1_ := Aside0.mk (Kd.R_below (by (with_reducible repeat (first | apply Kd.R_alloc | apply Kd.R_drewN | apply Kd.R_drew)); exact HO_3000.out) hb)
         have n2_ := Aside0.mk (blk_below (g := gb1) (o := .cells #[.slice none 0 0] 125 (0, 0)) (by (with_reducible repeat (first | refine blk_drewN ?_ _ | refine blk_drew ?_ | refine blk_alloc ?_ _)); exact BK1.out) hb)
         have n3_ := Aside0.mk (blk_below (g := gb2) (o := .cells #[u3000] 125 (0, 0)) (by (with_reducible repeat (first | refine blk_drewN ?_ _ | refine blk_drew ?_ | refine blk_alloc ?_ _)); exact BK2.out) hb)
         have n4_ := Aside0.mk (below_step (by repeat (first | (with_reducible first | exact HB.out | apply below_alloc | apply pw_below_drewN | apply below_drew1 | refine below_set ?_ GE1.out | refine below_set ?_ GE2.out) | exact HB.out)) hb)
         clear HO_10
         clear HO_3000
         clear BK1
         clear BK2
         clear HB
         have HO_10 := n0_
         have HO_3000 := n1_
         have BK1 := n2_
         have BK2 := n3_
         have HB := n4_
         clear n0_ n1_ n2_ n3_ n4_
         (try clear hb)
         (try clear hb2)
         (try clear hk)
         (try clear hi)
         refine hK.out _ _ ⟨(blk_cell BK2.out 0).trans rfl, ((HB.out.cell (World.block_lt_of_cell? w _ hw8_0)).trans hw8_0), ((HB.out.cell (World.block_lt_of_cell? w _ hw8_1)).trans hw8_1), ((HB.out.cell (World.block_lt_of_cell? w _ hw8_2)).trans hw8_2), ((HB.out.cell (World.block_lt_of_cell? w _ hw8_3)).trans hw8_3), ((HB.out.cell (World.block_lt_of_cell? w _ hw8_4)).trans hw8_4), ((HB.out.cell (World.block_lt_of_cell? w _ hw8_5)).trans hw8_5), ((HB.out.cell (World.block_lt_of_cell? w _ hw8_6)).trans hw8_6), ((HB.out.cell (World.block_lt_of_cell? w _ hw8_7)).trans hw8_7), ((HB.out.cell (World.block_lt_of_cell? w _ hw8_8)).trans hw8_8), ((HB.out.cell (World.block_lt_of_cell? w _ hw8_9)).trans hw8_9), ((HB.out.cell (World.block_lt_of_cell? w _ hw8_10)).trans hw8_10), ((HB.out.cell (World.block_lt_of_cell? w _ hw8_11)).trans hw8_11)⟩ (fun hHeld => ?_)
         clear hK K
         refine norm_ (a' := ?_) ?_ ?_
         rotate_left
         ·show Act.put _ (some 21) _ = _
          simp only [Act.put, List.setIfInBounds_toArray, List.set_cons_zero, List.set_cons_succ, i64_w, i32_w]
          rfl
         refine pure_ (i := 6) (N := some 22) (v := ?_) (a' := ?_) #[true, true, true, true, true, true, true, false, false, false, false, false] rfl rfl (any_of HT_.out (by kernel_rfl)) (fun _ _ _ h => h) (Or.inl ⟨by rfl, ?_⟩) ?_ ?_
         rotate_left
         ·intro w'
          go_simp
          with_reducible rfl
         rotate_left
         ·simp only [Act.put, List.setIfInBounds_toArray, List.set_cons_zero, List.set_cons_succ, i64_w, i32_w]
          rfl
         refine take_ (i := 7) (N := some 23) (v := ?_) (a' := ?_) #[true, true, true, true, true, true, true, true, false, false, false, false] rfl rfl (take_ofW HT_.out HW_.out (by kernel_rfl)) (fun _ _ _ h => h) (Or.inl ⟨by rfl, ?_⟩) hHeld ?_ ?_
         rotate_left
         ·rintro w' ⟨s0, s1, s2, s3, s4, s5, s6, s7, s8, s9, s10, s11, s12⟩
          go_simp
          with_reducible rfl
         rotate_left
         ·simp only [Act.put, List.setIfInBounds_toArray, List.set_cons_zero, List.set_cons_succ, i64_w, i32_w]
          rfl
         refine one_ (i := 8) (N := some 24) #[true, true, true, true, true, true, true, true, true, false, false, false] rfl rfl (one_of HT_.out (by kernel_rfl)) (by decide) (fun K hK => ?_)
         refine value_ (w1 := ?_) (v := ?_) (by rfl) rfl ?_ ?_
         rotate_left 2
         ·go_simp
          constructor
          ·rfl
          ·rfl
         refine hK.out _ _ ⟨(blk_cell (blk_alloc BK2.out _) 0).trans rfl, (World.cell?_alloc_lt _ _ _ (World.block_lt_of_cell? _ _ (((HB.out.cell (World.block_lt_of_cell? w _ hw8_0)).trans hw8_0)))).trans (((HB.out.cell (World.block_lt_of_cell? w _ hw8_0)).trans hw8_0)), (World.cell?_alloc_lt _ _ _ (World.block_lt_of_cell? _ _ (((HB.out.cell (World.block_lt_of_cell? w _ hw8_1)).trans hw8_1)))).trans (((HB.out.cell (World.block_lt_of_cell? w _ hw8_1)).trans hw8_1)), (World.cell?_alloc_lt _ _ _ (World.block_lt_of_cell? _ _ (((HB.out.cell (World.block_lt_of_cell? w _ hw8_2)).trans hw8_2)))).trans (((HB.out.cell (World.block_lt_of_cell? w _ hw8_2)).trans hw8_2)), (World.cell?_alloc_lt _ _ _ (World.block_lt_of_cell? _ _ (((HB.out.cell (World.block_lt_of_cell? w _ hw8_3)).trans hw8_3)))).trans (((HB.out.cell (World.block_lt_of_cell? w _ hw8_3)).trans hw8_3)), (World.cell?_alloc_lt _ _ _ (World.block_lt_of_cell? _ _ (((HB.out.cell (World.block_lt_of_cell? w _ hw8_4)).trans hw8_4)))).trans (((HB.out.cell (World.block_lt_of_cell? w _ hw8_4)).trans hw8_4)), (World.cell?_alloc_lt _ _ _ (World.block_lt_of_cell? _ _ (((HB.out.cell (World.block_lt_of_cell? w _ hw8_5)).trans hw8_5)))).trans (((HB.out.cell (World.block_lt_of_cell? w _ hw8_5)).trans hw8_5)), (World.cell?_alloc_lt _ _ _ (World.block_lt_of_cell? _ _ (((HB.out.cell (World.block_lt_of_cell? w _ hw8_6)).trans hw8_6)))).trans (((HB.out.cell (World.block_lt_of_cell? w _ hw8_6)).trans hw8_6)), (World.cell?_alloc_lt _ _ _ (World.block_lt_of_cell? _ _ (((HB.out.cell (World.block_lt_of_cell? w _ hw8_7)).trans hw8_7)))).trans (((HB.out.cell (World.block_lt_of_cell? w _ hw8_7)).trans hw8_7)), (World.cell?_alloc_lt _ _ _ (World.block_lt_of_cell? _ _ (((HB.out.cell (World.block_lt_of_cell? w _ hw8_8)).trans hw8_8)))).trans (((HB.out.cell (World.block_lt_of_cell? w _ hw8_8)).trans hw8_8)), (World.cell?_alloc_lt _ _ _ (World.block_lt_of_cell? _ _ (((HB.out.cell (World.block_lt_of_cell? w _ hw8_9)).trans hw8_9)))).trans (((HB.out.cell (World.block_lt_of_cell? w _ hw8_9)).trans hw8_9)), (World.cell?_alloc_lt _ _ _ (World.block_lt_of_cell? _ _ (((HB.out.cell (World.block_lt_of_cell? w _ hw8_10)).trans hw8_10)))).trans (((HB.out.cell (World.block_lt_of_cell? w _ hw8_10)).trans hw8_10)), (World.cell?_alloc_lt _ _ _ (World.block_lt_of_cell? _ _ (((HB.out.cell (World.block_lt_of_cell? w _ hw8_11)).trans hw8_11)))).trans (((HB.out.cell (World.block_lt_of_cell? w _ hw8_11)).trans hw8_11))⟩ (fun hHeld => ?_)
         clear hK K
         refine norm_ (a' := ?_) ?_ ?_
         rotate_left
         ·show Act.put _ (some 24) _ = _
          simp only [Act.put, List.setIfInBounds_toArray, List.set_cons_zero, List.set_cons_succ, i64_w, i32_w]
          rfl
         refine one_ (i := 9) (N := some 25) #[true, true, true, true, true, true, true, true, true, true, false, false] rfl rfl (one_of HT_.out (by kernel_rfl)) (by decide) (fun K hK => ?_)
         refine Kd.R_append_step k31 (w0 := w) w.heap.size (by rfl) (.tmp 17) (.tmp 24) 24 31 (.agg #[(.string ⟨#[]⟩), (.string ⟨#[]⟩), (.int .i64 0), (.int .i64 0), (.int .i64 0), (.int .i64 0), (.int .i64 0), (.int .i64 0), (.int .i64 0), (.int .i64 0), (.int .i64 0), (.int .i64 0)]) 112 rfl Try.underlying24 info31 rfl (by decide) (by omega) u3000 x3000_1 (⟨(rd_T31 l0 t7).f0, (rd_T31 l0 t7).f1, (⟨(rd_T31 l0 t7).f2.f0, (rd_T31 l0 t7).f2.f1, (rd_T31 l0 t7).f2.f2⟩ : S27), (⟨(rd_T31 l0 t7).f3.f0, (rd_T31 l0 t7).f3.f1, (rd_T31 l0 t7).f3.f2⟩ : S27), (⟨(rd_T31 l0 t7).f4.f0, (rd_T31 l0 t7).f4.f1, (rd_T31 l0 t7).f4.f2⟩ : S27), (rd_T31 l0 t7).f5⟩ : S31) [.string ((rd_T31 l0 t7).f0), .string ((rd_T31 l0 t7).f1), .int .i64 ((rd_T31 l0 t7).f2.f0), .int .i64 ((rd_T31 l0 t7).f2.f1), .int .i64 ((rd_T31 l0 t7).f2.f2), .int .i64 ((rd_T31 l0 t7).f3.f0), .int .i64 ((rd_T31 l0 t7).f3.f1), .int .i64 ((rd_T31 l0 t7).f3.f2), .int .i64 ((rd_T31 l0 t7).f4.f0), .int .i64 ((rd_T31 l0 t7).f4.f1), .int .i64 ((rd_T31 l0 t7).f4.f2), .int .i64 ((rd_T31 l0 t7).f5)] (fun _ => True) (fun _ => False) rfl rfl ?aP (fun _ hk => hk.elim) ?aF ?aO ?aB ?aS ?aL ?_
         (case aP => exact k31_mkM _ _ _ (⟨(rd_T31 l0 t7).f0, (rd_T31 l0 t7).f1, (⟨(rd_T31 l0 t7).f2.f0, (rd_T31 l0 t7).f2.f1, (rd_T31 l0 t7).f2.f2⟩ : S27), (⟨(rd_T31 l0 t7).f3.f0, (rd_T31 l0 t7).f3.f1, (rd_T31 l0 t7).f3.f2⟩ : S27), (⟨(rd_T31 l0 t7).f4.f0, (rd_T31 l0 t7).f4.f1, (rd_T31 l0 t7).f4.f2⟩ : S27), (rd_T31 l0 t7).f5⟩ : S31))
         (case aB => exact (by repeat (first | (with_reducible first | exact HB.out | apply below_alloc | apply pw_below_drewN | apply below_drew1 | refine below_set ?_ GE1.out | refine below_set ?_ GE2.out) | exact HB.out)))
         (case aF => exact (fun _ _ => trivial))
         (case aO => exact (by (with_reducible repeat (first | apply Kd.R_alloc | apply Kd.R_drewN | apply Kd.R_drew)); exact HO_3000.out))
         (case aS => exact (below_size (by repeat (first | (with_reducible first | exact HB.out | apply below_alloc | apply pw_below_drewN | apply below_drew1 | refine below_set ?_ GE1.out | refine below_set ?_ GE2.out) | exact HB.out))))
         (case aL => have := LMc14.out; omega)
         intro v10 w17 ho hb hg hat
         rw [← Ny9.out] at ho
         have n0_ := Aside0.mk (Kd.R_over' (by (with_reducible repeat (first | apply Kd.R_alloc | apply Kd.R_drewN | apply Kd.R_drew)); exact HO_10.out) (Kd.R_typed (by (with_reducible repeat (first | apply Kd.R_alloc | apply Kd.R_drewN | apply Kd.R_drew)); exact HO_3000.out)) (by decide) hg)
         have n1_ := Aside0.mk (blk_grown (g := gb1) (o := .cells #[.slice none 0 0] 125 (0, 0)) (by (with_reducible repeat (first | refine blk_drewN ?_ _ | refine blk_drew ?_ | refine blk_alloc ?_ _)); exact BK1.out) hg (Kd.R_ne HO_3000.out BK1.out (by decide)))
         have n2_ := Aside0.mk (blk_grown (g := gb2) (o := .cells #[u3000] 125 (0, 0)) (by (with_reducible repeat (first | refine blk_drewN ?_ _ | refine blk_drew ?_ | refine blk_alloc ?_ _)); exact BK2.out) hg (Kd.R_ne HO_3000.out BK2.out (by decide)))
         have n3_ := Aside0.mk (hb)
         have n4_ := Aside0.mk (ho)
         clear HO_10
         clear BK1
         clear BK2
         clear HB
         clear HO_3000
         have HO_10 := n0_
         have BK1 := n1_
         have BK2 := n2_
         have HB := n3_
         have HO11 := n4_
         clear n0_ n1_ n2_ n3_ n4_
         clear ho hb hg hat
         obtain ⟨Ao18, co18, eo18⟩ := Kd.R_slice HO11.out
         (first | subst eo18 | (injection eo18 with f1_ f2_ f3_; have f4_ := f1_.symm; have f5_ := f3_.symm; clear f1_ f2_ f3_; subst f4_; subst f5_))
         refine hK.out _ _ ⟨(blk_cell BK2.out 0).trans rfl, ((HB.out.cell (World.block_lt_of_cell? w _ hw8_0)).trans hw8_0), ((HB.out.cell (World.block_lt_of_cell? w _ hw8_1)).trans hw8_1), ((HB.out.cell (World.block_lt_of_cell? w _ hw8_2)).trans hw8_2), ((HB.out.cell (World.block_lt_of_cell? w _ hw8_3)).trans hw8_3), ((HB.out.cell (World.block_lt_of_cell? w _ hw8_4)).trans hw8_4), ((HB.out.cell (World.block_lt_of_cell? w _ hw8_5)).trans hw8_5), ((HB.out.cell (World.block_lt_of_cell? w _ hw8_6)).trans hw8_6), ((HB.out.cell (World.block_lt_of_cell? w _ hw8_7)).trans hw8_7), ((HB.out.cell (World.block_lt_of_cell? w _ hw8_8)).trans hw8_8), ((HB.out.cell (World.block_lt_of_cell? w _ hw8_9)).trans hw8_9), ((HB.out.cell (World.block_lt_of_cell? w _ hw8_10)).trans hw8_10), ((HB.out.cell (World.block_lt_of_cell? w _ hw8_11)).trans hw8_11)⟩ (fun hHeld => ?_)
         clear hK K
         refine norm_ (a' := ?_) ?_ ?_
         rotate_left
         ·show Act.put _ (some 25) _ = _
          simp only [Act.put, List.setIfInBounds_toArray, List.set_cons_zero, List.set_cons_succ, i64_w, i32_w]
          rfl
         refine pure_ (i := 10) (N := some 26) (v := ?_) (a' := ?_) #[true, true, true, true, true, true, true, true, true, true, true, false] rfl rfl (any_of HT_.out (by kernel_rfl)) (fun _ _ _ h => h) (Or.inl ⟨by rfl, ?_⟩) ?_ ?_
         rotate_left
         ·intro w'
          go_simp
          with_reducible rfl
         rotate_left
         ·simp only [Act.put, List.setIfInBounds_toArray, List.set_cons_zero, List.set_cons_succ, i64_w, i32_w]
          rfl
         refine last_ (i := 11) (N := none) #[true, true, true, true, true, true, true, true, true, true, true, true] rfl rfl (one_of HT_.out (by kernel_rfl)) (by decide) (fun K hK => ?_)
         have hs19 : w17.cell? ⟨gb2, 0, none⟩ = some (u3000) := (blk_cell BK2.out 0).trans rfl
         have hfs19 := blk_frozen BK2.out 0
         have hns19_0 := NB1_2.out
         have hms19_0 := NB2_1.out
         refine skip_ (w1 := ?_) (by rfl) rfl ?_ ?_
         rotate_left
         ·go_simp
          rfl
         refine hK.out _ _ ?_
         clear hK K
         refine done_ (done_of HT_.out (by kernel_rfl)) ?_
         try go_wp2
         go_roundg k1
         case measure => have := HK1.out; omega
         case rel => exact ⟨(wrap64 (x12_1 + 1)), (y9), (.slice Ao18 y9.length co18), (by first | rfl | (simp; done) | (simp [*]; done)), H', ⟨by have := HK1.out; omega⟩, ⟨by (with_reducible repeat (first | apply Kd.R_alloc | apply Kd.R_drewN | apply Kd.R_drew)); exact Kd.R_mono (Kd.R_far (p := ⟨gb2, 0, none⟩) (Kd.R_types HO_10.out BK2.out (by decide)) (fun _ hk => hk.2) (.slice Ao18 y9.length co18)) (fun _ hk => trivial)⟩, ⟨by (with_reducible repeat (first | apply Kd.R_alloc | apply Kd.R_drewN | apply Kd.R_drew)); exact Kd.R_mono (Kd.R_far (p := ⟨gb2, 0, none⟩) (Kd.R_types HO11.out BK2.out (by decide)) (fun _ hk => hk.2) (.slice Ao18 y9.length co18)) (fun _ hk => trivial)⟩, ⟨by (with_reducible repeat (first | refine blk_drewN ?_ _ | refine blk_drew ?_ | refine blk_alloc ?_ _)); refine blk_far ?_ NB1_2.out _; (with_reducible repeat (first | refine blk_drewN ?_ _ | refine blk_drew ?_ | refine blk_alloc ?_ _)); exact BK1.out⟩, ⟨by (with_reducible repeat (first | refine blk_drewN ?_ _ | refine blk_drew ?_ | refine blk_alloc ?_ _)); refine blk_put (cs := #[u3000]) ?_ 0 _ rfl; (with_reducible repeat (first | refine blk_drewN ?_ _ | refine blk_drew ?_ | refine blk_alloc ?_ _)); exact BK2.out⟩, ⟨by repeat (first | (with_reducible first | exact HB.out | apply below_alloc | apply pw_below_drewN | apply below_drew1 | refine below_set ?_ GE1.out | refine below_set ?_ GE2.out) | exact HB.out)⟩⟩
        ·rw [if_neg c14] at H
         exact absurd H (by simp)
       ·rw [if_neg c13] at H
        exact absurd H (by simp)
      ·rw [if_neg c12] at H
       exact absurd H (by simp)
     ·rw [if_neg c10] at H
      exact absurd H (by simp)
    ·rw [if_neg c9] at H
     exact absurd H (by simp)
   ·rw [if_neg c8] at H
    have c8b0 : decide (x12_1 < (t3.length : Int)) = false := decide_eq_false c8
    clear c8
    obtain rfl := Option.some.inj H
    have hnb20 := NB2_1.out
    have hnc20 := NB1_2.out
    have hcz21_0 : wr.cell? ⟨gb2, 0, none⟩ = some (u3000) := (blk_cell BK2.out 0).trans rfl
    have hfz21_0 := blk_frozen BK2.out 0
    obtain ⟨Ao22, co22, eo22⟩ := Kd.R_slice HO_3000.out
    subst eo22
    have hcz23_0 : wr.cell? ⟨gb1, 0, none⟩ = some (.slice none 0 0) := (blk_cell BK1.out 0).trans rfl
    have hfz23_0 := blk_frozen BK1.out 0
    go_wp2
    refine bodyPost_ret (results_cell_row rfl _ _ gb1 125 #[.slice Ao22 x3000_1.length co22] (0, 0) _ rfl (by (with_reducible repeat (first | refine blk_drewN ?_ _ | refine blk_drew ?_ | refine blk_alloc ?_ _)); refine blk_put (cs := #[.slice none 0 0]) ?_ 0 _ rfl; (with_reducible repeat (first | refine blk_drewN ?_ _ | refine blk_drew ?_ | refine blk_alloc ?_ _)); exact BK1.out) Try.underlying125 rfl (by kernel_rfl)) rfl ?_
    exact ⟨_, by first | rfl | (simp [errW_none, errW_some] <;> rfl) | (simp [*, errW_none, errW_some] <;> rfl), by (with_reducible repeat (first | apply Kd.R_alloc | apply Kd.R_drewN | apply Kd.R_drew)); exact Kd.R_mono (Kd.R_far (p := ⟨gb1, 0, none⟩) (Kd.R_types HO_3000.out BK1.out (by decide)) (fun _ hk => hk.2) (.slice Ao22 x3000_1.length co22)) (fun _ hk => trivial), by repeat (first | (with_reducible first | exact HB.out | apply below_alloc | apply pw_below_drewN | apply below_drew1 | refine below_set ?_ GE1.out | refine below_set ?_ GE2.out) | exact HB.out)⟩
end Go.Proofs.Ytcgefpklljclgaa.Print

namespace Go.Proofs.Ytcgefpklljclgaa.Print
open Go.RowKit Go.Proofs.YtcgefpklljclgaaW.PrintWords Go.Proofs.YtcgefpklljclgaaW.PrintLast Go.Proofs.YtcgefpklljclgaaW.PrintMore
attribute [local go_sem] max2_int min2_int max_two min_two max_three min_three max_four min_four   -- for this text's walks alone
set_option linter.unusedVariables false
set_option linter.unusedSimpArgs false
/-! ### room_free: function 158 -/
def room_free.f (a0_0 : ByteArray) (a0_1 : ByteArray) (a0_2 : Int) (a0_3 : Int) (a0_4 : Int) (a0_5 : Int) (a0_6 : Int) (a0_7 : Int) (a0_8 : Int) (a0_9 : Int) (a0_10 : Int) (a0_11 : Int) : Option (Int × Int × Int) := (vec_Sub.f a0_2 a0_3 a0_4 a0_8 a0_9 a0_10).bind fun bt3 => (some (bt3.1, bt3.2.1, bt3.2.2))
set_option maxHeartbeats 8000000 in
set_option maxRecDepth 100000 in
theorem room_free.calls (a0_0 : ByteArray) (a0_1 : ByteArray) (a0_2 : Int) (a0_3 : Int) (a0_4 : Int) (a0_5 : Int) (a0_6 : Int) (a0_7 : Int) (a0_8 : Int) (a0_9 : Int) (a0_10 : Int) (a0_11 : Int) (r1 : Int) (r2 : Int) (r3 : Int) (w : World) (h : room_free.f a0_0 a0_1 a0_2 a0_3 a0_4 a0_5 a0_6 a0_7 a0_8 a0_9 a0_10 a0_11 = some (r1, r2, r3)) :
  Calls Try.prog 158 #[.agg #[.string a0_0, .string a0_1, .int .i64 a0_2, .int .i64 a0_3, .int .i64 a0_4, .int .i64 a0_5, .int .i64 a0_6, .int .i64 a0_7, .int .i64 a0_8, .int .i64 a0_9, .int .i64 a0_10, .int .i64 a0_11]] w fun e w' => e = .returned (.agg #[.int .i64 r1, .int .i64 r2, .int .i64 r3]) ∧ Below w.heap.size w w' := by
 have hu31 := Try.underlying31
 have hu27 := Try.underlying27
 have HB := Aside0.mk (Below.refl w.heap.size w)
 have H : ((vec_Sub.f a0_2 a0_3 a0_4 a0_8 a0_9 a0_10).bind fun bt3 => (some (bt3.1, bt3.2.1, bt3.2.2))) = some (r1, r2, r3) := h
 clear h
 replace H := Option.bind_eq_some_iff.mp H
 obtain ⟨⟨t3, t4, t5⟩, A20, H⟩ := H
 replace H : (some (t3, t4, t5)) = some (r1, r2, r3) := H
 have A2 := Aside0.mk A20
 clear A20
 simp only [Option.some.injEq, Prod.mk.injEq] at H
 obtain ⟨rfl, rfl, rfl⟩ := H
 go_enter Try.func158, Try.ntmps158
 go_wp2_with (first | ((with_reducible refine gate_dst (N := 1) rfl ?_); refine box_event ?hg (N := 1) ?hd (cs := #[.string a0_0, .string a0_1, .int .i64 a0_2, .int .i64 a0_3, .int .i64 a0_4, .int .i64 a0_5, .int .i64 a0_6, .int .i64 a0_7, .int .i64 a0_8, .int .i64 a0_9, .int .i64 a0_10, .int .i64 a0_11]) (t := 31) ?hr ?_; (case hd => rfl); (case hg => rfl); (case hr => first | (go_simp; done) | (go_simp; rfl)); intro gb1 hg w3 hbox hb; have n0_ := Aside0.mk (below_step (by repeat (first | (with_reducible first | exact HB.out | apply below_alloc | apply pw_below_drewN | apply below_drew1) | exact HB.out)) hb); have n1_ := Aside0.mk (hbox); have n2_ := Aside0.mk ((by rw [hg]; exact (below_size (by repeat (first | (with_reducible first | exact HB.out | apply below_alloc | apply pw_below_drewN | apply below_drew1) | exact HB.out))) : w.heap.size ≤ gb1)); have n3_ := Aside0.mk ((by rw [hg]; exact (below_size (by repeat (first | (with_reducible first | exact HB.out | apply below_alloc | apply pw_below_drewN | apply below_drew1) | exact HB.out))) : w.heap.size ≤ gb1)); clear HB; have HB := n0_; have BK1 := n1_; have GW1 := n2_; have GE1 := n3_; clear n0_ n1_ n2_ n3_; clear hb hbox hg) | ((with_reducible refine gate_dst (N := 2) rfl ?_); refine box_event ?hg (N := 2) ?hd (cs := #[.int .i64 0, .int .i64 0, .int .i64 0]) (t := 27) ?hr ?_; (case hd => rfl); (case hg => rfl); (case hr => first | (go_simp; done) | (go_simp; rfl)); intro gb2 hg w4 hbox hb; have n0_ := Aside0.mk (blk_below (g := gb1) (o := .cells #[.string a0_0, .string a0_1, .int .i64 a0_2, .int .i64 a0_3, .int .i64 a0_4, .int .i64 a0_5, .int .i64 a0_6, .int .i64 a0_7, .int .i64 a0_8, .int .i64 a0_9, .int .i64 a0_10, .int .i64 a0_11] 31 (0, 0)) (by (with_reducible repeat (first | refine blk_drewN ?_ _ | refine blk_drew ?_ | refine blk_alloc ?_ _)); exact BK1.out) hb); have n1_ := Aside0.mk (below_step (by repeat (first | (with_reducible first | exact HB.out | apply below_alloc | apply pw_below_drewN | apply below_drew1 | refine below_set ?_ GE1.out) | exact HB.out)) hb); have n2_ := Aside0.mk (hbox); have n3_ := Aside0.mk ((by rw [hg]; exact (below_size (by repeat (first | (with_reducible first | exact HB.out | apply below_alloc | apply pw_below_drewN | apply below_drew1 | refine below_set ?_ GE1.out) | exact HB.out))) : w.heap.size ≤ gb2)); have n4_ := Aside0.mk ((by rw [hg]; exact (below_size (by repeat (first | (with_reducible first | exact HB.out | apply below_alloc | apply pw_below_drewN | apply below_drew1 | refine below_set ?_ GE1.out) | exact HB.out))) : w.heap.size ≤ gb2)); have n5_ := Aside0.mk ((by rw [hg]; exact Nat.ne_of_lt (blk_lt (g := gb1) (o := .cells #[.string a0_0, .string a0_1, .int .i64 a0_2, .int .i64 a0_3, .int .i64 a0_4, .int .i64 a0_5, .int .i64 a0_6, .int .i64 a0_7, .int .i64 a0_8, .int .i64 a0_9, .int .i64 a0_10, .int .i64 a0_11] 31 (0, 0)) (by (with_reducible repeat (first | refine blk_drewN ?_ _ | refine blk_drew ?_ | refine blk_alloc ?_ _)); exact BK1.out)) : gb1 ≠ gb2)); have n6_ := Aside0.mk ((by rw [hg]; exact Nat.ne_of_gt (blk_lt (g := gb1) (o := .cells #[.string a0_0, .string a0_1, .int .i64 a0_2, .int .i64 a0_3, .int .i64 a0_4, .int .i64 a0_5, .int .i64 a0_6, .int .i64 a0_7, .int .i64 a0_8, .int .i64 a0_9, .int .i64 a0_10, .int .i64 a0_11] 31 (0, 0)) (by (with_reducible repeat (first | refine blk_drewN ?_ _ | refine blk_drew ?_ | refine blk_alloc ?_ _)); exact BK1.out)) : gb2 ≠ gb1)); clear BK1; clear HB; have BK1 := n0_; have HB := n1_; have BK2 := n2_; have GW2 := n3_; have GE2 := n4_; have NB1_2 := n5_; have NB2_1 := n6_; clear n0_ n1_ n2_ n3_ n4_ n5_ n6_; clear hb hbox hg; have hnb5 := NB1_2.out; have hnc5 := NB2_1.out; have hcz6_0 : w4.cell? ⟨gb1, 0, none⟩ = some (.string a0_0) := (blk_cell BK1.out 0).trans rfl; have hcz6_1 : w4.cell? ⟨gb1, 1, none⟩ = some (.string a0_1) := (blk_cell BK1.out 1).trans rfl; have hcz6_2 : w4.cell? ⟨gb1, 2, none⟩ = some (.int .i64 a0_2) := (blk_cell BK1.out 2).trans rfl; have hcz6_3 : w4.cell? ⟨gb1, 3, none⟩ = some (.int .i64 a0_3) := (blk_cell BK1.out 3).trans rfl; have hcz6_4 : w4.cell? ⟨gb1, 4, none⟩ = some (.int .i64 a0_4) := (blk_cell BK1.out 4).trans rfl; have hcz6_5 : w4.cell? ⟨gb1, 5, none⟩ = some (.int .i64 a0_5) := (blk_cell BK1.out 5).trans rfl; have hcz6_6 : w4.cell? ⟨gb1, 6, none⟩ = some (.int .i64 a0_6) := (blk_cell BK1.out 6).trans rfl; have hcz6_7 : w4.cell? ⟨gb1, 7, none⟩ = some (.int .i64 a0_7) := (blk_cell BK1.out 7).trans rfl; have hcz6_8 : w4.cell? ⟨gb1, 8, none⟩ = some (.int .i64 a0_8) := (blk_cell BK1.out 8).trans rfl; have hcz6_9 : w4.cell? ⟨gb1, 9, none⟩ = some (.int .i64 a0_9) := (blk_cell BK1.out 9).trans rfl; have hcz6_10 : w4.cell? ⟨gb1, 10, none⟩ = some (.int .i64 a0_10) := (blk_cell BK1.out 10).trans rfl; have hcz6_11 : w4.cell? ⟨gb1, 11, none⟩ = some (.int .i64 a0_11) := (blk_cell BK1.out 11).trans rfl; have hfz6_0 := blk_frozen BK1.out 0; have hfz6_1 := blk_frozen BK1.out 1; have hfz6_2 := blk_frozen BK1.out 2; have hfz6_3 := blk_frozen BK1.out 3; have hfz6_4 := blk_frozen BK1.out 4; have hfz6_5 := blk_frozen BK1.out 5; have hfz6_6 := blk_frozen BK1.out 6; have hfz6_7 := blk_frozen BK1.out 7; have hfz6_8 := blk_frozen BK1.out 8; have hfz6_9 := blk_frozen BK1.out 9; have hfz6_10 := blk_frozen BK1.out 10; have hfz6_11 := blk_frozen BK1.out 11) | ((with_reducible refine gate_callee (f := 134) rfl ?_); refine goesL_ (some 7) rfl rfl Try.func134 (by kernel_rfl) rfl #[.agg #[.int .i64 a0_2, .int .i64 a0_3, .int .i64 a0_4], .agg #[.int .i64 a0_8, .int .i64 a0_9, .int .i64 a0_10]] rfl (by (try simp only [List.map_toArray, List.map_cons, List.map_nil]); first | done | rfl | (simp only [List.length_drop, List.length_take]; rfl)) ?_; (with_reducible refine (vec_Sub.calls a0_2 a0_3 a0_4 a0_8 a0_9 a0_10 t3 t4 t5 _ A2.out).mono ?_); rintro e w7 ⟨rfl, hb⟩; refine ⟨_, rfl, ?_⟩; have n0_ := Aside0.mk (blk_below (g := gb1) (o := .cells #[.string a0_0, .string a0_1, .int .i64 a0_2, .int .i64 a0_3, .int .i64 a0_4, .int .i64 a0_5, .int .i64 a0_6, .int .i64 a0_7, .int .i64 a0_8, .int .i64 a0_9, .int .i64 a0_10, .int .i64 a0_11] 31 (0, 0)) (by (with_reducible repeat (first | refine blk_drewN ?_ _ | refine blk_drew ?_ | refine blk_alloc ?_ _)); exact BK1.out) hb); have n1_ := Aside0.mk (blk_below (g := gb2) (o := .cells #[.int .i64 0, .int .i64 0, .int .i64 0] 27 (0, 0)) (by (with_reducible repeat (first | refine blk_drewN ?_ _ | refine blk_drew ?_ | refine blk_alloc ?_ _)); exact BK2.out) hb); have n2_ := Aside0.mk (below_step (by repeat (first | (with_reducible first | exact HB.out | apply below_alloc | apply pw_below_drewN | apply below_drew1 | refine below_set ?_ GE1.out | refine below_set ?_ GE2.out) | exact HB.out)) hb); clear BK1; clear BK2; clear HB; have BK1 := n0_; have BK2 := n1_; have HB := n2_; clear n0_ n1_ n2_; (try clear hb); (try clear hb2); (try clear hk); (try clear hi); have hcz8_0 : w7.cell? ⟨gb2, 0, none⟩ = some (.int .i64 0) := (blk_cell BK2.out 0).trans rfl; have hcz8_1 : w7.cell? ⟨gb2, 1, none⟩ = some (.int .i64 0) := (blk_cell BK2.out 1).trans rfl; have hcz8_2 : w7.cell? ⟨gb2, 2, none⟩ = some (.int .i64 0) := (blk_cell BK2.out 2).trans rfl; have hfz8_0 := blk_frozen BK2.out 0; have hfz8_1 := blk_frozen BK2.out 1; have hfz8_2 := blk_frozen BK2.out 2))
 refine bodyPost_ret (results_cell_row rfl _ _ gb2 27 #[.int .i64 t3, .int .i64 t4, .int .i64 t5] (0, 0) _ rfl (by (with_reducible repeat (first | refine blk_drewN ?_ _ | refine blk_drew ?_ | refine blk_alloc ?_ _)); refine blk_put (cs := #[.int .i64 t3, .int .i64 t4, .int .i64 0]) ?_ 2 _ rfl; (with_reducible repeat (first | refine blk_drewN ?_ _ | refine blk_drew ?_ | refine blk_alloc ?_ _)); refine blk_put (cs := #[.int .i64 t3, .int .i64 0, .int .i64 0]) ?_ 1 _ rfl; (with_reducible repeat (first | refine blk_drewN ?_ _ | refine blk_drew ?_ | refine blk_alloc ?_ _)); refine blk_put (cs := #[.int .i64 0, .int .i64 0, .int .i64 0]) ?_ 0 _ rfl; (with_reducible repeat (first | refine blk_drewN ?_ _ | refine blk_drew ?_ | refine blk_alloc ?_ _)); exact BK2.out) Try.underlying27 rfl (by kernel_rfl)) rfl ?_
 exact ⟨by first | rfl | (simp [errW_none, errW_some] <;> rfl) | (simp [*, errW_none, errW_some] <;> rfl), by repeat (first | (with_reducible first | exact HB.out | apply below_alloc | apply pw_below_drewN | apply below_drew1 | refine below_set ?_ GE1.out | refine below_set ?_ GE2.out) | exact HB.out)⟩
end Go.Proofs.Ytcgefpklljclgaa.Print

namespace Go.Proofs.Ytcgefpklljclgaa.Print
open Go.RowKit Go.Proofs.YtcgefpklljclgaaW.PrintWords Go.Proofs.YtcgefpklljclgaaW.PrintLast Go.Proofs.YtcgefpklljclgaaW.PrintMore
attribute [local go_sem] max2_int min2_int max_two min_two max_three min_three max_four min_four   -- for this text's walks alone
set_option linter.unusedVariables false
set_option linter.unusedSimpArgs false
/-! ### vec_Max: function 159 -/
theorem vecMax1_calls (x y : Int) (W : World) : Calls Try.prog 173 #[.int .i64 x, .int .i64 y] W fun e w' => e = .returned (.int .i64 (mx x y)) ∧ w' = W := by
  unfold mx
  go_enter Try.func173, Try.ntmps173
  go_wp2 <;> (go_ret; exact ⟨rfl, rfl⟩)
def vec_Max.f (l0 : List (S27)) : Option (Int × Int × Int) := some (vecByF (fun x y => mx x y) l0 0 0 0)
set_option maxHeartbeats 1000000 in
set_option maxRecDepth 100000 in
theorem vec_Max.calls (A0 : Option Addr) (c0 : Nat) (l0 : List (S27)) (r1 : Int) (r2 : Int) (r3 : Int) (w : World) (hr0 : Kd.C k27 w A0 l0.length l0) (hc0 : l0.length ≤ c0) (h : vec_Max.f l0 = some (r1, r2, r3)) :
    Calls Try.prog 159 #[.slice A0 l0.length c0] w fun e w' => e = .returned (.agg #[.int .i64 r1, .int .i64 r2, .int .i64 r3]) ∧ Below w.heap.size w w' := by
  have hu27 := Try.underlying27
  have hm : l0.length ≤ maxLen := hr0.2.1
  have HC := Aside0.mk (vecBy_calls 173 (fun x y => mx x y) (enters_of Try.func173 (by kernel_rfl) rfl) vecMax1_calls A0 c0 l0 0 0 0 (w.alloc (.cells #[.int .i64 0, .int .i64 0, .int .i64 0] 27)) (Kd.C_below hr0 (below_alloc (Below.refl _ _) _)) hc0 hm)
  have HH := Aside0.mk h
  clear hr0 h
  go_enter Try.func159, Try.ntmps159
  go_wp2_with fail
  refine HC.out.mono ?_
  rintro e w1 ⟨rfl, hb⟩
  have h := Option.some.inj (show some (vecByF (fun x y => mx x y) l0 0 0 0) = some (r1, r2, r3) from HH.out)
  rw [h]
  have hZ := blk_below (blk_new w (.cells #[.int .i64 0, .int .i64 0, .int .i64 0] 27)) hb
  have HB := Aside0.mk hb
  have HZ := Aside0.mk hZ
  clear h hb hZ
  have g0 := (blk_cell HZ.out 0).trans rfl
  have g1 := (blk_cell HZ.out 1).trans rfl
  have g2 := (blk_cell HZ.out 2).trans rfl
  have z0 := blk_frozen HZ.out 0
  have z1 := blk_frozen HZ.out 1
  have z2 := blk_frozen HZ.out 2
  have hs1 : w.heap.size < w1.heap.size := blk_lt HZ.out
  go_wp2
  refine bodyPost_ret (results_cell_row rfl _ _ w.heap.size 27 #[.int .i64 r1, .int .i64 r2, .int .i64 r3] (0, 0) _ rfl (blk_put (blk_put (blk_put HZ.out 0 _ rfl) 1 _ rfl) 2 _ rfl) Try.underlying27 rfl (by kernel_rfl)) rfl ?_
  exact ⟨rfl, below_set (below_set (below_set (below_step (below_alloc (Below.refl _ _) _) HB.out) (Nat.le_refl _)) (Nat.le_refl _)) (Nat.le_refl _)⟩
end Go.Proofs.Ytcgefpklljclgaa.Print

namespace Go.Proofs.Ytcgefpklljclgaa.Print
open Go.RowKit Go.Proofs.YtcgefpklljclgaaW.PrintWords Go.Proofs.YtcgefpklljclgaaW.PrintLast Go.Proofs.YtcgefpklljclgaaW.PrintMore
attribute [local go_sem] max2_int min2_int max_two min_two max_three min_three max_four min_four   -- for this text's walks alone
set_option linter.unusedVariables false
set_option linter.unusedSimpArgs false
/-! ### room_made: function 104 -/
def room_made.l0 : Nat → List (S31) → Int → Int → List (S31) → Int → Int → Int → Option ((List (S31)) × Int × Int × Int)
 | 0, _, _, _, _, _, _, _ => none
 | k + 1, x16, x17, x18, x9000, x9001, x9002, x9003 => if x18 < x17 then (if 0 ≤ x18 then (if x18 < (x16.length : Int) then ((room_free.f ((rd_T31 x16 x18).f0) ((rd_T31 x16 x18).f1) ((rd_T31 x16 x18).f2.f0) ((rd_T31 x16 x18).f2.f1) ((rd_T31 x16 x18).f2.f2) ((rd_T31 x16 x18).f3.f0) ((rd_T31 x16 x18).f3.f1) ((rd_T31 x16 x18).f3.f2) ((rd_T31 x16 x18).f4.f0) ((rd_T31 x16 x18).f4.f1) ((rd_T31 x16 x18).f4.f2) ((rd_T31 x16 x18).f5)).bind fun bt11 => ((vec_Add.f (([(⟨x9001, x9002, x9003⟩ : S27), (⟨bt11.1, bt11.2.1, bt11.2.2⟩ : S27)] : List (S27)))).bind fun bt18 => ((vec_Max.f (([(⟨x9001, x9002, x9003⟩ : S27), (⟨bt11.1, bt11.2.1, bt11.2.2⟩ : S27)] : List (S27)))).bind fun bt24 => ((vec_Sub.f bt18.1 bt18.2.1 bt18.2.2 bt24.1 bt24.2.1 bt24.2.2).bind fun bt27 => (room_made.l0 k x16 x17 (wrap64 (x18 + 1)) x9000 bt27.1 bt27.2.1 bt27.2.2))))) else (none)) else (none)) else (some (x9000, x9001, x9002, x9003))
def room_made.f (k : Nat) (l0 : List (S31)) (a1 : ByteArray) : Option ((List (S31)) × Int × Int × Int) := (room_along.f k l0 a1).bind fun t2 => ((vec_Most.f).bind fun bt5 => (room_made.l0 k t2 (t2.length : Int) 0 t2 bt5.1 bt5.2.1 bt5.2.2))
theorem room_made.mono_l : ∀ k, (∀ y0 y1 y2 y3 y4 y5 y6, LeO (room_made.l0 k y0 y1 y2 y3 y4 y5 y6) (room_made.l0 (k + 1) y0 y1 y2 y3 y4 y5 y6))
 | 0 => fun _ _ _ _ _ _ _ r h => by simp [room_made.l0] at h
 | k + 1 => by
  have ih0 := room_made.mono_l k
  ·intro y0 y1 y2 y3 y4 y5 y6
   unfold room_made.l0
   repeat' first
   | (with_reducible exact ih0 _ _ _ _ _ _ _)
   | (with_reducible exact room_along.mono _ _ _)
   | (with_reducible exact LeO.refl _)
   | (with_reducible exact LeO.none _)
   | (with_reducible refine LeO.ite ?_ ?_)
   | (with_reducible refine LeO.bind ?_ (fun _ => ?_))
   | exact ih0 _ _ _ _ _ _ _
   | exact room_along.mono _ _ _
   | exact LeO.none _
   | refine LeO.ite ?_ ?_
   | refine LeO.bind ?_ (fun _ => ?_)
theorem room_made.mono : ∀ a0 a1 k, LeO (room_made.f k a0 a1) (room_made.f (k + 1) a0 a1) := by
 intro a0 a1 k
 have ih0 := room_made.mono_l k
 unfold room_made.f
 repeat' first
   | (with_reducible exact ih0 _ _ _ _ _ _ _)
   | (with_reducible exact room_along.mono _ _ _)
   | (with_reducible exact LeO.refl _)
   | (with_reducible exact LeO.none _)
   | (with_reducible refine LeO.ite ?_ ?_)
   | (with_reducible refine LeO.bind ?_ (fun _ => ?_))
   | exact ih0 _ _ _ _ _ _ _
   | exact room_along.mono _ _ _
   | exact LeO.none _
   | refine LeO.ite ?_ ?_
   | refine LeO.bind ?_ (fun _ => ?_)
def room_made.T6 : Bool × List (List Nat × List Nat) := (true, [([], []), ([0], [0]), ([], []), ([1, 2], [1, 2]), ([3], [3]), ([], []), ([5], [5]), ([], []), ([6, 7], [6, 7]), ([8, 4], [8]), ([4, 9, 9], [4, 9]), ([0, 1, 2, 3, 4, 5, 6, 7, 8, 9, 10], []), ([11, 10, 10, 0, 1, 2, 3, 4, 5, 6, 7, 8, 9, 10], [10, 11])])
def room_made.B6 : List Nat := [0, 1, 0, 7, 15, 0, 32, 0, 224, 511, 1023, 2047, 4095]
theorem room_made.tab6 : rtab .any (opsOf Try.f104 6) = room_made.T6 := by kernel_rfl
theorem room_made.bits6 : waitsOk room_made.T6.2 room_made.B6 = true := by kernel_rfl
set_option maxHeartbeats 8000000 in
set_option maxRecDepth 100000 in
theorem room_made.calls (k : Nat) (A0 : Option Addr) (c0 : Nat) (l0 : List (S31)) (a1 : ByteArray) (r1 : List (S31)) (r2 : Int) (r3 : Int) (r4 : Int) (w : World) (hr0 : Kd.C k31 w A0 l0.length l0) (hc0 : l0.length ≤ c0) (h : room_made.f k l0 a1 = some (r1, r2, r3, r4)) :
  Calls Try.prog 104 #[.slice A0 l0.length c0, .string a1] w fun e w' => ∃ v0_ : Value, e = .returned (.agg #[v0_, .int .i64 r2, .int .i64 r3, .int .i64 r4]) ∧ Kd.R k31 31 w' w.heap.size (fun _ => True) v0_ r1 ∧ Below w.heap.size w w' := by
 have hu127 := Try.underlying127
 have hu31 := Try.underlying31
 have hu27 := Try.underlying27
 have HR0 := Aside0.mk hr0
 have HC0 := Aside0.mk hc0
 clear hr0 hc0
 have HB := Aside0.mk (Below.refl w.heap.size w)
 have H : ((room_along.f k l0 a1).bind fun t2 => ((vec_Most.f).bind fun bt5 => (room_made.l0 k t2 (t2.length : Int) 0 t2 bt5.1 bt5.2.1 bt5.2.2))) = some (r1, r2, r3, r4) := h
 clear h
 replace H := Option.bind_eq_some_iff.mp H
 obtain ⟨t2, A30, H⟩ := H
 replace H : ((vec_Most.f).bind fun bt5 => (room_made.l0 k t2 (t2.length : Int) 0 t2 bt5.1 bt5.2.1 bt5.2.2)) = some (r1, r2, r3, r4) := H
 have A3 := Aside0.mk A30
 clear A30
 replace H := Option.bind_eq_some_iff.mp H
 obtain ⟨⟨t5, t6, t7⟩, A40, H⟩ := H
 replace H : (room_made.l0 k t2 (t2.length : Int) 0 t2 t5 t6 t7) = some (r1, r2, r3, r4) := H
 have A4 := Aside0.mk A40
 clear A40
 have H' := Aside0.mk H
 clear H
 go_enter Try.func104, Try.ntmps104
 go_wp2_with (first | ((with_reducible refine gate_dst (N := 4) rfl ?_); refine box_event ?hg (N := 4) ?hd (cs := #[.slice none 0 0, .int .i64 0, .int .i64 0, .int .i64 0]) (t := 127) ?hr ?_; (case hd => rfl); (case hg => rfl); (case hr => first | (go_simp; done) | (go_simp; rfl)); intro gb1 hg w5 hbox hb; have n0_ := Aside0.mk (below_step (by repeat (first | (with_reducible first | exact HB.out | apply below_alloc | apply pw_below_drewN | apply below_drew1) | exact HB.out)) hb); have n1_ := Aside0.mk (hbox); have n2_ := Aside0.mk ((by rw [hg]; exact (below_size (by repeat (first | (with_reducible first | exact HB.out | apply below_alloc | apply pw_below_drewN | apply below_drew1) | exact HB.out))) : w.heap.size ≤ gb1)); have n3_ := Aside0.mk ((by rw [hg]; exact (below_size (by repeat (first | (with_reducible first | exact HB.out | apply below_alloc | apply pw_below_drewN | apply below_drew1) | exact HB.out))) : w.heap.size ≤ gb1)); clear HB; have HB := n0_; have BK1 := n1_; have GW1 := n2_; have GE1 := n3_; clear n0_ n1_ n2_ n3_; clear hb hbox hg) | ((with_reducible refine gate_callee (f := 156) rfl ?_); refine goesL_ (some 11) rfl rfl Try.func156 (by kernel_rfl) rfl #[.slice A0 l0.length c0, .string a1] rfl (by (try simp only [List.map_toArray, List.map_cons, List.map_nil]); first | done | rfl | (simp only [List.length_drop, List.length_take]; rfl)) ?_; (with_reducible refine (room_along.calls k _ _ l0 a1 t2 _ ?side1 ?side2 A3.out).mono ?_); (case side1 => repeat (first | exact (Kd.C_below HR0.out HB.out) | (with_reducible refine Kd.C_alloc ?_ _) | (with_reducible refine Kd.C_drewN ?_ _) | (with_reducible refine Kd.C_drew ?_))); (case side2 => exact HC0.out); rintro e w6 ⟨v3, rfl, ho0, hb⟩; refine ⟨_, rfl, ?_⟩; have n0_ := Aside0.mk (Kd.R_lower ho0 (below_size (by repeat (first | (with_reducible first | exact HB.out | apply below_alloc | apply pw_below_drewN | apply below_drew1 | refine below_set ?_ GE1.out) | exact HB.out)))); have n1_ := Aside0.mk (blk_below (g := gb1) (o := .cells #[.slice none 0 0, .int .i64 0, .int .i64 0, .int .i64 0] 127 (0, 0)) (by (with_reducible repeat (first | refine blk_drewN ?_ _ | refine blk_drew ?_ | refine blk_alloc ?_ _)); exact BK1.out) hb); have n2_ := Aside0.mk (below_step (by repeat (first | (with_reducible first | exact HB.out | apply below_alloc | apply pw_below_drewN | apply below_drew1 | refine below_set ?_ GE1.out) | exact HB.out)) hb); clear BK1; clear HB; have HO4 := n0_; have BK1 := n1_; have HB := n2_; clear n0_ n1_ n2_; (try clear hb); (try clear hb2); (try clear hk); (try clear hi); (try clear ho0)) | ((with_reducible refine gate_callee (f := 157) rfl ?_); refine goesL_ (some 12) rfl rfl Try.func157 (by kernel_rfl) rfl #[] rfl (by (try simp only [List.map_toArray, List.map_cons, List.map_nil]); first | done | rfl | (simp only [List.length_drop, List.length_take]; rfl)) ?_; (with_reducible refine (vec_Most.calls  t5 t6 t7 _ A4.out).mono ?_); rintro e w7 ⟨rfl, hb⟩; refine ⟨_, rfl, ?_⟩; have n0_ := Aside0.mk (Kd.R_below (by (with_reducible repeat (first | apply Kd.R_alloc | apply Kd.R_drewN | apply Kd.R_drew)); exact HO4.out) hb); have n1_ := Aside0.mk (blk_below (g := gb1) (o := .cells #[.slice none 0 0, .int .i64 0, .int .i64 0, .int .i64 0] 127 (0, 0)) (by (with_reducible repeat (first | refine blk_drewN ?_ _ | refine blk_drew ?_ | refine blk_alloc ?_ _)); exact BK1.out) hb); have n2_ := Aside0.mk (below_step (by repeat (first | (with_reducible first | exact HB.out | apply below_alloc | apply pw_below_drewN | apply below_drew1 | refine below_set ?_ GE1.out) | exact HB.out)) hb); clear HO4; clear BK1; clear HB; have HO4 := n0_; have BK1 := n1_; have HB := n2_; clear n0_ n1_ n2_; (try clear hb); (try clear hb2); (try clear hk); (try clear hi); obtain ⟨Ao8, co8, eo8⟩ := Kd.R_slice HO4.out; subst eo8) | ((with_reducible refine gate_dst (N := 5) rfl ?_); refine box_event ?hg (N := 5) ?hd (cs := #[.slice none 0 0, .int .i64 0, .int .i64 0, .int .i64 0]) (t := 127) ?hr ?_; (case hd => rfl); (case hg => rfl); (case hr => first | (go_simp; done) | (go_simp; rfl)); intro gb8 hg w9 hbox hb; have n0_ := Aside0.mk (Kd.R_below (by (with_reducible repeat (first | apply Kd.R_alloc | apply Kd.R_drewN | apply Kd.R_drew)); exact HO4.out) hb); have n1_ := Aside0.mk (blk_below (g := gb1) (o := .cells #[.slice none 0 0, .int .i64 0, .int .i64 0, .int .i64 0] 127 (0, 0)) (by (with_reducible repeat (first | refine blk_drewN ?_ _ | refine blk_drew ?_ | refine blk_alloc ?_ _)); exact BK1.out) hb); have n2_ := Aside0.mk (below_step (by repeat (first | (with_reducible first | exact HB.out | apply below_alloc | apply pw_below_drewN | apply below_drew1 | refine below_set ?_ GE1.out) | exact HB.out)) hb); have n3_ := Aside0.mk (hbox); have n4_ := Aside0.mk ((by rw [hg]; exact (below_size (by repeat (first | (with_reducible first | exact HB.out | apply below_alloc | apply pw_below_drewN | apply below_drew1 | refine below_set ?_ GE1.out) | exact HB.out))) : w.heap.size ≤ gb8)); have n5_ := Aside0.mk ((by rw [hg]; exact (below_size (by repeat (first | (with_reducible first | exact HB.out | apply below_alloc | apply pw_below_drewN | apply below_drew1 | refine below_set ?_ GE1.out) | exact HB.out))) : w.heap.size ≤ gb8)); have n6_ := Aside0.mk ((by rw [hg]; exact Nat.ne_of_lt (blk_lt (g := gb1) (o := .cells #[.slice none 0 0, .int .i64 0, .int .i64 0, .int .i64 0] 127 (0, 0)) (by (with_reducible repeat (first | refine blk_drewN ?_ _ | refine blk_drew ?_ | refine blk_alloc ?_ _)); exact BK1.out)) : gb1 ≠ gb8)); have n7_ := Aside0.mk ((by rw [hg]; exact Nat.ne_of_gt (blk_lt (g := gb1) (o := .cells #[.slice none 0 0, .int .i64 0, .int .i64 0, .int .i64 0] 127 (0, 0)) (by (with_reducible repeat (first | refine blk_drewN ?_ _ | refine blk_drew ?_ | refine blk_alloc ?_ _)); exact BK1.out)) : gb8 ≠ gb1)); clear HO4; clear BK1; clear HB; have HO4 := n0_; have BK1 := n1_; have HB := n2_; have BK8 := n3_; have GW8 := n4_; have GE8 := n5_; have NB1_8 := n6_; have NB8_1 := n7_; clear n0_ n1_ n2_ n3_ n4_ n5_ n6_ n7_; clear hb hbox hg; have hnb10 := NB8_1.out; have hnc10 := NB1_8.out; have hcz11_0 : w9.cell? ⟨gb8, 0, none⟩ = some (.slice none 0 0) := (blk_cell BK8.out 0).trans rfl; have hcz11_1 : w9.cell? ⟨gb8, 1, none⟩ = some (.int .i64 0) := (blk_cell BK8.out 1).trans rfl; have hcz11_2 : w9.cell? ⟨gb8, 2, none⟩ = some (.int .i64 0) := (blk_cell BK8.out 2).trans rfl; have hcz11_3 : w9.cell? ⟨gb8, 3, none⟩ = some (.int .i64 0) := (blk_cell BK8.out 3).trans rfl; have hfz11_0 := blk_frozen BK8.out 0; have hfz11_1 := blk_frozen BK8.out 1; have hfz11_2 := blk_frozen BK8.out 2; have hfz11_3 := blk_frozen BK8.out 3))
 go_loopg [18] k (fun kq v18 w' => ∃ (x18_1 : Int) (x9001_1 : Int) (x9002_1 : Int) (x9003_1 : Int), v18 = .int .i64 x18_1 ∧ Aside0 (room_made.l0 kq t2 (t2.length : Int) x18_1 t2 x9001_1 x9002_1 x9003_1 = some (r1, r2, r3, r4)) ∧ Aside0 (kq ≤ k) ∧ Aside0 (Kd.R k31 31 w' w.heap.size (fun _ => True) (.slice Ao8 t2.length co8) t2) ∧ Aside0 (Kd.R k31 31 w' w.heap.size (fun _ => True) (.slice Ao8 t2.length co8) t2) ∧ Aside0 (w'.heap[gb1]? = some (.cells #[(.slice none 0 0), .int .i64 0, .int .i64 0, .int .i64 0] 127 (0, 0))) ∧ Aside0 (w'.heap[gb8]? = some (.cells #[(.slice Ao8 t2.length co8), .int .i64 x9001_1, .int .i64 x9002_1, .int .i64 x9003_1] 127 (0, 0))) ∧ Aside0 (Below w.heap.size w w'))
 case atStart => exact ⟨(0), (t5), (t6), (t7), (by first | rfl | (simp; done) | (simp [*]; done)), H', ⟨Nat.le_refl _⟩, ⟨by (with_reducible repeat (first | apply Kd.R_alloc | apply Kd.R_drewN | apply Kd.R_drew)); exact Kd.R_mono (Kd.R_far (p := ⟨gb8, 3, none⟩) (Kd.R_far (p := ⟨gb8, 2, none⟩) (Kd.R_far (p := ⟨gb8, 1, none⟩) (Kd.R_far (p := ⟨gb8, 0, none⟩) (Kd.R_types HO4.out BK8.out (by decide)) (fun _ hk => hk.2) (.slice Ao8 t2.length co8)) (fun _ hk => hk.2) (.int .i64 t5)) (fun _ hk => hk.2) (.int .i64 t6)) (fun _ hk => hk.2) (.int .i64 t7)) (fun _ hk => trivial)⟩, ⟨by (with_reducible repeat (first | apply Kd.R_alloc | apply Kd.R_drewN | apply Kd.R_drew)); exact Kd.R_mono (Kd.R_far (p := ⟨gb8, 3, none⟩) (Kd.R_far (p := ⟨gb8, 2, none⟩) (Kd.R_far (p := ⟨gb8, 1, none⟩) (Kd.R_far (p := ⟨gb8, 0, none⟩) (Kd.R_types HO4.out BK8.out (by decide)) (fun _ hk => hk.2) (.slice Ao8 t2.length co8)) (fun _ hk => hk.2) (.int .i64 t5)) (fun _ hk => hk.2) (.int .i64 t6)) (fun _ hk => hk.2) (.int .i64 t7)) (fun _ hk => trivial)⟩, ⟨by (with_reducible repeat (first | refine blk_drewN ?_ _ | refine blk_drew ?_ | refine blk_alloc ?_ _)); refine blk_far ?_ NB1_8.out _; (with_reducible repeat (first | refine blk_drewN ?_ _ | refine blk_drew ?_ | refine blk_alloc ?_ _)); refine blk_far ?_ NB1_8.out _; (with_reducible repeat (first | refine blk_drewN ?_ _ | refine blk_drew ?_ | refine blk_alloc ?_ _)); refine blk_far ?_ NB1_8.out _; (with_reducible repeat (first | refine blk_drewN ?_ _ | refine blk_drew ?_ | refine blk_alloc ?_ _)); refine blk_far ?_ NB1_8.out _; (with_reducible repeat (first | refine blk_drewN ?_ _ | refine blk_drew ?_ | refine blk_alloc ?_ _)); exact BK1.out⟩, ⟨by (with_reducible repeat (first | refine blk_drewN ?_ _ | refine blk_drew ?_ | refine blk_alloc ?_ _)); refine blk_put (cs := #[.slice Ao8 t2.length co8, .int .i64 t5, .int .i64 t6, .int .i64 0]) ?_ 3 _ rfl; (with_reducible repeat (first | refine blk_drewN ?_ _ | refine blk_drew ?_ | refine blk_alloc ?_ _)); refine blk_put (cs := #[.slice Ao8 t2.length co8, .int .i64 t5, .int .i64 0, .int .i64 0]) ?_ 2 _ rfl; (with_reducible repeat (first | refine blk_drewN ?_ _ | refine blk_drew ?_ | refine blk_alloc ?_ _)); refine blk_put (cs := #[.slice Ao8 t2.length co8, .int .i64 0, .int .i64 0, .int .i64 0]) ?_ 1 _ rfl; (with_reducible repeat (first | refine blk_drewN ?_ _ | refine blk_drew ?_ | refine blk_alloc ?_ _)); refine blk_put (cs := #[.slice none 0 0, .int .i64 0, .int .i64 0, .int .i64 0]) ?_ 0 _ rfl; (with_reducible repeat (first | refine blk_drewN ?_ _ | refine blk_drew ?_ | refine blk_alloc ?_ _)); exact BK8.out⟩, ⟨by repeat (first | (with_reducible first | exact HB.out | apply below_alloc | apply pw_below_drewN | apply below_drew1 | refine below_set ?_ GE1.out | refine below_set ?_ GE8.out) | exact HB.out)⟩⟩
 case round =>
  clear H'
  try clear c1
  try clear p2
  try clear c10
  try clear hcz11_0
  try clear hcz11_1
  try clear hcz11_2
  try clear hcz11_3
  try clear hfz11_0
  try clear hfz11_1
  try clear hfz11_2
  try clear hfz11_3
  obtain ⟨x18_1, x9001_1, x9002_1, x9003_1, rfl, HA, HK1, HO_16, HO_9000, BK1, BK8, HB⟩ := hrel
  cases gk with
  | zero => exact absurd HA.out (by simp [room_made.l0])
  | succ k1 =>
   have H := HA.out
   clear HA
   simp only [room_made.l0] at H
   by_cases c12 : x18_1 < (t2.length : Int)
   ·rw [if_pos c12] at H
    have c12b0 : decide (x18_1 < (t2.length : Int)) = true := decide_eq_true c12
    clear c12
    by_cases c13 : 0 ≤ x18_1
    ·rw [if_pos c13] at H
     have c13b0 : decide (0 ≤ x18_1) = true := decide_eq_true c13
     clear c13
     by_cases c14 : x18_1 < (t2.length : Int)
     ·rw [if_pos c14] at H
      have c14b0 : decide (x18_1 < (t2.length : Int)) = true := decide_eq_true c14
      clear c14
      replace H := Option.bind_eq_some_iff.mp H
      obtain ⟨⟨t11, t12, t13⟩, A150, H⟩ := H
      replace H : ((vec_Add.f (([(⟨x9001_1, x9002_1, x9003_1⟩ : S27), (⟨t11, t12, t13⟩ : S27)] : List (S27)))).bind fun bt18 => ((vec_Max.f (([(⟨x9001_1, x9002_1, x9003_1⟩ : S27), (⟨t11, t12, t13⟩ : S27)] : List (S27)))).bind fun bt24 => ((vec_Sub.f bt18.1 bt18.2.1 bt18.2.2 bt24.1 bt24.2.1 bt24.2.2).bind fun bt27 => (room_made.l0 k1 t2 (t2.length : Int) (wrap64 (x18_1 + 1)) t2 bt27.1 bt27.2.1 bt27.2.2)))) = some (r1, r2, r3, r4) := H
      have A15 := Aside0.mk A150
      clear A150
      obtain ⟨y15, hy15⟩ : ∃ y_ : List (S27), y_ = (([(⟨x9001_1, x9002_1, x9003_1⟩ : S27), (⟨t11, t12, t13⟩ : S27)] : List (S27))) := ⟨_, rfl⟩
      replace H : ((vec_Add.f y15).bind fun bt18 => ((vec_Max.f (([(⟨x9001_1, x9002_1, x9003_1⟩ : S27), (⟨t11, t12, t13⟩ : S27)] : List (S27)))).bind fun bt24 => ((vec_Sub.f bt18.1 bt18.2.1 bt18.2.2 bt24.1 bt24.2.1 bt24.2.2).bind fun bt27 => (room_made.l0 k1 t2 (t2.length : Int) (wrap64 (x18_1 + 1)) t2 bt27.1 bt27.2.1 bt27.2.2)))) = some (r1, r2, r3, r4) := by first | (rw [hy15]; with_reducible exact H) | (have H2_ := (Option.bind_some _ _).symm.trans H; rw [hy15]; with_reducible exact H2_) | (have H2_ := (Option.bind_some _ _).symm.trans H; with_reducible exact H2_) | with_reducible exact H | (rw [hy15]; exact H) | exact H
      have Ny15 := Aside0.mk hy15
      clear hy15
      replace H := Option.bind_eq_some_iff.mp H
      obtain ⟨⟨t18, t19, t20⟩, A160, H⟩ := H
      replace H : ((vec_Max.f (([(⟨x9001_1, x9002_1, x9003_1⟩ : S27), (⟨t11, t12, t13⟩ : S27)] : List (S27)))).bind fun bt24 => ((vec_Sub.f t18 t19 t20 bt24.1 bt24.2.1 bt24.2.2).bind fun bt27 => (room_made.l0 k1 t2 (t2.length : Int) (wrap64 (x18_1 + 1)) t2 bt27.1 bt27.2.1 bt27.2.2))) = some (r1, r2, r3, r4) := H
      have A16 := Aside0.mk A160
      clear A160
      obtain ⟨y21, hy21⟩ : ∃ y_ : List (S27), y_ = (([(⟨x9001_1, x9002_1, x9003_1⟩ : S27), (⟨t11, t12, t13⟩ : S27)] : List (S27))) := ⟨_, rfl⟩
      replace H : ((vec_Max.f y21).bind fun bt24 => ((vec_Sub.f t18 t19 t20 bt24.1 bt24.2.1 bt24.2.2).bind fun bt27 => (room_made.l0 k1 t2 (t2.length : Int) (wrap64 (x18_1 + 1)) t2 bt27.1 bt27.2.1 bt27.2.2))) = some (r1, r2, r3, r4) := by first | (rw [hy21]; with_reducible exact H) | (have H2_ := (Option.bind_some _ _).symm.trans H; rw [hy21]; with_reducible exact H2_) | (have H2_ := (Option.bind_some _ _).symm.trans H; with_reducible exact H2_) | with_reducible exact H | (rw [hy21]; exact H) | exact H
      have Ny21 := Aside0.mk hy21
      clear hy21
      replace H := Option.bind_eq_some_iff.mp H
      obtain ⟨⟨t24, t25, t26⟩, A170, H⟩ := H
      replace H : ((vec_Sub.f t18 t19 t20 t24 t25 t26).bind fun bt27 => (room_made.l0 k1 t2 (t2.length : Int) (wrap64 (x18_1 + 1)) t2 bt27.1 bt27.2.1 bt27.2.2)) = some (r1, r2, r3, r4) := H
      have A17 := Aside0.mk A170
      clear A170
      replace H := Option.bind_eq_some_iff.mp H
      obtain ⟨⟨t27, t28, t29⟩, A180, H⟩ := H
      replace H : (room_made.l0 k1 t2 (t2.length : Int) (wrap64 (x18_1 + 1)) t2 t27 t28 t29) = some (r1, r2, r3, r4) := H
      have A18 := Aside0.mk A180
      clear A180
      have H' := Aside0.mk H
      clear H
      have p9 : 0 ≤ (x18_1 : Int) := of_decide_eq_true (by first | (with_reducible assumption) | assumption)
      have q9 : x18_1 < (t2.length : Int) := of_decide_eq_true (by first | (with_reducible assumption) | assumption)
      obtain ⟨ad9, e9, hx9_0, hx9_1, hx9_2, hx9_3, hx9_4, hx9_5, hx9_6, hx9_7, hx9_8, hx9_9, hx9_10, hx9_11⟩ := at_T31 (Kd.R_reads' HO_16.out).2.2 x18_1 p9 q9
      cases e9
      replace p9 := eq_true p9
      replace q9 := eq_true q9
      try go_wp2_with (first | ((with_reducible refine gate_dst (N := 7) rfl ?_); refine box_event ?hg (N := 7) ?hd (cs := #[.string (⟨#[]⟩ : ByteArray), .string (⟨#[]⟩ : ByteArray), .int .i64 0, .int .i64 0, .int .i64 0, .int .i64 0, .int .i64 0, .int .i64 0, .int .i64 0, .int .i64 0, .int .i64 0, .int .i64 0]) (t := 31) ?hr ?_; (case hd => rfl); (case hg => rfl); (case hr => first | (go_simp; done) | (go_simp; rfl)); intro gb10 hg w19 hbox hb; have n0_ := Aside0.mk (Kd.R_below (Kd.R_elderB (by (with_reducible repeat (first | apply Kd.R_alloc | apply Kd.R_drewN | apply Kd.R_drew)); exact HO_16.out) gb10 (Nat.le_of_eq hg.symm)) hb); have n1_ := Aside0.mk (Kd.R_below (Kd.R_elderB (by (with_reducible repeat (first | apply Kd.R_alloc | apply Kd.R_drewN | apply Kd.R_drew)); exact HO_9000.out) gb10 (Nat.le_of_eq hg.symm)) hb); have n2_ := Aside0.mk (blk_below (g := gb1) (o := .cells #[.slice none 0 0, .int .i64 0, .int .i64 0, .int .i64 0] 127 (0, 0)) (by (with_reducible repeat (first | refine blk_drewN ?_ _ | refine blk_drew ?_ | refine blk_alloc ?_ _)); exact BK1.out) hb); have n3_ := Aside0.mk (blk_below (g := gb8) (o := .cells #[.slice (some ad9) t2.length co8, .int .i64 x9001_1, .int .i64 x9002_1, .int .i64 x9003_1] 127 (0, 0)) (by (with_reducible repeat (first | refine blk_drewN ?_ _ | refine blk_drew ?_ | refine blk_alloc ?_ _)); exact BK8.out) hb); have n4_ := Aside0.mk (below_step (by repeat (first | (with_reducible first | exact HB.out | apply below_alloc | apply pw_below_drewN | apply below_drew1 | refine below_set ?_ GE1.out | refine below_set ?_ GE8.out) | exact HB.out)) hb); have n5_ := Aside0.mk (hbox); have n6_ := Aside0.mk ((by rw [hg]; exact (below_size (by repeat (first | (with_reducible first | exact HB.out | apply below_alloc | apply pw_below_drewN | apply below_drew1 | refine below_set ?_ GE1.out | refine below_set ?_ GE8.out) | exact HB.out))) : w.heap.size ≤ gb10)); have n7_ := Aside0.mk ((by rw [hg]; exact (below_size (by repeat (first | (with_reducible first | exact HB.out | apply below_alloc | apply pw_below_drewN | apply below_drew1 | refine below_set ?_ GE1.out | refine below_set ?_ GE8.out) | exact HB.out))) : w.heap.size ≤ gb10)); have n8_ := Aside0.mk ((by rw [hg]; exact Nat.ne_of_lt (blk_lt (g := gb1) (o := .cells #[.slice none 0 0, .int .i64 0, .int .i64 0, .int .i64 0] 127 (0, 0)) (by (with_reducible repeat (first | refine blk_drewN ?_ _ | refine blk_drew ?_ | refine blk_alloc ?_ _)); exact BK1.out)) : gb1 ≠ gb10)); have n9_ := Aside0.mk ((by rw [hg]; exact Nat.ne_of_gt (blk_lt (g := gb1) (o := .cells #[.slice none 0 0, .int .i64 0, .int .i64 0, .int .i64 0] 127 (0, 0)) (by (with_reducible repeat (first | refine blk_drewN ?_ _ | refine blk_drew ?_ | refine blk_alloc ?_ _)); exact BK1.out)) : gb10 ≠ gb1)); have n10_ := Aside0.mk ((by rw [hg]; exact Nat.ne_of_lt (blk_lt (g := gb8) (o := .cells #[.slice (some ad9) t2.length co8, .int .i64 x9001_1, .int .i64 x9002_1, .int .i64 x9003_1] 127 (0, 0)) (by (with_reducible repeat (first | refine blk_drewN ?_ _ | refine blk_drew ?_ | refine blk_alloc ?_ _)); exact BK8.out)) : gb8 ≠ gb10)); have n11_ := Aside0.mk ((by rw [hg]; exact Nat.ne_of_gt (blk_lt (g := gb8) (o := .cells #[.slice (some ad9) t2.length co8, .int .i64 x9001_1, .int .i64 x9002_1, .int .i64 x9003_1] 127 (0, 0)) (by (with_reducible repeat (first | refine blk_drewN ?_ _ | refine blk_drew ?_ | refine blk_alloc ?_ _)); exact BK8.out)) : gb10 ≠ gb8)); clear HO_16; clear HO_9000; clear BK1; clear BK8; clear HB; have HO_16 := n0_; have HO_9000 := n1_; have BK1 := n2_; have BK8 := n3_; have HB := n4_; have BK10 := n5_; have GW10 := n6_; have GE10 := n7_; have NB1_10 := n8_; have NB10_1 := n9_; have NB8_10 := n10_; have NB10_8 := n11_; clear n0_ n1_ n2_ n3_ n4_ n5_ n6_ n7_ n8_ n9_ n10_ n11_; clear hb hbox hg; have hnb20 := NB10_1.out; have hnc20 := NB1_10.out; have hnb21 := NB10_8.out; have hnc21 := NB8_10.out; have hcz22_0 : w19.cell? ⟨gb10, 0, none⟩ = some (.string (⟨#[]⟩ : ByteArray)) := (blk_cell BK10.out 0).trans rfl; have hcz22_1 : w19.cell? ⟨gb10, 1, none⟩ = some (.string (⟨#[]⟩ : ByteArray)) := (blk_cell BK10.out 1).trans rfl; have hcz22_2 : w19.cell? ⟨gb10, 2, none⟩ = some (.int .i64 0) := (blk_cell BK10.out 2).trans rfl; have hcz22_3 : w19.cell? ⟨gb10, 3, none⟩ = some (.int .i64 0) := (blk_cell BK10.out 3).trans rfl; have hcz22_4 : w19.cell? ⟨gb10, 4, none⟩ = some (.int .i64 0) := (blk_cell BK10.out 4).trans rfl; have hcz22_5 : w19.cell? ⟨gb10, 5, none⟩ = some (.int .i64 0) := (blk_cell BK10.out 5).trans rfl; have hcz22_6 : w19.cell? ⟨gb10, 6, none⟩ = some (.int .i64 0) := (blk_cell BK10.out 6).trans rfl; have hcz22_7 : w19.cell? ⟨gb10, 7, none⟩ = some (.int .i64 0) := (blk_cell BK10.out 7).trans rfl; have hcz22_8 : w19.cell? ⟨gb10, 8, none⟩ = some (.int .i64 0) := (blk_cell BK10.out 8).trans rfl; have hcz22_9 : w19.cell? ⟨gb10, 9, none⟩ = some (.int .i64 0) := (blk_cell BK10.out 9).trans rfl; have hcz22_10 : w19.cell? ⟨gb10, 10, none⟩ = some (.int .i64 0) := (blk_cell BK10.out 10).trans rfl; have hcz22_11 : w19.cell? ⟨gb10, 11, none⟩ = some (.int .i64 0) := (blk_cell BK10.out 11).trans rfl; have hfz22_0 := blk_frozen BK10.out 0; have hfz22_1 := blk_frozen BK10.out 1; have hfz22_2 := blk_frozen BK10.out 2; have hfz22_3 := blk_frozen BK10.out 3; have hfz22_4 := blk_frozen BK10.out 4; have hfz22_5 := blk_frozen BK10.out 5; have hfz22_6 := blk_frozen BK10.out 6; have hfz22_7 := blk_frozen BK10.out 7; have hfz22_8 := blk_frozen BK10.out 8; have hfz22_9 := blk_frozen BK10.out 9; have hfz22_10 := blk_frozen BK10.out 10; have hfz22_11 := blk_frozen BK10.out 11) | ((with_reducible refine gate_callee (f := 158) rfl ?_); refine goesL_ (some 23) rfl rfl Try.func158 (by kernel_rfl) rfl #[.agg #[.string ((rd_T31 t2 x18_1).f0), .string ((rd_T31 t2 x18_1).f1), .int .i64 ((rd_T31 t2 x18_1).f2.f0), .int .i64 ((rd_T31 t2 x18_1).f2.f1), .int .i64 ((rd_T31 t2 x18_1).f2.f2), .int .i64 ((rd_T31 t2 x18_1).f3.f0), .int .i64 ((rd_T31 t2 x18_1).f3.f1), .int .i64 ((rd_T31 t2 x18_1).f3.f2), .int .i64 ((rd_T31 t2 x18_1).f4.f0), .int .i64 ((rd_T31 t2 x18_1).f4.f1), .int .i64 ((rd_T31 t2 x18_1).f4.f2), .int .i64 ((rd_T31 t2 x18_1).f5)]] rfl (by (try simp only [List.map_toArray, List.map_cons, List.map_nil]); first | done | rfl | (simp only [List.length_drop, List.length_take]; rfl)) ?_; (with_reducible refine (room_free.calls ((rd_T31 t2 x18_1).f0) ((rd_T31 t2 x18_1).f1) ((rd_T31 t2 x18_1).f2.f0) ((rd_T31 t2 x18_1).f2.f1) ((rd_T31 t2 x18_1).f2.f2) ((rd_T31 t2 x18_1).f3.f0) ((rd_T31 t2 x18_1).f3.f1) ((rd_T31 t2 x18_1).f3.f2) ((rd_T31 t2 x18_1).f4.f0) ((rd_T31 t2 x18_1).f4.f1) ((rd_T31 t2 x18_1).f4.f2) ((rd_T31 t2 x18_1).f5) t11 t12 t13 _ A15.out).mono ?_); rintro e w23 ⟨rfl, hb⟩; refine ⟨_, rfl, ?_⟩; have n0_ := Aside0.mk (Kd.R_below (by (with_reducible repeat (first | apply Kd.R_alloc | apply Kd.R_drewN | apply Kd.R_drew)); exact (Kd.R_mono (Kd.R_far (p := ⟨gb10, 11, none⟩) (Kd.R_far (p := ⟨gb10, 10, none⟩) (Kd.R_far (p := ⟨gb10, 9, none⟩) (Kd.R_far (p := ⟨gb10, 8, none⟩) (Kd.R_far (p := ⟨gb10, 7, none⟩) (Kd.R_far (p := ⟨gb10, 6, none⟩) (Kd.R_far (p := ⟨gb10, 5, none⟩) (Kd.R_far (p := ⟨gb10, 4, none⟩) (Kd.R_far (p := ⟨gb10, 3, none⟩) (Kd.R_far (p := ⟨gb10, 2, none⟩) (Kd.R_far (p := ⟨gb10, 1, none⟩) (Kd.R_far (p := ⟨gb10, 0, none⟩) (Kd.R_mono HO_16.out (fun k_ hk => (⟨hk, hk.2⟩ : _ ∧ k_ ≠ gb10))) (fun _ hk => hk.2) (.string ((rd_T31 t2 x18_1).f0))) (fun _ hk => hk.2) (.string ((rd_T31 t2 x18_1).f1))) (fun _ hk => hk.2) (.int .i64 ((rd_T31 t2 x18_1).f2.f0))) (fun _ hk => hk.2) (.int .i64 ((rd_T31 t2 x18_1).f2.f1))) (fun _ hk => hk.2) (.int .i64 ((rd_T31 t2 x18_1).f2.f2))) (fun _ hk => hk.2) (.int .i64 ((rd_T31 t2 x18_1).f3.f0))) (fun _ hk => hk.2) (.int .i64 ((rd_T31 t2 x18_1).f3.f1))) (fun _ hk => hk.2) (.int .i64 ((rd_T31 t2 x18_1).f3.f2))) (fun _ hk => hk.2) (.int .i64 ((rd_T31 t2 x18_1).f4.f0))) (fun _ hk => hk.2) (.int .i64 ((rd_T31 t2 x18_1).f4.f1))) (fun _ hk => hk.2) (.int .i64 ((rd_T31 t2 x18_1).f4.f2))) (fun _ hk => hk.2) (.int .i64 ((rd_T31 t2 x18_1).f5))) (fun _ h_ => h_.1))) hb); have n1_ := Aside0.mk (Kd.R_below (by (with_reducible repeat (first | apply Kd.R_alloc | apply Kd.R_drewN | apply Kd.R_drew)); exact (Kd.R_mono (Kd.R_far (p := ⟨gb10, 11, none⟩) (Kd.R_far (p := ⟨gb10, 10, none⟩) (Kd.R_far (p := ⟨gb10, 9, none⟩) (Kd.R_far (p := ⟨gb10, 8, none⟩) (Kd.R_far (p := ⟨gb10, 7, none⟩) (Kd.R_far (p := ⟨gb10, 6, none⟩) (Kd.R_far (p := ⟨gb10, 5, none⟩) (Kd.R_far (p := ⟨gb10, 4, none⟩) (Kd.R_far (p := ⟨gb10, 3, none⟩) (Kd.R_far (p := ⟨gb10, 2, none⟩) (Kd.R_far (p := ⟨gb10, 1, none⟩) (Kd.R_far (p := ⟨gb10, 0, none⟩) (Kd.R_mono HO_9000.out (fun k_ hk => (⟨hk, hk.2⟩ : _ ∧ k_ ≠ gb10))) (fun _ hk => hk.2) (.string ((rd_T31 t2 x18_1).f0))) (fun _ hk => hk.2) (.string ((rd_T31 t2 x18_1).f1))) (fun _ hk => hk.2) (.int .i64 ((rd_T31 t2 x18_1).f2.f0))) (fun _ hk => hk.2) (.int .i64 ((rd_T31 t2 x18_1).f2.f1))) (fun _ hk => hk.2) (.int .i64 ((rd_T31 t2 x18_1).f2.f2))) (fun _ hk => hk.2) (.int .i64 ((rd_T31 t2 x18_1).f3.f0))) (fun _ hk => hk.2) (.int .i64 ((rd_T31 t2 x18_1).f3.f1))) (fun _ hk => hk.2) (.int .i64 ((rd_T31 t2 x18_1).f3.f2))) (fun _ hk => hk.2) (.int .i64 ((rd_T31 t2 x18_1).f4.f0))) (fun _ hk => hk.2) (.int .i64 ((rd_T31 t2 x18_1).f4.f1))) (fun _ hk => hk.2) (.int .i64 ((rd_T31 t2 x18_1).f4.f2))) (fun _ hk => hk.2) (.int .i64 ((rd_T31 t2 x18_1).f5))) (fun _ h_ => h_.1))) hb); have n2_ := Aside0.mk (blk_below (g := gb1) (o := .cells #[.slice none 0 0, .int .i64 0, .int .i64 0, .int .i64 0] 127 (0, 0)) (by (with_reducible repeat (first | refine blk_drewN ?_ _ | refine blk_drew ?_ | refine blk_alloc ?_ _)); refine blk_far ?_ NB1_10.out _; (with_reducible repeat (first | refine blk_drewN ?_ _ | refine blk_drew ?_ | refine blk_alloc ?_ _)); refine blk_far ?_ NB1_10.out _; (with_reducible repeat (first | refine blk_drewN ?_ _ | refine blk_drew ?_ | refine blk_alloc ?_ _)); refine blk_far ?_ NB1_10.out _; (with_reducible repeat (first | refine blk_drewN ?_ _ | refine blk_drew ?_ | refine blk_alloc ?_ _)); refine blk_far ?_ NB1_10.out _; (with_reducible repeat (first | refine blk_drewN ?_ _ | refine blk_drew ?_ | refine blk_alloc ?_ _)); refine blk_far ?_ NB1_10.out _; (with_reducible repeat (first | refine blk_drewN ?_ _ | refine blk_drew ?_ | refine blk_alloc ?_ _)); refine blk_far ?_ NB1_10.out _; (with_reducible repeat (first | refine blk_drewN ?_ _ | refine blk_drew ?_ | refine blk_alloc ?_ _)); refine blk_far ?_ NB1_10.out _; (with_reducible repeat (first | refine blk_drewN ?_ _ | refine blk_drew ?_ | refine blk_alloc ?_ _)); refine blk_far ?_ NB1_10.out _; (with_reducible repeat (first | refine blk_drewN ?_ _ | refine blk_drew ?_ | refine blk_alloc ?_ _)); refine blk_far ?_ NB1_10.out _; (with_reducible repeat (first | refine blk_drewN ?_ _ | refine blk_drew ?_ | refine blk_alloc ?_ _)); refine blk_far ?_ NB1_10.out _; (with_reducible repeat (first | refine blk_drewN ?_ _ | refine blk_drew ?_ | refine blk_alloc ?_ _)); refine blk_far ?_ NB1_10.out _; (with_reducible repeat (first | refine blk_drewN ?_ _ | refine blk_drew ?_ | refine blk_alloc ?_ _)); refine blk_far ?_ NB1_10.out _; (with_reducible repeat (first | refine blk_drewN ?_ _ | refine blk_drew ?_ | refine blk_alloc ?_ _)); exact BK1.out) hb); have n3_ := Aside0.mk (blk_below (g := gb8) (o := .cells #[.slice (some ad9) t2.length co8, .int .i64 x9001_1, .int .i64 x9002_1, .int .i64 x9003_1] 127 (0, 0)) (by (with_reducible repeat (first | refine blk_drewN ?_ _ | refine blk_drew ?_ | refine blk_alloc ?_ _)); refine blk_far ?_ NB8_10.out _; (with_reducible repeat (first | refine blk_drewN ?_ _ | refine blk_drew ?_ | refine blk_alloc ?_ _)); refine blk_far ?_ NB8_10.out _; (with_reducible repeat (first | refine blk_drewN ?_ _ | refine blk_drew ?_ | refine blk_alloc ?_ _)); refine blk_far ?_ NB8_10.out _; (with_reducible repeat (first | refine blk_drewN ?_ _ | refine blk_drew ?_ | refine blk_alloc ?_ _)); refine blk_far ?_ NB8_10.out _; (with_reducible repeat (first | refine blk_drewN ?_ _ | refine blk_drew ?_ | refine blk_alloc ?_ _)); refine blk_far ?_ NB8_10.out _; (with_reducible repeat (first | refine blk_drewN ?_ _ | refine blk_drew ?_ | refine blk_alloc ?_ _)); refine blk_far ?_ NB8_10.out _; (with_reducible repeat (first | refine blk_drewN ?_ _ | refine blk_drew ?_ | refine blk_alloc ?_ _)); refine blk_far ?_ NB8_10.out _; (with_reducible repeat (first | refine blk_drewN ?_ _ | refine blk_drew ?_ | refine blk_alloc ?_ _)); refine blk_far ?_ NB8_10.out _; (with_reducible repeat (first | refine blk_drewN ?_ _ | refine blk_drew ?_ | refine blk_alloc ?_ _)); refine blk_far ?_ NB8_10.out _; (with_reducible repeat (first | refine blk_drewN ?_ _ | refine blk_drew ?_ | refine blk_alloc ?_ _)); refine blk_far ?_ NB8_10.out _; (with_reducible repeat (first | refine blk_drewN ?_ _ | refine blk_drew ?_ | refine blk_alloc ?_ _)); refine blk_far ?_ NB8_10.out _; (with_reducible repeat (first | refine blk_drewN ?_ _ | refine blk_drew ?_ | refine blk_alloc ?_ _)); refine blk_far ?_ NB8_10.out _; (with_reducible repeat (first | refine blk_drewN ?_ _ | refine blk_drew ?_ | refine blk_alloc ?_ _)); exact BK8.out) hb); have n4_ := Aside0.mk (blk_below (g := gb10) (o := .cells #[.string ((rd_T31 t2 x18_1).f0), .string ((rd_T31 t2 x18_1).f1), .int .i64 ((rd_T31 t2 x18_1).f2.f0), .int .i64 ((rd_T31 t2 x18_1).f2.f1), .int .i64 ((rd_T31 t2 x18_1).f2.f2), .int .i64 ((rd_T31 t2 x18_1).f3.f0), .int .i64 ((rd_T31 t2 x18_1).f3.f1), .int .i64 ((rd_T31 t2 x18_1).f3.f2), .int .i64 ((rd_T31 t2 x18_1).f4.f0), .int .i64 ((rd_T31 t2 x18_1).f4.f1), .int .i64 ((rd_T31 t2 x18_1).f4.f2), .int .i64 ((rd_T31 t2 x18_1).f5)] 31 (0, 0)) (by (with_reducible repeat (first | refine blk_drewN ?_ _ | refine blk_drew ?_ | refine blk_alloc ?_ _)); refine blk_put (cs := #[.string ((rd_T31 t2 x18_1).f0), .string ((rd_T31 t2 x18_1).f1), .int .i64 ((rd_T31 t2 x18_1).f2.f0), .int .i64 ((rd_T31 t2 x18_1).f2.f1), .int .i64 ((rd_T31 t2 x18_1).f2.f2), .int .i64 ((rd_T31 t2 x18_1).f3.f0), .int .i64 ((rd_T31 t2 x18_1).f3.f1), .int .i64 ((rd_T31 t2 x18_1).f3.f2), .int .i64 ((rd_T31 t2 x18_1).f4.f0), .int .i64 ((rd_T31 t2 x18_1).f4.f1), .int .i64 ((rd_T31 t2 x18_1).f4.f2), .int .i64 0]) ?_ 11 _ rfl; (with_reducible repeat (first | refine blk_drewN ?_ _ | refine blk_drew ?_ | refine blk_alloc ?_ _)); refine blk_put (cs := #[.string ((rd_T31 t2 x18_1).f0), .string ((rd_T31 t2 x18_1).f1), .int .i64 ((rd_T31 t2 x18_1).f2.f0), .int .i64 ((rd_T31 t2 x18_1).f2.f1), .int .i64 ((rd_T31 t2 x18_1).f2.f2), .int .i64 ((rd_T31 t2 x18_1).f3.f0), .int .i64 ((rd_T31 t2 x18_1).f3.f1), .int .i64 ((rd_T31 t2 x18_1).f3.f2), .int .i64 ((rd_T31 t2 x18_1).f4.f0), .int .i64 ((rd_T31 t2 x18_1).f4.f1), .int .i64 0, .int .i64 0]) ?_ 10 _ rfl; (with_reducible repeat (first | refine blk_drewN ?_ _ | refine blk_drew ?_ | refine blk_alloc ?_ _)); refine blk_put (cs := #[.string ((rd_T31 t2 x18_1).f0), .string ((rd_T31 t2 x18_1).f1), .int .i64 ((rd_T31 t2 x18_1).f2.f0), .int .i64 ((rd_T31 t2 x18_1).f2.f1), .int .i64 ((rd_T31 t2 x18_1).f2.f2), .int .i64 ((rd_T31 t2 x18_1).f3.f0), .int .i64 ((rd_T31 t2 x18_1).f3.f1), .int .i64 ((rd_T31 t2 x18_1).f3.f2), .int .i64 ((rd_T31 t2 x18_1).f4.f0), .int .i64 0, .int .i64 0, .int .i64 0]) ?_ 9 _ rfl; (with_reducible repeat (first | refine blk_drewN ?_ _ | refine blk_drew ?_ | refine blk_alloc ?_ _)); refine blk_put (cs := #[.string ((rd_T31 t2 x18_1).f0), .string ((rd_T31 t2 x18_1).f1), .int .i64 ((rd_T31 t2 x18_1).f2.f0), .int .i64 ((rd_T31 t2 x18_1).f2.f1), .int .i64 ((rd_T31 t2 x18_1).f2.f2), .int .i64 ((rd_T31 t2 x18_1).f3.f0), .int .i64 ((rd_T31 t2 x18_1).f3.f1), .int .i64 ((rd_T31 t2 x18_1).f3.f2), .int .i64 0, .int .i64 0, .int .i64 0, .int .i64 0]) ?_ 8 _ rfl; (with_reducible repeat (first | refine blk_drewN ?_ _ | refine blk_drew ?_ | refine blk_alloc ?_ _)); refine blk_put (cs := #[.string ((rd_T31 t2 x18_1).f0), .string ((rd_T31 t2 x18_1).f1), .int .i64 ((rd_T31 t2 x18_1).f2.f0), .int .i64 ((rd_T31 t2 x18_1).f2.f1), .int .i64 ((rd_T31 t2 x18_1).f2.f2), .int .i64 ((rd_T31 t2 x18_1).f3.f0), .int .i64 ((rd_T31 t2 x18_1).f3.f1), .int .i64 0, .int .i64 0, .int .i64 0, .int .i64 0, .int .i64 0]) ?_ 7 _ rfl; (with_reducible repeat (first | refine blk_drewN ?_ _ | refine blk_drew ?_ | refine blk_alloc ?_ _)); refine blk_put (cs := #[.string ((rd_T31 t2 x18_1).f0), .string ((rd_T31 t2 x18_1).f1), .int .i64 ((rd_T31 t2 x18_1).f2.f0), .int .i64 ((rd_T31 t2 x18_1).f2.f1), .int .i64 ((rd_T31 t2 x18_1).f2.f2), .int .i64 ((rd_T31 t2 x18_1).f3.f0), .int .i64 0, .int .i64 0, .int .i64 0, .int .i64 0, .int .i64 0, .int .i64 0]) ?_ 6 _ rfl; (with_reducible repeat (first | refine blk_drewN ?_ _ | refine blk_drew ?_ | refine blk_alloc ?_ _)); refine blk_put (cs := #[.string ((rd_T31 t2 x18_1).f0), .string ((rd_T31 t2 x18_1).f1), .int .i64 ((rd_T31 t2 x18_1).f2.f0), .int .i64 ((rd_T31 t2 x18_1).f2.f1), .int .i64 ((rd_T31 t2 x18_1).f2.f2), .int .i64 0, .int .i64 0, .int .i64 0, .int .i64 0, .int .i64 0, .int .i64 0, .int .i64 0]) ?_ 5 _ rfl; (with_reducible repeat (first | refine blk_drewN ?_ _ | refine blk_drew ?_ | refine blk_alloc ?_ _)); refine blk_put (cs := #[.string ((rd_T31 t2 x18_1).f0), .string ((rd_T31 t2 x18_1).f1), .int .i64 ((rd_T31 t2 x18_1).f2.f0), .int .i64 ((rd_T31 t2 x18_1).f2.f1), .int .i64 0, .int .i64 0, .int .i64 0, .int .i64 0, .int .i64 0, .int .i64 0, .int .i64 0, .int .i64 0]) ?_ 4 _ rfl; (with_reducible repeat (first | refine blk_drewN ?_ _ | refine blk_drew ?_ | refine blk_alloc ?_ _)); refine blk_put (cs := #[.string ((rd_T31 t2 x18_1).f0), .string ((rd_T31 t2 x18_1).f1), .int .i64 ((rd_T31 t2 x18_1).f2.f0), .int .i64 0, .int .i64 0, .int .i64 0, .int .i64 0, .int .i64 0, .int .i64 0, .int .i64 0, .int .i64 0, .int .i64 0]) ?_ 3 _ rfl; (with_reducible repeat (first | refine blk_drewN ?_ _ | refine blk_drew ?_ | refine blk_alloc ?_ _)); refine blk_put (cs := #[.string ((rd_T31 t2 x18_1).f0), .string ((rd_T31 t2 x18_1).f1), .int .i64 0, .int .i64 0, .int .i64 0, .int .i64 0, .int .i64 0, .int .i64 0, .int .i64 0, .int .i64 0, .int .i64 0, .int .i64 0]) ?_ 2 _ rfl; (with_reducible repeat (first | refine blk_drewN ?_ _ | refine blk_drew ?_ | refine blk_alloc ?_ _)); refine blk_put (cs := #[.string ((rd_T31 t2 x18_1).f0), .string (⟨#[]⟩ : ByteArray), .int .i64 0, .int .i64 0, .int .i64 0, .int .i64 0, .int .i64 0, .int .i64 0, .int .i64 0, .int .i64 0, .int .i64 0, .int .i64 0]) ?_ 1 _ rfl; (with_reducible repeat (first | refine blk_drewN ?_ _ | refine blk_drew ?_ | refine blk_alloc ?_ _)); refine blk_put (cs := #[.string (⟨#[]⟩ : ByteArray), .string (⟨#[]⟩ : ByteArray), .int .i64 0, .int .i64 0, .int .i64 0, .int .i64 0, .int .i64 0, .int .i64 0, .int .i64 0, .int .i64 0, .int .i64 0, .int .i64 0]) ?_ 0 _ rfl; (with_reducible repeat (first | refine blk_drewN ?_ _ | refine blk_drew ?_ | refine blk_alloc ?_ _)); exact BK10.out) hb); have n5_ := Aside0.mk (below_step (by repeat (first | (with_reducible first | exact HB.out | apply below_alloc | apply pw_below_drewN | apply below_drew1 | refine below_set ?_ GE1.out | refine below_set ?_ GE8.out | refine below_set ?_ GE10.out) | exact HB.out)) hb); clear HO_16; clear HO_9000; clear BK1; clear BK8; clear BK10; clear HB; have HO_16 := n0_; have HO_9000 := n1_; have BK1 := n2_; have BK8 := n3_; have BK10 := n4_; have HB := n5_; clear n0_ n1_ n2_ n3_ n4_ n5_; (try clear hb); (try clear hb2); (try clear hk); (try clear hi)) | ((with_reducible refine gate_dst (N := 8) rfl ?_); refine box_event ?hg (N := 8) ?hd (cs := #[.int .i64 0, .int .i64 0, .int .i64 0]) (t := 27) ?hr ?_; (case hd => rfl); (case hg => rfl); (case hr => first | (go_simp; done) | (go_simp; rfl)); intro gb14 hg w24 hbox hb; have n0_ := Aside0.mk (Kd.R_below (by (with_reducible repeat (first | apply Kd.R_alloc | apply Kd.R_drewN | apply Kd.R_drew)); exact HO_16.out) hb); have n1_ := Aside0.mk (Kd.R_below (by (with_reducible repeat (first | apply Kd.R_alloc | apply Kd.R_drewN | apply Kd.R_drew)); exact HO_9000.out) hb); have n2_ := Aside0.mk (blk_below (g := gb1) (o := .cells #[.slice none 0 0, .int .i64 0, .int .i64 0, .int .i64 0] 127 (0, 0)) (by (with_reducible repeat (first | refine blk_drewN ?_ _ | refine blk_drew ?_ | refine blk_alloc ?_ _)); exact BK1.out) hb); have n3_ := Aside0.mk (blk_below (g := gb8) (o := .cells #[.slice (some ad9) t2.length co8, .int .i64 x9001_1, .int .i64 x9002_1, .int .i64 x9003_1] 127 (0, 0)) (by (with_reducible repeat (first | refine blk_drewN ?_ _ | refine blk_drew ?_ | refine blk_alloc ?_ _)); exact BK8.out) hb); have n4_ := Aside0.mk (blk_below (g := gb10) (o := .cells #[.string ((rd_T31 t2 x18_1).f0), .string ((rd_T31 t2 x18_1).f1), .int .i64 ((rd_T31 t2 x18_1).f2.f0), .int .i64 ((rd_T31 t2 x18_1).f2.f1), .int .i64 ((rd_T31 t2 x18_1).f2.f2), .int .i64 ((rd_T31 t2 x18_1).f3.f0), .int .i64 ((rd_T31 t2 x18_1).f3.f1), .int .i64 ((rd_T31 t2 x18_1).f3.f2), .int .i64 ((rd_T31 t2 x18_1).f4.f0), .int .i64 ((rd_T31 t2 x18_1).f4.f1), .int .i64 ((rd_T31 t2 x18_1).f4.f2), .int .i64 ((rd_T31 t2 x18_1).f5)] 31 (0, 0)) (by (with_reducible repeat (first | refine blk_drewN ?_ _ | refine blk_drew ?_ | refine blk_alloc ?_ _)); exact BK10.out) hb); have n5_ := Aside0.mk (below_step (by repeat (first | (with_reducible first | exact HB.out | apply below_alloc | apply pw_below_drewN | apply below_drew1 | refine below_set ?_ GE1.out | refine below_set ?_ GE8.out | refine below_set ?_ GE10.out) | exact HB.out)) hb); have n6_ := Aside0.mk (hbox); have n7_ := Aside0.mk ((by rw [hg]; exact (below_size (by repeat (first | (with_reducible first | exact HB.out | apply below_alloc | apply pw_below_drewN | apply below_drew1 | refine below_set ?_ GE1.out | refine below_set ?_ GE8.out | refine below_set ?_ GE10.out) | exact HB.out))) : w.heap.size ≤ gb14)); have n8_ := Aside0.mk ((by rw [hg]; exact (below_size (by repeat (first | (with_reducible first | exact HB.out | apply below_alloc | apply pw_below_drewN | apply below_drew1 | refine below_set ?_ GE1.out | refine below_set ?_ GE8.out | refine below_set ?_ GE10.out) | exact HB.out))) : w.heap.size ≤ gb14)); have n9_ := Aside0.mk ((by rw [hg]; exact Nat.ne_of_lt (blk_lt (g := gb1) (o := .cells #[.slice none 0 0, .int .i64 0, .int .i64 0, .int .i64 0] 127 (0, 0)) (by (with_reducible repeat (first | refine blk_drewN ?_ _ | refine blk_drew ?_ | refine blk_alloc ?_ _)); exact BK1.out)) : gb1 ≠ gb14)); have n10_ := Aside0.mk ((by rw [hg]; exact Nat.ne_of_gt (blk_lt (g := gb1) (o := .cells #[.slice none 0 0, .int .i64 0, .int .i64 0, .int .i64 0] 127 (0, 0)) (by (with_reducible repeat (first | refine blk_drewN ?_ _ | refine blk_drew ?_ | refine blk_alloc ?_ _)); exact BK1.out)) : gb14 ≠ gb1)); have n11_ := Aside0.mk ((by rw [hg]; exact Nat.ne_of_lt (blk_lt (g := gb8) (o := .cells #[.slice (some ad9) t2.length co8, .int .i64 x9001_1, .int .i64 x9002_1, .int .i64 x9003_1] 127 (0, 0)) (by (with_reducible repeat (first | refine blk_drewN ?_ _ | refine blk_drew ?_ | refine blk_alloc ?_ _)); exact BK8.out)) : gb8 ≠ gb14)); have n12_ := Aside0.mk ((by rw [hg]; exact Nat.ne_of_gt (blk_lt (g := gb8) (o := .cells #[.slice (some ad9) t2.length co8, .int .i64 x9001_1, .int .i64 x9002_1, .int .i64 x9003_1] 127 (0, 0)) (by (with_reducible repeat (first | refine blk_drewN ?_ _ | refine blk_drew ?_ | refine blk_alloc ?_ _)); exact BK8.out)) : gb14 ≠ gb8)); have n13_ := Aside0.mk ((by rw [hg]; exact Nat.ne_of_lt (blk_lt (g := gb10) (o := .cells #[.string ((rd_T31 t2 x18_1).f0), .string ((rd_T31 t2 x18_1).f1), .int .i64 ((rd_T31 t2 x18_1).f2.f0), .int .i64 ((rd_T31 t2 x18_1).f2.f1), .int .i64 ((rd_T31 t2 x18_1).f2.f2), .int .i64 ((rd_T31 t2 x18_1).f3.f0), .int .i64 ((rd_T31 t2 x18_1).f3.f1), .int .i64 ((rd_T31 t2 x18_1).f3.f2), .int .i64 ((rd_T31 t2 x18_1).f4.f0), .int .i64 ((rd_T31 t2 x18_1).f4.f1), .int .i64 ((rd_T31 t2 x18_1).f4.f2), .int .i64 ((rd_T31 t2 x18_1).f5)] 31 (0, 0)) (by (with_reducible repeat (first | refine blk_drewN ?_ _ | refine blk_drew ?_ | refine blk_alloc ?_ _)); exact BK10.out)) : gb10 ≠ gb14)); have n14_ := Aside0.mk ((by rw [hg]; exact Nat.ne_of_gt (blk_lt (g := gb10) (o := .cells #[.string ((rd_T31 t2 x18_1).f0), .string ((rd_T31 t2 x18_1).f1), .int .i64 ((rd_T31 t2 x18_1).f2.f0), .int .i64 ((rd_T31 t2 x18_1).f2.f1), .int .i64 ((rd_T31 t2 x18_1).f2.f2), .int .i64 ((rd_T31 t2 x18_1).f3.f0), .int .i64 ((rd_T31 t2 x18_1).f3.f1), .int .i64 ((rd_T31 t2 x18_1).f3.f2), .int .i64 ((rd_T31 t2 x18_1).f4.f0), .int .i64 ((rd_T31 t2 x18_1).f4.f1), .int .i64 ((rd_T31 t2 x18_1).f4.f2), .int .i64 ((rd_T31 t2 x18_1).f5)] 31 (0, 0)) (by (with_reducible repeat (first | refine blk_drewN ?_ _ | refine blk_drew ?_ | refine blk_alloc ?_ _)); exact BK10.out)) : gb14 ≠ gb10)); clear HO_16; clear HO_9000; clear BK1; clear BK8; clear BK10; clear HB; have HO_16 := n0_; have HO_9000 := n1_; have BK1 := n2_; have BK8 := n3_; have BK10 := n4_; have HB := n5_; have BK14 := n6_; have GW14 := n7_; have GE14 := n8_; have NB1_14 := n9_; have NB14_1 := n10_; have NB8_14 := n11_; have NB14_8 := n12_; have NB10_14 := n13_; have NB14_10 := n14_; clear n0_ n1_ n2_ n3_ n4_ n5_ n6_ n7_ n8_ n9_ n10_ n11_ n12_ n13_ n14_; clear hb hbox hg; have hnb25 := NB14_1.out; have hnc25 := NB1_14.out; have hnb26 := NB14_8.out; have hnc26 := NB8_14.out; have hnb27 := NB14_10.out; have hnc27 := NB10_14.out; have hcz28_0 : w24.cell? ⟨gb14, 0, none⟩ = some (.int .i64 0) := (blk_cell BK14.out 0).trans rfl; have hcz28_1 : w24.cell? ⟨gb14, 1, none⟩ = some (.int .i64 0) := (blk_cell BK14.out 1).trans rfl; have hcz28_2 : w24.cell? ⟨gb14, 2, none⟩ = some (.int .i64 0) := (blk_cell BK14.out 2).trans rfl; have hfz28_0 := blk_frozen BK14.out 0; have hfz28_1 := blk_frozen BK14.out 1; have hfz28_2 := blk_frozen BK14.out 2))
      have n0_ : Aside0 (Kd.R k31 31 (((w24.setCell ⟨gb14, 0, none⟩ (.int .i64 t11)).setCell ⟨gb14, 1, none⟩ (.int .i64 t12)).setCell ⟨gb14, 2, none⟩ (.int .i64 t13)) w.heap.size (fun k_ => k_ ≠ gb10) (.slice (some ad9) t2.length co8) t2) := ⟨by (with_reducible repeat (first | apply Kd.R_alloc | apply Kd.R_drewN | apply Kd.R_drew)); exact Kd.R_mono (Kd.R_far (p := ⟨gb14, 2, none⟩) (Kd.R_far (p := ⟨gb14, 1, none⟩) (Kd.R_far (p := ⟨gb14, 0, none⟩) (Kd.R_types HO_16.out BK14.out (by decide)) (fun _ hk => hk.2) (.int .i64 t11)) (fun _ hk => hk.2) (.int .i64 t12)) (fun _ hk => hk.2) (.int .i64 t13)) (fun _ hk => hk.1.2)⟩
      have n1_ : Aside0 (Kd.R k31 31 (((w24.setCell ⟨gb14, 0, none⟩ (.int .i64 t11)).setCell ⟨gb14, 1, none⟩ (.int .i64 t12)).setCell ⟨gb14, 2, none⟩ (.int .i64 t13)) w.heap.size (fun k_ => k_ ≠ gb10) (.slice (some ad9) t2.length co8) t2) := ⟨by (with_reducible repeat (first | apply Kd.R_alloc | apply Kd.R_drewN | apply Kd.R_drew)); exact Kd.R_mono (Kd.R_far (p := ⟨gb14, 2, none⟩) (Kd.R_far (p := ⟨gb14, 1, none⟩) (Kd.R_far (p := ⟨gb14, 0, none⟩) (Kd.R_types HO_9000.out BK14.out (by decide)) (fun _ hk => hk.2) (.int .i64 t11)) (fun _ hk => hk.2) (.int .i64 t12)) (fun _ hk => hk.2) (.int .i64 t13)) (fun _ hk => hk.1.2)⟩
      have n2_ : Aside0 ((((w24.setCell ⟨gb14, 0, none⟩ (.int .i64 t11)).setCell ⟨gb14, 1, none⟩ (.int .i64 t12)).setCell ⟨gb14, 2, none⟩ (.int .i64 t13)).heap[gb1]? = some (.cells #[.slice none 0 0, .int .i64 0, .int .i64 0, .int .i64 0] 127 (0, 0))) := ⟨by (with_reducible repeat (first | refine blk_drewN ?_ _ | refine blk_drew ?_ | refine blk_alloc ?_ _)); refine blk_far ?_ NB1_14.out _; (with_reducible repeat (first | refine blk_drewN ?_ _ | refine blk_drew ?_ | refine blk_alloc ?_ _)); refine blk_far ?_ NB1_14.out _; (with_reducible repeat (first | refine blk_drewN ?_ _ | refine blk_drew ?_ | refine blk_alloc ?_ _)); refine blk_far ?_ NB1_14.out _; (with_reducible repeat (first | refine blk_drewN ?_ _ | refine blk_drew ?_ | refine blk_alloc ?_ _)); exact BK1.out⟩
      have n3_ : Aside0 ((((w24.setCell ⟨gb14, 0, none⟩ (.int .i64 t11)).setCell ⟨gb14, 1, none⟩ (.int .i64 t12)).setCell ⟨gb14, 2, none⟩ (.int .i64 t13)).heap[gb8]? = some (.cells #[.slice (some ad9) t2.length co8, .int .i64 x9001_1, .int .i64 x9002_1, .int .i64 x9003_1] 127 (0, 0))) := ⟨by (with_reducible repeat (first | refine blk_drewN ?_ _ | refine blk_drew ?_ | refine blk_alloc ?_ _)); refine blk_far ?_ NB8_14.out _; (with_reducible repeat (first | refine blk_drewN ?_ _ | refine blk_drew ?_ | refine blk_alloc ?_ _)); refine blk_far ?_ NB8_14.out _; (with_reducible repeat (first | refine blk_drewN ?_ _ | refine blk_drew ?_ | refine blk_alloc ?_ _)); refine blk_far ?_ NB8_14.out _; (with_reducible repeat (first | refine blk_drewN ?_ _ | refine blk_drew ?_ | refine blk_alloc ?_ _)); exact BK8.out⟩
      have n4_ : Aside0 ((((w24.setCell ⟨gb14, 0, none⟩ (.int .i64 t11)).setCell ⟨gb14, 1, none⟩ (.int .i64 t12)).setCell ⟨gb14, 2, none⟩ (.int .i64 t13)).heap[gb10]? = some (.cells #[.string ((rd_T31 t2 x18_1).f0), .string ((rd_T31 t2 x18_1).f1), .int .i64 ((rd_T31 t2 x18_1).f2.f0), .int .i64 ((rd_T31 t2 x18_1).f2.f1), .int .i64 ((rd_T31 t2 x18_1).f2.f2), .int .i64 ((rd_T31 t2 x18_1).f3.f0), .int .i64 ((rd_T31 t2 x18_1).f3.f1), .int .i64 ((rd_T31 t2 x18_1).f3.f2), .int .i64 ((rd_T31 t2 x18_1).f4.f0), .int .i64 ((rd_T31 t2 x18_1).f4.f1), .int .i64 ((rd_T31 t2 x18_1).f4.f2), .int .i64 ((rd_T31 t2 x18_1).f5)] 31 (0, 0))) := ⟨by (with_reducible repeat (first | refine blk_drewN ?_ _ | refine blk_drew ?_ | refine blk_alloc ?_ _)); refine blk_far ?_ NB10_14.out _; (with_reducible repeat (first | refine blk_drewN ?_ _ | refine blk_drew ?_ | refine blk_alloc ?_ _)); refine blk_far ?_ NB10_14.out _; (with_reducible repeat (first | refine blk_drewN ?_ _ | refine blk_drew ?_ | refine blk_alloc ?_ _)); refine blk_far ?_ NB10_14.out _; (with_reducible repeat (first | refine blk_drewN ?_ _ | refine blk_drew ?_ | refine blk_alloc ?_ _)); exact BK10.out⟩
      have n5_ : Aside0 ((((w24.setCell ⟨gb14, 0, none⟩ (.int .i64 t11)).setCell ⟨gb14, 1, none⟩ (.int .i64 t12)).setCell ⟨gb14, 2, none⟩ (.int .i64 t13)).heap[gb14]? = some (.cells #[.int .i64 t11, .int .i64 t12, .int .i64 t13] 27 (0, 0))) := ⟨by (with_reducible repeat (first | refine blk_drewN ?_ _ | refine blk_drew ?_ | refine blk_alloc ?_ _)); refine blk_put (cs := #[.int .i64 t11, .int .i64 t12, .int .i64 0]) ?_ 2 _ rfl; (with_reducible repeat (first | refine blk_drewN ?_ _ | refine blk_drew ?_ | refine blk_alloc ?_ _)); refine blk_put (cs := #[.int .i64 t11, .int .i64 0, .int .i64 0]) ?_ 1 _ rfl; (with_reducible repeat (first | refine blk_drewN ?_ _ | refine blk_drew ?_ | refine blk_alloc ?_ _)); refine blk_put (cs := #[.int .i64 0, .int .i64 0, .int .i64 0]) ?_ 0 _ rfl; (with_reducible repeat (first | refine blk_drewN ?_ _ | refine blk_drew ?_ | refine blk_alloc ?_ _)); exact BK14.out⟩
      have n6_ : Aside0 (Below w.heap.size w (((w24.setCell ⟨gb14, 0, none⟩ (.int .i64 t11)).setCell ⟨gb14, 1, none⟩ (.int .i64 t12)).setCell ⟨gb14, 2, none⟩ (.int .i64 t13))) := ⟨by repeat (first | (with_reducible first | exact HB.out | apply below_alloc | apply pw_below_drewN | apply below_drew1 | refine below_set ?_ GE1.out | refine below_set ?_ GE8.out | refine below_set ?_ GE10.out | refine below_set ?_ GE14.out) | exact HB.out)⟩
      (try clear HO_16)
      (try clear HO_9000)
      (try clear BK1)
      (try clear BK8)
      (try clear BK10)
      (try clear BK14)
      (try clear HB)
      generalize (((w24.setCell ⟨gb14, 0, none⟩ (.int .i64 t11)).setCell ⟨gb14, 1, none⟩ (.int .i64 t12)).setCell ⟨gb14, 2, none⟩ (.int .i64 t13)) = w29 at n0_ n1_ n2_ n3_ n4_ n5_ n6_ ⊢
      have HO_16 := n0_
      have HO_9000 := n1_
      have BK1 := n2_
      have BK8 := n3_
      have BK10 := n4_
      have BK14 := n5_
      have HB := n6_
      clear n0_ n1_ n2_ n3_ n4_ n5_ n6_
      have n0_ := Aside0.mk (Kd.R_drew HO_16.out)
      have n1_ := Aside0.mk (Kd.R_drew HO_9000.out)
      have n2_ := Aside0.mk (blk_drew BK1.out)
      have n3_ := Aside0.mk (blk_drew BK8.out)
      have n4_ := Aside0.mk (blk_drew BK10.out)
      have n5_ := Aside0.mk (blk_drew BK14.out)
      have n6_ := Aside0.mk (below_drew1 HB.out)
      clear HO_16
      clear HO_9000
      clear BK1
      clear BK8
      clear BK10
      clear BK14
      clear HB
      have HO_16 := n0_
      have HO_9000 := n1_
      have BK1 := n2_
      have BK8 := n3_
      have BK10 := n4_
      have BK14 := n5_
      have HB := n6_
      clear n0_ n1_ n2_ n3_ n4_ n5_ n6_
      refine start_ (n := 13) (S := fun w' => w'.cell? ⟨gb8, 0, none⟩ = some (.slice (some ad9) t2.length co8) ∧ w'.cell? ⟨gb8, 1, none⟩ = some (.int .i64 x9001_1) ∧ w'.cell? ⟨gb8, 2, none⟩ = some (.int .i64 x9002_1) ∧ w'.cell? ⟨gb8, 3, none⟩ = some (.int .i64 x9003_1) ∧ w'.cell? ⟨gb14, 0, none⟩ = some (.int .i64 t11) ∧ w'.cell? ⟨gb14, 1, none⟩ = some (.int .i64 t12) ∧ w'.cell? ⟨gb14, 2, none⟩ = some (.int .i64 t13)) (ds := [12]) #[false, false, false, false, false, false, false, false, false, false, false, false, false] (by kernel_rfl) rfl rfl ⟨(blk_cell BK8.out 0).trans rfl, (blk_cell BK8.out 1).trans rfl, (blk_cell BK8.out 2).trans rfl, (blk_cell BK8.out 3).trans rfl, (blk_cell BK14.out 0).trans rfl, (blk_cell BK14.out 1).trans rfl, (blk_cell BK14.out 2).trans rfl⟩ (fun hHeld => ?_); refine with_tabW room_made.tab6 room_made.bits6 (fun HT_ HW_ => ?_)
      generalize w29.drew = w30 at HO_16 HO_9000 BK1 BK8 BK10 BK14 HB hHeld ⊢
      refine pure_ (i := 0) (N := some 24) (v := ?_) (a' := ?_) #[true, false, false, false, false, false, false, false, false, false, false, false, false] rfl rfl (any_of HT_.out (by kernel_rfl)) (fun _ _ _ h => h) (Or.inl ⟨by rfl, ?_⟩) ?_ ?_
      rotate_left
      ·intro w'
       go_simp
       with_reducible rfl
      rotate_left
      ·simp only [Act.put, List.setIfInBounds_toArray, List.set_cons_zero, List.set_cons_succ, i64_w, i32_w]
       rfl
      refine pure_ (i := 5) (N := some 29) (v := ?_) (a' := ?_) #[true, false, false, false, false, true, false, false, false, false, false, false, false] rfl rfl (any_of HT_.out (by kernel_rfl)) (fun _ _ _ h => h) (Or.inl ⟨by rfl, ?_⟩) ?_ ?_
      rotate_left
      ·intro w'
       go_simp
       with_reducible rfl
      rotate_left
      ·simp only [Act.put, List.setIfInBounds_toArray, List.set_cons_zero, List.set_cons_succ, i64_w, i32_w]
       rfl
      refine take_ (i := 1) (N := some 25) (v := ?_) (a' := ?_) #[true, true, false, false, false, true, false, false, false, false, false, false, false] rfl rfl (take_ofW HT_.out HW_.out (by kernel_rfl)) (fun _ _ _ h => h) (Or.inl ⟨by rfl, ?_⟩) hHeld ?_ ?_
      rotate_left
      ·rintro w' ⟨s0, s1, s2, s3, s4, s5, s6⟩
       go_simp
       with_reducible rfl
      rotate_left
      ·simp only [Act.put, List.setIfInBounds_toArray, List.set_cons_zero, List.set_cons_succ, i64_w, i32_w]
       rfl
      refine take_ (i := 2) (N := some 26) (v := ?_) (a' := ?_) #[true, true, true, false, false, true, false, false, false, false, false, false, false] rfl rfl (take_ofW HT_.out HW_.out (by kernel_rfl)) (fun _ _ _ h => h) (Or.inl ⟨by rfl, ?_⟩) hHeld ?_ ?_
      rotate_left
      ·rintro w' ⟨s0, s1, s2, s3, s4, s5, s6⟩
       go_simp
       with_reducible rfl
      rotate_left
      ·simp only [Act.put, List.setIfInBounds_toArray, List.set_cons_zero, List.set_cons_succ, i64_w, i32_w]
       rfl
      refine take_ (i := 6) (N := some 30) (v := ?_) (a' := ?_) #[true, true, true, false, false, true, true, false, false, false, false, false, false] rfl rfl (take_ofW HT_.out HW_.out (by kernel_rfl)) (fun _ _ _ h => h) (Or.inl ⟨by rfl, ?_⟩) hHeld ?_ ?_
      rotate_left
      ·rintro w' ⟨s0, s1, s2, s3, s4, s5, s6⟩
       go_simp
       with_reducible rfl
      rotate_left
      ·simp only [Act.put, List.setIfInBounds_toArray, List.set_cons_zero, List.set_cons_succ, i64_w, i32_w]
       rfl
      refine take_ (i := 7) (N := some 31) (v := ?_) (a' := ?_) #[true, true, true, false, false, true, true, true, false, false, false, false, false] rfl rfl (take_ofW HT_.out HW_.out (by kernel_rfl)) (fun _ _ _ h => h) (Or.inl ⟨by rfl, ?_⟩) hHeld ?_ ?_
      rotate_left
      ·rintro w' ⟨s0, s1, s2, s3, s4, s5, s6⟩
       go_simp
       with_reducible rfl
      rotate_left
      ·simp only [Act.put, List.setIfInBounds_toArray, List.set_cons_zero, List.set_cons_succ, i64_w, i32_w]
       rfl
      refine join_ (σ := Value × Value) 4 #[true, true, true, true, true, true, true, true, true, false, false, false, false] (fun s_ => [(27, s_.1), (28, .agg #[.int .i64 t18, .int .i64 t19, .int .i64 t20]), (32, s_.2)]) (fun s_ w' => (w'.cell? ⟨gb8, 0, none⟩ = some (.slice (some ad9) t2.length co8) ∧ w'.cell? ⟨gb8, 1, none⟩ = some (.int .i64 x9001_1) ∧ w'.cell? ⟨gb8, 2, none⟩ = some (.int .i64 x9002_1) ∧ w'.cell? ⟨gb8, 3, none⟩ = some (.int .i64 x9003_1) ∧ w'.cell? ⟨gb14, 0, none⟩ = some (.int .i64 t11) ∧ w'.cell? ⟨gb14, 1, none⟩ = some (.int .i64 t12) ∧ w'.cell? ⟨gb14, 2, none⟩ = some (.int .i64 t13)) ∧ (Kd.R k27 27 w' w.heap.size (fun k_ => some k_ ≠ (s_.2 : Value).ownBlock ∧ k_ ≠ gb14) s_.1 y15) ∧ (Kd.R k27 27 w' w.heap.size (fun k_ => some k_ ≠ (s_.1 : Value).ownBlock ∧ k_ ≠ gb14) s_.2 y21) ∧ (Kd.R k31 31 w' w.heap.size (fun k_ => k_ ≠ gb10) (.slice (some ad9) t2.length co8) t2) ∧ (Kd.R k31 31 w' w.heap.size (fun k_ => k_ ≠ gb10) (.slice (some ad9) t2.length co8) t2) ∧ (w'.heap[gb1]? = some (.cells #[.slice none 0 0, .int .i64 0, .int .i64 0, .int .i64 0] 127 (0, 0))) ∧ (w'.heap[gb10]? = some (.cells #[.string ((rd_T31 t2 x18_1).f0), .string ((rd_T31 t2 x18_1).f1), .int .i64 ((rd_T31 t2 x18_1).f2.f0), .int .i64 ((rd_T31 t2 x18_1).f2.f1), .int .i64 ((rd_T31 t2 x18_1).f2.f2), .int .i64 ((rd_T31 t2 x18_1).f3.f0), .int .i64 ((rd_T31 t2 x18_1).f3.f1), .int .i64 ((rd_T31 t2 x18_1).f3.f2), .int .i64 ((rd_T31 t2 x18_1).f4.f0), .int .i64 ((rd_T31 t2 x18_1).f4.f1), .int .i64 ((rd_T31 t2 x18_1).f4.f2), .int .i64 ((rd_T31 t2 x18_1).f5)] 31 (0, 0))) ∧ (w'.heap[gb14]? = some (.cells #[.int .i64 t11, .int .i64 t12, .int .i64 t13] 27 (0, 0))) ∧ (w'.heap[gb8]? = some (.cells #[.slice (some ad9) t2.length co8, .int .i64 x9001_1, .int .i64 x9002_1, .int .i64 x9003_1] 127 (0, 0))) ∧ (Below w.heap.size w w')) ?_ ?_
      rotate_left
      ·intro hCont
       refine two_ (i := 3) (j := 8) (Ni := some 27) (Nj := some 32) #[true, true, true, true, false, true, true, true, false, false, false, false, false] #[true, true, true, false, false, true, true, true, true, false, false, false, false] rfl rfl rfl rfl (two_of HT_.out (by kernel_rfl)) (by decide) (by decide) (fun K hK => ?_) (fun K hK => ?_)
       ·skip
        refine Kd.R_lit_step k27 _ 27 ?hg (N := 27) ?hd (xs := ([(⟨x9001_1, x9002_1, x9003_1⟩ : S27), (⟨t11, t12, t13⟩ : S27)] : List (S27))) (inner := [.int .i64 x9001_1, .int .i64 x9002_1, .int .i64 x9003_1, .int .i64 t11, .int .i64 t12, .int .i64 t13]) (ok := fun _ => True) (okp := fun _ => True) ?hr ?hp (fun _ hk => hk) trivial (Below.refl _ _) (Nat.le_refl _) (by simp) ?_; (case hd => rfl); (case hg => rfl); (case hr => first | (go_simp; done) | (go_simp; rfl)); (case hp => exact (Reps.c3 (show Kd.M k27 _ _ _ (⟨x9001_1, x9002_1, x9003_1⟩ : S27) [.int .i64 x9001_1, .int .i64 x9002_1, .int .i64 x9003_1] from (k27_mkM _ _ _ (⟨x9001_1, x9002_1, x9003_1⟩ : S27) )) (Reps.c3 (show Kd.M k27 _ _ _ (⟨t11, t12, t13⟩ : S27) [.int .i64 t11, .int .i64 t12, .int .i64 t13] from (k27_mkM _ _ _ (⟨t11, t12, t13⟩ : S27) )) (Reps.none _ _))))
        intro v16 w31 ho32 hb hg_ hnew_
        clear hg_ hnew_
        (first | rw [← Ny15.out] at ho32 | (simp only [Int.reduceToNat] at ho32; rw [← Ny15.out] at ho32))
        have n0_ := Aside0.mk (Kd.R_below (by (with_reducible repeat (first | apply Kd.R_alloc | apply Kd.R_drewN | apply Kd.R_drew)); exact HO_16.out) hb)
        have n1_ := Aside0.mk (Kd.R_below (by (with_reducible repeat (first | apply Kd.R_alloc | apply Kd.R_drewN | apply Kd.R_drew)); exact HO_9000.out) hb)
        have n2_ := Aside0.mk (Kd.R_lower (Kd.R_newB ho32 (g := gb14) (o := .cells #[.int .i64 t11, .int .i64 t12, .int .i64 t13] 27 (0, 0)) (by (with_reducible repeat (first | refine blk_drewN ?_ _ | refine blk_drew ?_ | refine blk_alloc ?_ _)); exact BK14.out)) (below_size (by repeat (first | (with_reducible first | exact HB.out | apply below_alloc | apply pw_below_drewN | apply below_drew1 | refine below_set ?_ GE1.out | refine below_set ?_ GE8.out | refine below_set ?_ GE10.out | refine below_set ?_ GE14.out) | exact HB.out))))
        have n3_ := Aside0.mk (blk_below (g := gb1) (o := .cells #[.slice none 0 0, .int .i64 0, .int .i64 0, .int .i64 0] 127 (0, 0)) (by (with_reducible repeat (first | refine blk_drewN ?_ _ | refine blk_drew ?_ | refine blk_alloc ?_ _)); exact BK1.out) hb)
        have n4_ := Aside0.mk (blk_below (g := gb8) (o := .cells #[.slice (some ad9) t2.length co8, .int .i64 x9001_1, .int .i64 x9002_1, .int .i64 x9003_1] 127 (0, 0)) (by (with_reducible repeat (first | refine blk_drewN ?_ _ | refine blk_drew ?_ | refine blk_alloc ?_ _)); exact BK8.out) hb)
        have n5_ := Aside0.mk (blk_below (g := gb10) (o := .cells #[.string ((rd_T31 t2 x18_1).f0), .string ((rd_T31 t2 x18_1).f1), .int .i64 ((rd_T31 t2 x18_1).f2.f0), .int .i64 ((rd_T31 t2 x18_1).f2.f1), .int .i64 ((rd_T31 t2 x18_1).f2.f2), .int .i64 ((rd_T31 t2 x18_1).f3.f0), .int .i64 ((rd_T31 t2 x18_1).f3.f1), .int .i64 ((rd_T31 t2 x18_1).f3.f2), .int .i64 ((rd_T31 t2 x18_1).f4.f0), .int .i64 ((rd_T31 t2 x18_1).f4.f1), .int .i64 ((rd_T31 t2 x18_1).f4.f2), .int .i64 ((rd_T31 t2 x18_1).f5)] 31 (0, 0)) (by (with_reducible repeat (first | refine blk_drewN ?_ _ | refine blk_drew ?_ | refine blk_alloc ?_ _)); exact BK10.out) hb)
        have n6_ := Aside0.mk (blk_below (g := gb14) (o := .cells #[.int .i64 t11, .int .i64 t12, .int .i64 t13] 27 (0, 0)) (by (with_reducible repeat (first | refine blk_drewN ?_ _ | refine blk_drew ?_ | refine blk_alloc ?_ _)); exact BK14.out) hb)
        have n7_ := Aside0.mk (below_step (by repeat (first | (with_reducible first | exact HB.out | apply below_alloc | apply pw_below_drewN | apply below_drew1 | refine below_set ?_ GE1.out | refine below_set ?_ GE8.out | refine below_set ?_ GE10.out | refine below_set ?_ GE14.out) | exact HB.out)) hb)
        clear HO_16
        clear HO_9000
        clear BK1
        clear BK8
        clear BK10
        clear BK14
        clear HB
        have HO_16 := n0_
        have HO_9000 := n1_
        have HO17 := n2_
        have BK1 := n3_
        have BK8 := n4_
        have BK10 := n5_
        have BK14 := n6_
        have HB := n7_
        clear n0_ n1_ n2_ n3_ n4_ n5_ n6_ n7_
        clear hb ho32
        obtain ⟨Ao33, co33, eo33⟩ := Kd.R_slice HO17.out
        (first | subst eo33 | (injection eo33 with f1_ f2_ f3_; have f4_ := f1_.symm; have f5_ := f3_.symm; clear f1_ f2_ f3_; subst f4_; subst f5_))
        refine hK.out _ _ ⟨(blk_cell BK8.out 0).trans rfl, (blk_cell BK8.out 1).trans rfl, (blk_cell BK8.out 2).trans rfl, (blk_cell BK8.out 3).trans rfl, (blk_cell BK14.out 0).trans rfl, (blk_cell BK14.out 1).trans rfl, (blk_cell BK14.out 2).trans rfl⟩ (fun hHeld => ?_)
        clear hK K
        refine norm_ (a' := ?_) ?_ ?_
        rotate_left
        ·show Act.put _ (some 27) _ = _
         simp only [Act.put, List.setIfInBounds_toArray, List.set_cons_zero, List.set_cons_succ, i64_w, i32_w]
         rfl
        refine two_ (i := 4) (j := 8) (Ni := some 28) (Nj := some 32) #[true, true, true, true, true, true, true, true, false, false, false, false, false] #[true, true, true, true, false, true, true, true, true, false, false, false, false] rfl rfl rfl rfl (two_of HT_.out (by kernel_rfl)) (by decide) (by decide) (fun K hK => ?_) (fun K hK => ?_)
        ·skip
         refine goes_ Try.func119 (by kernel_rfl) rfl #[.slice Ao33 y15.length co33] (by rfl) rfl rfl (by (try simp only [List.map_toArray, List.map_cons, List.map_nil]); first | done | rfl | (simp only [List.length_drop, List.length_take]; rfl)) ?_
         with_reducible refine (vec_Add.calls _ _ y15 t18 t19 t20 _ ?side1 ?side2 A16.out).mono ?_
         (case side1 => repeat (first | exact (Kd.R_reads' HO17.out).2.2 | (with_reducible refine Kd.C_alloc ?_ _) | (with_reducible refine Kd.C_drewN ?_ _) | (with_reducible refine Kd.C_drew ?_)))
         (case side2 => exact (Kd.R_reads' HO17.out).2.1)
         rintro e w34 ⟨rfl, hb⟩
         refine ⟨_, rfl, ?_⟩
         have n0_ := Aside0.mk (Kd.R_below (by (with_reducible repeat (first | apply Kd.R_alloc | apply Kd.R_drewN | apply Kd.R_drew)); exact HO_16.out) hb)
         have n1_ := Aside0.mk (Kd.R_below (by (with_reducible repeat (first | apply Kd.R_alloc | apply Kd.R_drewN | apply Kd.R_drew)); exact HO_9000.out) hb)
         have n2_ := Aside0.mk (Kd.R_below (by (with_reducible repeat (first | apply Kd.R_alloc | apply Kd.R_drewN | apply Kd.R_drew)); exact HO17.out) hb)
         have n3_ := Aside0.mk (blk_below (g := gb1) (o := .cells #[.slice none 0 0, .int .i64 0, .int .i64 0, .int .i64 0] 127 (0, 0)) (by (with_reducible repeat (first | refine blk_drewN ?_ _ | refine blk_drew ?_ | refine blk_alloc ?_ _)); exact BK1.out) hb)
         have n4_ := Aside0.mk (blk_below (g := gb8) (o := .cells #[.slice (some ad9) t2.length co8, .int .i64 x9001_1, .int .i64 x9002_1, .int .i64 x9003_1] 127 (0, 0)) (by (with_reducible repeat (first | refine blk_drewN ?_ _ | refine blk_drew ?_ | refine blk_alloc ?_ _)); exact BK8.out) hb)
         have n5_ := Aside0.mk (blk_below (g := gb10) (o := .cells #[.string ((rd_T31 t2 x18_1).f0), .string ((rd_T31 t2 x18_1).f1), .int .i64 ((rd_T31 t2 x18_1).f2.f0), .int .i64 ((rd_T31 t2 x18_1).f2.f1), .int .i64 ((rd_T31 t2 x18_1).f2.f2), .int .i64 ((rd_T31 t2 x18_1).f3.f0), .int .i64 ((rd_T31 t2 x18_1).f3.f1), .int .i64 ((rd_T31 t2 x18_1).f3.f2), .int .i64 ((rd_T31 t2 x18_1).f4.f0), .int .i64 ((rd_T31 t2 x18_1).f4.f1), .int .i64 ((rd_T31 t2 x18_1).f4.f2), .int .i64 ((rd_T31 t2 x18_1).f5)] 31 (0, 0)) (by (with_reducible repeat (first | refine blk_drewN ?_ _ | refine blk_drew ?_ | refine blk_alloc ?_ _)); exact BK10.out) hb)
         have n6_ := Aside0.mk (blk_below (g := gb14) (o := .cells #[.int .i64 t11, .int .i64 t12, .int .i64 t13] 27 (0, 0)) (by (with_reducible repeat (first | refine blk_drewN ?_ _ | refine blk_drew ?_ | refine blk_alloc ?_ _)); exact BK14.out) hb)
         have n7_ := Aside0.mk (below_step (by repeat (first | (with_reducible first | exact HB.out | apply below_alloc | apply pw_below_drewN | apply below_drew1 | refine below_set ?_ GE1.out | refine below_set ?_ GE8.out | refine below_set ?_ GE10.out | refine below_set ?_ GE14.out) | exact HB.out)) hb)
         clear HO_16
         clear HO_9000
         clear HO17
         clear BK1
         clear BK8
         clear BK10
         clear BK14
         clear HB
         have HO_16 := n0_
         have HO_9000 := n1_
         have HO17 := n2_
         have BK1 := n3_
         have BK8 := n4_
         have BK10 := n5_
         have BK14 := n6_
         have HB := n7_
         clear n0_ n1_ n2_ n3_ n4_ n5_ n6_ n7_
         (try clear hb)
         (try clear hb2)
         (try clear hk)
         (try clear hi)
         refine hK.out _ _ ⟨(blk_cell BK8.out 0).trans rfl, (blk_cell BK8.out 1).trans rfl, (blk_cell BK8.out 2).trans rfl, (blk_cell BK8.out 3).trans rfl, (blk_cell BK14.out 0).trans rfl, (blk_cell BK14.out 1).trans rfl, (blk_cell BK14.out 2).trans rfl⟩ (fun hHeld => ?_)
         clear hK K
         refine norm_ (a' := ?_) ?_ ?_
         rotate_left
         ·show Act.put _ (some 28) _ = _
          simp only [Act.put, List.setIfInBounds_toArray, List.set_cons_zero, List.set_cons_succ, i64_w, i32_w]
          rfl
         refine one_ (i := 8) (N := some 32) #[true, true, true, true, true, true, true, true, true, false, false, false, false] rfl rfl (one_of HT_.out (by kernel_rfl)) (by decide) (fun K hK => ?_)
         refine Kd.R_lit_step k27 _ 27 ?hg (N := 32) ?hd (xs := ([(⟨x9001_1, x9002_1, x9003_1⟩ : S27), (⟨t11, t12, t13⟩ : S27)] : List (S27))) (inner := [.int .i64 x9001_1, .int .i64 x9002_1, .int .i64 x9003_1, .int .i64 t11, .int .i64 t12, .int .i64 t13]) (ok := fun _ => True) (okp := fun _ => True) ?hr ?hp (fun _ hk => hk) trivial (Below.refl _ _) (Nat.le_refl _) (by simp) ?_; (case hd => rfl); (case hg => rfl); (case hr => first | (go_simp; done) | (go_simp; rfl)); (case hp => exact (Reps.c3 (show Kd.M k27 _ _ _ (⟨x9001_1, x9002_1, x9003_1⟩ : S27) [.int .i64 x9001_1, .int .i64 x9002_1, .int .i64 x9003_1] from (k27_mkM _ _ _ (⟨x9001_1, x9002_1, x9003_1⟩ : S27) )) (Reps.c3 (show Kd.M k27 _ _ _ (⟨t11, t12, t13⟩ : S27) [.int .i64 t11, .int .i64 t12, .int .i64 t13] from (k27_mkM _ _ _ (⟨t11, t12, t13⟩ : S27) )) (Reps.none _ _))))
         intro v22 w35 ho36 hb hg_ hnew_
         clear hg_ hnew_
         (first | rw [← Ny21.out] at ho36 | (simp only [Int.reduceToNat] at ho36; rw [← Ny21.out] at ho36))
         have n0_ := Aside0.mk (Kd.R_below (by (with_reducible repeat (first | apply Kd.R_alloc | apply Kd.R_drewN | apply Kd.R_drew)); exact HO_16.out) hb)
         have n1_ := Aside0.mk (Kd.R_below (by (with_reducible repeat (first | apply Kd.R_alloc | apply Kd.R_drewN | apply Kd.R_drew)); exact HO_9000.out) hb)
         have n2_ := Aside0.mk (Kd.R_elder' (by (with_reducible repeat (first | apply Kd.R_alloc | apply Kd.R_drewN | apply Kd.R_drew)); exact HO17.out) (Kd.R_base ho36) hb)
         have n3_ := Aside0.mk (Kd.R_lower (Kd.R_newB (Kd.R_new' ho36 (Kd.R_lt (by (with_reducible repeat (first | apply Kd.R_alloc | apply Kd.R_drewN | apply Kd.R_drew)); exact HO17.out))) (g := gb14) (o := .cells #[.int .i64 t11, .int .i64 t12, .int .i64 t13] 27 (0, 0)) (by (with_reducible repeat (first | refine blk_drewN ?_ _ | refine blk_drew ?_ | refine blk_alloc ?_ _)); exact BK14.out)) (below_size (by repeat (first | (with_reducible first | exact HB.out | apply below_alloc | apply pw_below_drewN | apply below_drew1 | refine below_set ?_ GE1.out | refine below_set ?_ GE8.out | refine below_set ?_ GE10.out | refine below_set ?_ GE14.out) | exact HB.out))))
         have n4_ := Aside0.mk (blk_below (g := gb1) (o := .cells #[.slice none 0 0, .int .i64 0, .int .i64 0, .int .i64 0] 127 (0, 0)) (by (with_reducible repeat (first | refine blk_drewN ?_ _ | refine blk_drew ?_ | refine blk_alloc ?_ _)); exact BK1.out) hb)
         have n5_ := Aside0.mk (blk_below (g := gb8) (o := .cells #[.slice (some ad9) t2.length co8, .int .i64 x9001_1, .int .i64 x9002_1, .int .i64 x9003_1] 127 (0, 0)) (by (with_reducible repeat (first | refine blk_drewN ?_ _ | refine blk_drew ?_ | refine blk_alloc ?_ _)); exact BK8.out) hb)
         have n6_ := Aside0.mk (blk_below (g := gb10) (o := .cells #[.string ((rd_T31 t2 x18_1).f0), .string ((rd_T31 t2 x18_1).f1), .int .i64 ((rd_T31 t2 x18_1).f2.f0), .int .i64 ((rd_T31 t2 x18_1).f2.f1), .int .i64 ((rd_T31 t2 x18_1).f2.f2), .int .i64 ((rd_T31 t2 x18_1).f3.f0), .int .i64 ((rd_T31 t2 x18_1).f3.f1), .int .i64 ((rd_T31 t2 x18_1).f3.f2), .int .i64 ((rd_T31 t2 x18_1).f4.f0), .int .i64 ((rd_T31 t2 x18_1).f4.f1), .int .i64 ((rd_T31 t2 x18_1).f4.f2), .int .i64 ((rd_T31 t2 x18_1).f5)] 31 (0, 0)) (by (with_reducible repeat (first | refine blk_drewN ?_ _ | refine blk_drew ?_ | refine blk_alloc ?_ _)); exact BK10.out) hb)
         have n7_ := Aside0.mk (blk_below (g := gb14) (o := .cells #[.int .i64 t11, .int .i64 t12, .int .i64 t13] 27 (0, 0)) (by (with_reducible repeat (first | refine blk_drewN ?_ _ | refine blk_drew ?_ | refine blk_alloc ?_ _)); exact BK14.out) hb)
         have n8_ := Aside0.mk (below_step (by repeat (first | (with_reducible first | exact HB.out | apply below_alloc | apply pw_below_drewN | apply below_drew1 | refine below_set ?_ GE1.out | refine below_set ?_ GE8.out | refine below_set ?_ GE10.out | refine below_set ?_ GE14.out) | exact HB.out)) hb)
         clear HO_16
         clear HO_9000
         clear HO17
         clear BK1
         clear BK8
         clear BK10
         clear BK14
         clear HB
         have HO_16 := n0_
         have HO_9000 := n1_
         have HO17 := n2_
         have HO23 := n3_
         have BK1 := n4_
         have BK8 := n5_
         have BK10 := n6_
         have BK14 := n7_
         have HB := n8_
         clear n0_ n1_ n2_ n3_ n4_ n5_ n6_ n7_ n8_
         clear hb ho36
         refine hK.out _ _ ⟨(blk_cell BK8.out 0).trans rfl, (blk_cell BK8.out 1).trans rfl, (blk_cell BK8.out 2).trans rfl, (blk_cell BK8.out 3).trans rfl, (blk_cell BK14.out 0).trans rfl, (blk_cell BK14.out 1).trans rfl, (blk_cell BK14.out 2).trans rfl⟩ (fun hHeld => ?_)
         clear hK K
         refine norm_ (a' := ?_) ?_ ?_
         rotate_left
         ·show Act.put _ (some 32) _ = _
          simp only [Act.put, List.setIfInBounds_toArray, List.set_cons_zero, List.set_cons_succ, i64_w, i32_w]
          rfl
         exact norm_ (by simp only [putAll, Act.put, List.setIfInBounds_toArray, List.set_cons_zero, List.set_cons_succ]) (hCont (.slice Ao33 y15.length co33, v22) _ ⟨hHeld, (by (with_reducible repeat (first | apply Kd.R_alloc | apply Kd.R_drewN | apply Kd.R_drew)); exact Kd.R_mono HO17.out (fun _ hk => ⟨hk.2, hk.1.2⟩)), (by (with_reducible repeat (first | apply Kd.R_alloc | apply Kd.R_drewN | apply Kd.R_drew)); exact Kd.R_mono HO23.out (fun _ hk => ⟨hk.1.2, hk.2⟩)), (by (with_reducible repeat (first | apply Kd.R_alloc | apply Kd.R_drewN | apply Kd.R_drew)); exact HO_16.out), (by (with_reducible repeat (first | apply Kd.R_alloc | apply Kd.R_drewN | apply Kd.R_drew)); exact HO_9000.out), (by (with_reducible repeat (first | refine blk_drewN ?_ _ | refine blk_drew ?_ | refine blk_alloc ?_ _)); exact BK1.out), (by (with_reducible repeat (first | refine blk_drewN ?_ _ | refine blk_drew ?_ | refine blk_alloc ?_ _)); exact BK10.out), (by (with_reducible repeat (first | refine blk_drewN ?_ _ | refine blk_drew ?_ | refine blk_alloc ?_ _)); exact BK14.out), (by (with_reducible repeat (first | refine blk_drewN ?_ _ | refine blk_drew ?_ | refine blk_alloc ?_ _)); exact BK8.out), (by repeat (first | (with_reducible first | exact HB.out | apply below_alloc | apply pw_below_drewN | apply below_drew1 | refine below_set ?_ GE1.out | refine below_set ?_ GE8.out | refine below_set ?_ GE10.out | refine below_set ?_ GE14.out) | exact HB.out))⟩)
        ·skip
         refine Kd.R_lit_step k27 _ 27 ?hg (N := 32) ?hd (xs := ([(⟨x9001_1, x9002_1, x9003_1⟩ : S27), (⟨t11, t12, t13⟩ : S27)] : List (S27))) (inner := [.int .i64 x9001_1, .int .i64 x9002_1, .int .i64 x9003_1, .int .i64 t11, .int .i64 t12, .int .i64 t13]) (ok := fun _ => True) (okp := fun _ => True) ?hr ?hp (fun _ hk => hk) trivial (Below.refl _ _) (Nat.le_refl _) (by simp) ?_; (case hd => rfl); (case hg => rfl); (case hr => first | (go_simp; done) | (go_simp; rfl)); (case hp => exact (Reps.c3 (show Kd.M k27 _ _ _ (⟨x9001_1, x9002_1, x9003_1⟩ : S27) [.int .i64 x9001_1, .int .i64 x9002_1, .int .i64 x9003_1] from (k27_mkM _ _ _ (⟨x9001_1, x9002_1, x9003_1⟩ : S27) )) (Reps.c3 (show Kd.M k27 _ _ _ (⟨t11, t12, t13⟩ : S27) [.int .i64 t11, .int .i64 t12, .int .i64 t13] from (k27_mkM _ _ _ (⟨t11, t12, t13⟩ : S27) )) (Reps.none _ _))))
         intro v22 w33 ho34 hb hg_ hnew_
         clear hg_ hnew_
         (first | rw [← Ny21.out] at ho34 | (simp only [Int.reduceToNat] at ho34; rw [← Ny21.out] at ho34))
         have n0_ := Aside0.mk (Kd.R_below (by (with_reducible repeat (first | apply Kd.R_alloc | apply Kd.R_drewN | apply Kd.R_drew)); exact HO_16.out) hb)
         have n1_ := Aside0.mk (Kd.R_below (by (with_reducible repeat (first | apply Kd.R_alloc | apply Kd.R_drewN | apply Kd.R_drew)); exact HO_9000.out) hb)
         have n2_ := Aside0.mk (Kd.R_elder' (by (with_reducible repeat (first | apply Kd.R_alloc | apply Kd.R_drewN | apply Kd.R_drew)); exact HO17.out) (Kd.R_base ho34) hb)
         have n3_ := Aside0.mk (Kd.R_lower (Kd.R_newB (Kd.R_new' ho34 (Kd.R_lt (by (with_reducible repeat (first | apply Kd.R_alloc | apply Kd.R_drewN | apply Kd.R_drew)); exact HO17.out))) (g := gb14) (o := .cells #[.int .i64 t11, .int .i64 t12, .int .i64 t13] 27 (0, 0)) (by (with_reducible repeat (first | refine blk_drewN ?_ _ | refine blk_drew ?_ | refine blk_alloc ?_ _)); exact BK14.out)) (below_size (by repeat (first | (with_reducible first | exact HB.out | apply below_alloc | apply pw_below_drewN | apply below_drew1 | refine below_set ?_ GE1.out | refine below_set ?_ GE8.out | refine below_set ?_ GE10.out | refine below_set ?_ GE14.out) | exact HB.out))))
         have n4_ := Aside0.mk (blk_below (g := gb1) (o := .cells #[.slice none 0 0, .int .i64 0, .int .i64 0, .int .i64 0] 127 (0, 0)) (by (with_reducible repeat (first | refine blk_drewN ?_ _ | refine blk_drew ?_ | refine blk_alloc ?_ _)); exact BK1.out) hb)
         have n5_ := Aside0.mk (blk_below (g := gb8) (o := .cells #[.slice (some ad9) t2.length co8, .int .i64 x9001_1, .int .i64 x9002_1, .int .i64 x9003_1] 127 (0, 0)) (by (with_reducible repeat (first | refine blk_drewN ?_ _ | refine blk_drew ?_ | refine blk_alloc ?_ _)); exact BK8.out) hb)
         have n6_ := Aside0.mk (blk_below (g := gb10) (o := .cells #[.string ((rd_T31 t2 x18_1).f0), .string ((rd_T31 t2 x18_1).f1), .int .i64 ((rd_T31 t2 x18_1).f2.f0), .int .i64 ((rd_T31 t2 x18_1).f2.f1), .int .i64 ((rd_T31 t2 x18_1).f2.f2), .int .i64 ((rd_T31 t2 x18_1).f3.f0), .int .i64 ((rd_T31 t2 x18_1).f3.f1), .int .i64 ((rd_T31 t2 x18_1).f3.f2), .int .i64 ((rd_T31 t2 x18_1).f4.f0), .int .i64 ((rd_T31 t2 x18_1).f4.f1), .int .i64 ((rd_T31 t2 x18_1).f4.f2), .int .i64 ((rd_T31 t2 x18_1).f5)] 31 (0, 0)) (by (with_reducible repeat (first | refine blk_drewN ?_ _ | refine blk_drew ?_ | refine blk_alloc ?_ _)); exact BK10.out) hb)
         have n7_ := Aside0.mk (blk_below (g := gb14) (o := .cells #[.int .i64 t11, .int .i64 t12, .int .i64 t13] 27 (0, 0)) (by (with_reducible repeat (first | refine blk_drewN ?_ _ | refine blk_drew ?_ | refine blk_alloc ?_ _)); exact BK14.out) hb)
         have n8_ := Aside0.mk (below_step (by repeat (first | (with_reducible first | exact HB.out | apply below_alloc | apply pw_below_drewN | apply below_drew1 | refine below_set ?_ GE1.out | refine below_set ?_ GE8.out | refine below_set ?_ GE10.out | refine below_set ?_ GE14.out) | exact HB.out)) hb)
         clear HO_16
         clear HO_9000
         clear HO17
         clear BK1
         clear BK8
         clear BK10
         clear BK14
         clear HB
         have HO_16 := n0_
         have HO_9000 := n1_
         have HO17 := n2_
         have HO23 := n3_
         have BK1 := n4_
         have BK8 := n5_
         have BK10 := n6_
         have BK14 := n7_
         have HB := n8_
         clear n0_ n1_ n2_ n3_ n4_ n5_ n6_ n7_ n8_
         clear hb ho34
         obtain ⟨Ao35, co35, eo35⟩ := Kd.R_slice HO17.out
         (first | subst eo35 | (injection eo35 with f1_ f2_ f3_; have f4_ := f1_.symm; have f5_ := f3_.symm; clear f1_ f2_ f3_; subst f4_; subst f5_))
         refine hK.out _ _ ⟨(blk_cell BK8.out 0).trans rfl, (blk_cell BK8.out 1).trans rfl, (blk_cell BK8.out 2).trans rfl, (blk_cell BK8.out 3).trans rfl, (blk_cell BK14.out 0).trans rfl, (blk_cell BK14.out 1).trans rfl, (blk_cell BK14.out 2).trans rfl⟩ (fun hHeld => ?_)
         clear hK K
         refine norm_ (a' := ?_) ?_ ?_
         rotate_left
         ·show Act.put _ (some 32) _ = _
          simp only [Act.put, List.setIfInBounds_toArray, List.set_cons_zero, List.set_cons_succ, i64_w, i32_w]
          rfl
         refine one_ (i := 4) (N := some 28) #[true, true, true, true, true, true, true, true, true, false, false, false, false] rfl rfl (one_of HT_.out (by kernel_rfl)) (by decide) (fun K hK => ?_)
         refine goes_ Try.func119 (by kernel_rfl) rfl #[.slice Ao35 y15.length co35] (by rfl) rfl rfl (by (try simp only [List.map_toArray, List.map_cons, List.map_nil]); first | done | rfl | (simp only [List.length_drop, List.length_take]; rfl)) ?_
         with_reducible refine (vec_Add.calls _ _ y15 t18 t19 t20 _ ?side1 ?side2 A16.out).mono ?_
         (case side1 => repeat (first | exact (Kd.R_reads' HO17.out).2.2 | (with_reducible refine Kd.C_alloc ?_ _) | (with_reducible refine Kd.C_drewN ?_ _) | (with_reducible refine Kd.C_drew ?_)))
         (case side2 => exact (Kd.R_reads' HO17.out).2.1)
         rintro e w36 ⟨rfl, hb⟩
         refine ⟨_, rfl, ?_⟩
         have n0_ := Aside0.mk (Kd.R_below (by (with_reducible repeat (first | apply Kd.R_alloc | apply Kd.R_drewN | apply Kd.R_drew)); exact HO_16.out) hb)
         have n1_ := Aside0.mk (Kd.R_below (by (with_reducible repeat (first | apply Kd.R_alloc | apply Kd.R_drewN | apply Kd.R_drew)); exact HO_9000.out) hb)
         have n2_ := Aside0.mk (Kd.R_below (by (with_reducible repeat (first | apply Kd.R_alloc | apply Kd.R_drewN | apply Kd.R_drew)); exact HO17.out) hb)
         have n3_ := Aside0.mk (Kd.R_below (by (with_reducible repeat (first | apply Kd.R_alloc | apply Kd.R_drewN | apply Kd.R_drew)); exact HO23.out) hb)
         have n4_ := Aside0.mk (blk_below (g := gb1) (o := .cells #[.slice none 0 0, .int .i64 0, .int .i64 0, .int .i64 0] 127 (0, 0)) (by (with_reducible repeat (first | refine blk_drewN ?_ _ | refine blk_drew ?_ | refine blk_alloc ?_ _)); exact BK1.out) hb)
         have n5_ := Aside0.mk (blk_below (g := gb8) (o := .cells #[.slice (some ad9) t2.length co8, .int .i64 x9001_1, .int .i64 x9002_1, .int .i64 x9003_1] 127 (0, 0)) (by (with_reducible repeat (first | refine blk_drewN ?_ _ | refine blk_drew ?_ | refine blk_alloc ?_ _)); exact BK8.out) hb)
         have n6_ := Aside0.mk (blk_below (g := gb10) (o := .cells #[.string ((rd_T31 t2 x18_1).f0), .string ((rd_T31 t2 x18_1).f1), .int .i64 ((rd_T31 t2 x18_1).f2.f0), .int .i64 ((rd_T31 t2 x18_1).f2.f1), .int .i64 ((rd_T31 t2 x18_1).f2.f2), .int .i64 ((rd_T31 t2 x18_1).f3.f0), .int .i64 ((rd_T31 t2 x18_1).f3.f1), .int .i64 ((rd_T31 t2 x18_1).f3.f2), .int .i64 ((rd_T31 t2 x18_1).f4.f0), .int .i64 ((rd_T31 t2 x18_1).f4.f1), .int .i64 ((rd_T31 t2 x18_1).f4.f2), .int .i64 ((rd_T31 t2 x18_1).f5)] 31 (0, 0)) (by (with_reducible repeat (first | refine blk_drewN ?_ _ | refine blk_drew ?_ | refine blk_alloc ?_ _)); exact BK10.out) hb)
         have n7_ := Aside0.mk (blk_below (g := gb14) (o := .cells #[.int .i64 t11, .int .i64 t12, .int .i64 t13] 27 (0, 0)) (by (with_reducible repeat (first | refine blk_drewN ?_ _ | refine blk_drew ?_ | refine blk_alloc ?_ _)); exact BK14.out) hb)
         have n8_ := Aside0.mk (below_step (by repeat (first | (with_reducible first | exact HB.out | apply below_alloc | apply pw_below_drewN | apply below_drew1 | refine below_set ?_ GE1.out | refine below_set ?_ GE8.out | refine below_set ?_ GE10.out | refine below_set ?_ GE14.out) | exact HB.out)) hb)
         clear HO_16
         clear HO_9000
         clear HO17
         clear HO23
         clear BK1
         clear BK8
         clear BK10
         clear BK14
         clear HB
         have HO_16 := n0_
         have HO_9000 := n1_
         have HO17 := n2_
         have HO23 := n3_
         have BK1 := n4_
         have BK8 := n5_
         have BK10 := n6_
         have BK14 := n7_
         have HB := n8_
         clear n0_ n1_ n2_ n3_ n4_ n5_ n6_ n7_ n8_
         (try clear hb)
         (try clear hb2)
         (try clear hk)
         (try clear hi)
         refine hK.out _ _ ⟨(blk_cell BK8.out 0).trans rfl, (blk_cell BK8.out 1).trans rfl, (blk_cell BK8.out 2).trans rfl, (blk_cell BK8.out 3).trans rfl, (blk_cell BK14.out 0).trans rfl, (blk_cell BK14.out 1).trans rfl, (blk_cell BK14.out 2).trans rfl⟩ (fun hHeld => ?_)
         clear hK K
         refine norm_ (a' := ?_) ?_ ?_
         rotate_left
         ·show Act.put _ (some 28) _ = _
          simp only [Act.put, List.setIfInBounds_toArray, List.set_cons_zero, List.set_cons_succ, i64_w, i32_w]
          rfl
         exact norm_ (by simp only [putAll, Act.put, List.setIfInBounds_toArray, List.set_cons_zero, List.set_cons_succ]) (hCont (.slice Ao35 y15.length co35, v22) _ ⟨hHeld, (by (with_reducible repeat (first | apply Kd.R_alloc | apply Kd.R_drewN | apply Kd.R_drew)); exact Kd.R_mono HO17.out (fun _ hk => ⟨hk.2, hk.1.2⟩)), (by (with_reducible repeat (first | apply Kd.R_alloc | apply Kd.R_drewN | apply Kd.R_drew)); exact Kd.R_mono HO23.out (fun _ hk => ⟨hk.1.2, hk.2⟩)), (by (with_reducible repeat (first | apply Kd.R_alloc | apply Kd.R_drewN | apply Kd.R_drew)); exact HO_16.out), (by (with_reducible repeat (first | apply Kd.R_alloc | apply Kd.R_drewN | apply Kd.R_drew)); exact HO_9000.out), (by (with_reducible repeat (first | refine blk_drewN ?_ _ | refine blk_drew ?_ | refine blk_alloc ?_ _)); exact BK1.out), (by (with_reducible repeat (first | refine blk_drewN ?_ _ | refine blk_drew ?_ | refine blk_alloc ?_ _)); exact BK10.out), (by (with_reducible repeat (first | refine blk_drewN ?_ _ | refine blk_drew ?_ | refine blk_alloc ?_ _)); exact BK14.out), (by (with_reducible repeat (first | refine blk_drewN ?_ _ | refine blk_drew ?_ | refine blk_alloc ?_ _)); exact BK8.out), (by repeat (first | (with_reducible first | exact HB.out | apply below_alloc | apply pw_below_drewN | apply below_drew1 | refine below_set ?_ GE1.out | refine below_set ?_ GE8.out | refine below_set ?_ GE10.out | refine below_set ?_ GE14.out) | exact HB.out))⟩)
       ·skip
        refine Kd.R_lit_step k27 _ 27 ?hg (N := 32) ?hd (xs := ([(⟨x9001_1, x9002_1, x9003_1⟩ : S27), (⟨t11, t12, t13⟩ : S27)] : List (S27))) (inner := [.int .i64 x9001_1, .int .i64 x9002_1, .int .i64 x9003_1, .int .i64 t11, .int .i64 t12, .int .i64 t13]) (ok := fun _ => True) (okp := fun _ => True) ?hr ?hp (fun _ hk => hk) trivial (Below.refl _ _) (Nat.le_refl _) (by simp) ?_; (case hd => rfl); (case hg => rfl); (case hr => first | (go_simp; done) | (go_simp; rfl)); (case hp => exact (Reps.c3 (show Kd.M k27 _ _ _ (⟨x9001_1, x9002_1, x9003_1⟩ : S27) [.int .i64 x9001_1, .int .i64 x9002_1, .int .i64 x9003_1] from (k27_mkM _ _ _ (⟨x9001_1, x9002_1, x9003_1⟩ : S27) )) (Reps.c3 (show Kd.M k27 _ _ _ (⟨t11, t12, t13⟩ : S27) [.int .i64 t11, .int .i64 t12, .int .i64 t13] from (k27_mkM _ _ _ (⟨t11, t12, t13⟩ : S27) )) (Reps.none _ _))))
        intro v22 w31 ho32 hb hg_ hnew_
        clear hg_ hnew_
        (first | rw [← Ny21.out] at ho32 | (simp only [Int.reduceToNat] at ho32; rw [← Ny21.out] at ho32))
        have n0_ := Aside0.mk (Kd.R_below (by (with_reducible repeat (first | apply Kd.R_alloc | apply Kd.R_drewN | apply Kd.R_drew)); exact HO_16.out) hb)
        have n1_ := Aside0.mk (Kd.R_below (by (with_reducible repeat (first | apply Kd.R_alloc | apply Kd.R_drewN | apply Kd.R_drew)); exact HO_9000.out) hb)
        have n2_ := Aside0.mk (Kd.R_lower (Kd.R_newB ho32 (g := gb14) (o := .cells #[.int .i64 t11, .int .i64 t12, .int .i64 t13] 27 (0, 0)) (by (with_reducible repeat (first | refine blk_drewN ?_ _ | refine blk_drew ?_ | refine blk_alloc ?_ _)); exact BK14.out)) (below_size (by repeat (first | (with_reducible first | exact HB.out | apply below_alloc | apply pw_below_drewN | apply below_drew1 | refine below_set ?_ GE1.out | refine below_set ?_ GE8.out | refine below_set ?_ GE10.out | refine below_set ?_ GE14.out) | exact HB.out))))
        have n3_ := Aside0.mk (blk_below (g := gb1) (o := .cells #[.slice none 0 0, .int .i64 0, .int .i64 0, .int .i64 0] 127 (0, 0)) (by (with_reducible repeat (first | refine blk_drewN ?_ _ | refine blk_drew ?_ | refine blk_alloc ?_ _)); exact BK1.out) hb)
        have n4_ := Aside0.mk (blk_below (g := gb8) (o := .cells #[.slice (some ad9) t2.length co8, .int .i64 x9001_1, .int .i64 x9002_1, .int .i64 x9003_1] 127 (0, 0)) (by (with_reducible repeat (first | refine blk_drewN ?_ _ | refine blk_drew ?_ | refine blk_alloc ?_ _)); exact BK8.out) hb)
        have n5_ := Aside0.mk (blk_below (g := gb10) (o := .cells #[.string ((rd_T31 t2 x18_1).f0), .string ((rd_T31 t2 x18_1).f1), .int .i64 ((rd_T31 t2 x18_1).f2.f0), .int .i64 ((rd_T31 t2 x18_1).f2.f1), .int .i64 ((rd_T31 t2 x18_1).f2.f2), .int .i64 ((rd_T31 t2 x18_1).f3.f0), .int .i64 ((rd_T31 t2 x18_1).f3.f1), .int .i64 ((rd_T31 t2 x18_1).f3.f2), .int .i64 ((rd_T31 t2 x18_1).f4.f0), .int .i64 ((rd_T31 t2 x18_1).f4.f1), .int .i64 ((rd_T31 t2 x18_1).f4.f2), .int .i64 ((rd_T31 t2 x18_1).f5)] 31 (0, 0)) (by (with_reducible repeat (first | refine blk_drewN ?_ _ | refine blk_drew ?_ | refine blk_alloc ?_ _)); exact BK10.out) hb)
        have n6_ := Aside0.mk (blk_below (g := gb14) (o := .cells #[.int .i64 t11, .int .i64 t12, .int .i64 t13] 27 (0, 0)) (by (with_reducible repeat (first | refine blk_drewN ?_ _ | refine blk_drew ?_ | refine blk_alloc ?_ _)); exact BK14.out) hb)
        have n7_ := Aside0.mk (below_step (by repeat (first | (with_reducible first | exact HB.out | apply below_alloc | apply pw_below_drewN | apply below_drew1 | refine below_set ?_ GE1.out | refine below_set ?_ GE8.out | refine below_set ?_ GE10.out | refine below_set ?_ GE14.out) | exact HB.out)) hb)
        clear HO_16
        clear HO_9000
        clear BK1
        clear BK8
        clear BK10
        clear BK14
        clear HB
        have HO_16 := n0_
        have HO_9000 := n1_
        have HO23 := n2_
        have BK1 := n3_
        have BK8 := n4_
        have BK10 := n5_
        have BK14 := n6_
        have HB := n7_
        clear n0_ n1_ n2_ n3_ n4_ n5_ n6_ n7_
        clear hb ho32
        refine hK.out _ _ ⟨(blk_cell BK8.out 0).trans rfl, (blk_cell BK8.out 1).trans rfl, (blk_cell BK8.out 2).trans rfl, (blk_cell BK8.out 3).trans rfl, (blk_cell BK14.out 0).trans rfl, (blk_cell BK14.out 1).trans rfl, (blk_cell BK14.out 2).trans rfl⟩ (fun hHeld => ?_)
        clear hK K
        refine norm_ (a' := ?_) ?_ ?_
        rotate_left
        ·show Act.put _ (some 32) _ = _
         simp only [Act.put, List.setIfInBounds_toArray, List.set_cons_zero, List.set_cons_succ, i64_w, i32_w]
         rfl
        refine one_ (i := 3) (N := some 27) #[true, true, true, true, false, true, true, true, true, false, false, false, false] rfl rfl (one_of HT_.out (by kernel_rfl)) (by decide) (fun K hK => ?_)
        refine Kd.R_lit_step k27 _ 27 ?hg (N := 27) ?hd (xs := ([(⟨x9001_1, x9002_1, x9003_1⟩ : S27), (⟨t11, t12, t13⟩ : S27)] : List (S27))) (inner := [.int .i64 x9001_1, .int .i64 x9002_1, .int .i64 x9003_1, .int .i64 t11, .int .i64 t12, .int .i64 t13]) (ok := fun _ => True) (okp := fun _ => True) ?hr ?hp (fun _ hk => hk) trivial (Below.refl _ _) (Nat.le_refl _) (by simp) ?_; (case hd => rfl); (case hg => rfl); (case hr => first | (go_simp; done) | (go_simp; rfl)); (case hp => exact (Reps.c3 (show Kd.M k27 _ _ _ (⟨x9001_1, x9002_1, x9003_1⟩ : S27) [.int .i64 x9001_1, .int .i64 x9002_1, .int .i64 x9003_1] from (k27_mkM _ _ _ (⟨x9001_1, x9002_1, x9003_1⟩ : S27) )) (Reps.c3 (show Kd.M k27 _ _ _ (⟨t11, t12, t13⟩ : S27) [.int .i64 t11, .int .i64 t12, .int .i64 t13] from (k27_mkM _ _ _ (⟨t11, t12, t13⟩ : S27) )) (Reps.none _ _))))
        intro v16 w33 ho34 hb hg_ hnew_
        clear hg_ hnew_
        (first | rw [← Ny15.out] at ho34 | (simp only [Int.reduceToNat] at ho34; rw [← Ny15.out] at ho34))
        have n0_ := Aside0.mk (Kd.R_below (by (with_reducible repeat (first | apply Kd.R_alloc | apply Kd.R_drewN | apply Kd.R_drew)); exact HO_16.out) hb)
        have n1_ := Aside0.mk (Kd.R_below (by (with_reducible repeat (first | apply Kd.R_alloc | apply Kd.R_drewN | apply Kd.R_drew)); exact HO_9000.out) hb)
        have n2_ := Aside0.mk (Kd.R_elder' (by (with_reducible repeat (first | apply Kd.R_alloc | apply Kd.R_drewN | apply Kd.R_drew)); exact HO23.out) (Kd.R_base ho34) hb)
        have n3_ := Aside0.mk (Kd.R_lower (Kd.R_newB (Kd.R_new' ho34 (Kd.R_lt (by (with_reducible repeat (first | apply Kd.R_alloc | apply Kd.R_drewN | apply Kd.R_drew)); exact HO23.out))) (g := gb14) (o := .cells #[.int .i64 t11, .int .i64 t12, .int .i64 t13] 27 (0, 0)) (by (with_reducible repeat (first | refine blk_drewN ?_ _ | refine blk_drew ?_ | refine blk_alloc ?_ _)); exact BK14.out)) (below_size (by repeat (first | (with_reducible first | exact HB.out | apply below_alloc | apply pw_below_drewN | apply below_drew1 | refine below_set ?_ GE1.out | refine below_set ?_ GE8.out | refine below_set ?_ GE10.out | refine below_set ?_ GE14.out) | exact HB.out))))
        have n4_ := Aside0.mk (blk_below (g := gb1) (o := .cells #[.slice none 0 0, .int .i64 0, .int .i64 0, .int .i64 0] 127 (0, 0)) (by (with_reducible repeat (first | refine blk_drewN ?_ _ | refine blk_drew ?_ | refine blk_alloc ?_ _)); exact BK1.out) hb)
        have n5_ := Aside0.mk (blk_below (g := gb8) (o := .cells #[.slice (some ad9) t2.length co8, .int .i64 x9001_1, .int .i64 x9002_1, .int .i64 x9003_1] 127 (0, 0)) (by (with_reducible repeat (first | refine blk_drewN ?_ _ | refine blk_drew ?_ | refine blk_alloc ?_ _)); exact BK8.out) hb)
        have n6_ := Aside0.mk (blk_below (g := gb10) (o := .cells #[.string ((rd_T31 t2 x18_1).f0), .string ((rd_T31 t2 x18_1).f1), .int .i64 ((rd_T31 t2 x18_1).f2.f0), .int .i64 ((rd_T31 t2 x18_1).f2.f1), .int .i64 ((rd_T31 t2 x18_1).f2.f2), .int .i64 ((rd_T31 t2 x18_1).f3.f0), .int .i64 ((rd_T31 t2 x18_1).f3.f1), .int .i64 ((rd_T31 t2 x18_1).f3.f2), .int .i64 ((rd_T31 t2 x18_1).f4.f0), .int .i64 ((rd_T31 t2 x18_1).f4.f1), .int .i64 ((rd_T31 t2 x18_1).f4.f2), .int .i64 ((rd_T31 t2 x18_1).f5)] 31 (0, 0)) (by (with_reducible repeat (first | refine blk_drewN ?_ _ | refine blk_drew ?_ | refine blk_alloc ?_ _)); exact BK10.out) hb)
        have n7_ := Aside0.mk (blk_below (g := gb14) (o := .cells #[.int .i64 t11, .int .i64 t12, .int .i64 t13] 27 (0, 0)) (by (with_reducible repeat (first | refine blk_drewN ?_ _ | refine blk_drew ?_ | refine blk_alloc ?_ _)); exact BK14.out) hb)
        have n8_ := Aside0.mk (below_step (by repeat (first | (with_reducible first | exact HB.out | apply below_alloc | apply pw_below_drewN | apply below_drew1 | refine below_set ?_ GE1.out | refine below_set ?_ GE8.out | refine below_set ?_ GE10.out | refine below_set ?_ GE14.out) | exact HB.out)) hb)
        clear HO_16
        clear HO_9000
        clear HO23
        clear BK1
        clear BK8
        clear BK10
        clear BK14
        clear HB
        have HO_16 := n0_
        have HO_9000 := n1_
        have HO23 := n2_
        have HO17 := n3_
        have BK1 := n4_
        have BK8 := n5_
        have BK10 := n6_
        have BK14 := n7_
        have HB := n8_
        clear n0_ n1_ n2_ n3_ n4_ n5_ n6_ n7_ n8_
        clear hb ho34
        obtain ⟨Ao35, co35, eo35⟩ := Kd.R_slice HO17.out
        (first | subst eo35 | (injection eo35 with f1_ f2_ f3_; have f4_ := f1_.symm; have f5_ := f3_.symm; clear f1_ f2_ f3_; subst f4_; subst f5_))
        refine hK.out _ _ ⟨(blk_cell BK8.out 0).trans rfl, (blk_cell BK8.out 1).trans rfl, (blk_cell BK8.out 2).trans rfl, (blk_cell BK8.out 3).trans rfl, (blk_cell BK14.out 0).trans rfl, (blk_cell BK14.out 1).trans rfl, (blk_cell BK14.out 2).trans rfl⟩ (fun hHeld => ?_)
        clear hK K
        refine norm_ (a' := ?_) ?_ ?_
        rotate_left
        ·show Act.put _ (some 27) _ = _
         simp only [Act.put, List.setIfInBounds_toArray, List.set_cons_zero, List.set_cons_succ, i64_w, i32_w]
         rfl
        refine one_ (i := 4) (N := some 28) #[true, true, true, true, true, true, true, true, true, false, false, false, false] rfl rfl (one_of HT_.out (by kernel_rfl)) (by decide) (fun K hK => ?_)
        refine goes_ Try.func119 (by kernel_rfl) rfl #[.slice Ao35 y15.length co35] (by rfl) rfl rfl (by (try simp only [List.map_toArray, List.map_cons, List.map_nil]); first | done | rfl | (simp only [List.length_drop, List.length_take]; rfl)) ?_
        with_reducible refine (vec_Add.calls _ _ y15 t18 t19 t20 _ ?side1 ?side2 A16.out).mono ?_
        (case side1 => repeat (first | exact (Kd.R_reads' HO17.out).2.2 | (with_reducible refine Kd.C_alloc ?_ _) | (with_reducible refine Kd.C_drewN ?_ _) | (with_reducible refine Kd.C_drew ?_)))
        (case side2 => exact (Kd.R_reads' HO17.out).2.1)
        rintro e w36 ⟨rfl, hb⟩
        refine ⟨_, rfl, ?_⟩
        have n0_ := Aside0.mk (Kd.R_below (by (with_reducible repeat (first | apply Kd.R_alloc | apply Kd.R_drewN | apply Kd.R_drew)); exact HO_16.out) hb)
        have n1_ := Aside0.mk (Kd.R_below (by (with_reducible repeat (first | apply Kd.R_alloc | apply Kd.R_drewN | apply Kd.R_drew)); exact HO_9000.out) hb)
        have n2_ := Aside0.mk (Kd.R_below (by (with_reducible repeat (first | apply Kd.R_alloc | apply Kd.R_drewN | apply Kd.R_drew)); exact HO23.out) hb)
        have n3_ := Aside0.mk (Kd.R_below (by (with_reducible repeat (first | apply Kd.R_alloc | apply Kd.R_drewN | apply Kd.R_drew)); exact HO17.out) hb)
        have n4_ := Aside0.mk (blk_below (g := gb1) (o := .cells #[.slice none 0 0, .int .i64 0, .int .i64 0, .int .i64 0] 127 (0, 0)) (by (with_reducible repeat (first | refine blk_drewN ?_ _ | refine blk_drew ?_ | refine blk_alloc ?_ _)); exact BK1.out) hb)
        have n5_ := Aside0.mk (blk_below (g := gb8) (o := .cells #[.slice (some ad9) t2.length co8, .int .i64 x9001_1, .int .i64 x9002_1, .int .i64 x9003_1] 127 (0, 0)) (by (with_reducible repeat (first | refine blk_drewN ?_ _ | refine blk_drew ?_ | refine blk_alloc ?_ _)); exact BK8.out) hb)
        have n6_ := Aside0.mk (blk_below (g := gb10) (o := .cells #[.string ((rd_T31 t2 x18_1).f0), .string ((rd_T31 t2 x18_1).f1), .int .i64 ((rd_T31 t2 x18_1).f2.f0), .int .i64 ((rd_T31 t2 x18_1).f2.f1), .int .i64 ((rd_T31 t2 x18_1).f2.f2), .int .i64 ((rd_T31 t2 x18_1).f3.f0), .int .i64 ((rd_T31 t2 x18_1).f3.f1), .int .i64 ((rd_T31 t2 x18_1).f3.f2), .int .i64 ((rd_T31 t2 x18_1).f4.f0), .int .i64 ((rd_T31 t2 x18_1).f4.f1), .int .i64 ((rd_T31 t2 x18_1).f4.f2), .int .i64 ((rd_T31 t2 x18_1).f5)] 31 (0, 0)) (by (with_reducible repeat (first | refine blk_drewN ?_ _ | refine blk_drew ?_ | refine blk_alloc ?_ _)); exact BK10.out) hb)
        have n7_ := Aside0.mk (blk_below (g := gb14) (o := .cells #[.int .i64 t11, .int .i64 t12, .int .i64 t13] 27 (0, 0)) (by (with_reducible repeat (first | refine blk_drewN ?_ _ | refine blk_drew ?_ | refine blk_alloc ?_ _)); exact BK14.out) hb)
        have n8_ := Aside0.mk (below_step (by repeat (first | (with_reducible first | exact HB.out | apply below_alloc | apply pw_below_drewN | apply below_drew1 | refine below_set ?_ GE1.out | refine below_set ?_ GE8.out | refine below_set ?_ GE10.out | refine below_set ?_ GE14.out) | exact HB.out)) hb)
        clear HO_16
        clear HO_9000
        clear HO23
        clear HO17
        clear BK1
        clear BK8
        clear BK10
        clear BK14
        clear HB
        have HO_16 := n0_
        have HO_9000 := n1_
        have HO23 := n2_
        have HO17 := n3_
        have BK1 := n4_
        have BK8 := n5_
        have BK10 := n6_
        have BK14 := n7_
        have HB := n8_
        clear n0_ n1_ n2_ n3_ n4_ n5_ n6_ n7_ n8_
        (try clear hb)
        (try clear hb2)
        (try clear hk)
        (try clear hi)
        refine hK.out _ _ ⟨(blk_cell BK8.out 0).trans rfl, (blk_cell BK8.out 1).trans rfl, (blk_cell BK8.out 2).trans rfl, (blk_cell BK8.out 3).trans rfl, (blk_cell BK14.out 0).trans rfl, (blk_cell BK14.out 1).trans rfl, (blk_cell BK14.out 2).trans rfl⟩ (fun hHeld => ?_)
        clear hK K
        refine norm_ (a' := ?_) ?_ ?_
        rotate_left
        ·show Act.put _ (some 28) _ = _
         simp only [Act.put, List.setIfInBounds_toArray, List.set_cons_zero, List.set_cons_succ, i64_w, i32_w]
         rfl
        exact norm_ (by simp only [putAll, Act.put, List.setIfInBounds_toArray, List.set_cons_zero, List.set_cons_succ]) (hCont (.slice Ao35 y15.length co35, v22) _ ⟨hHeld, (by (with_reducible repeat (first | apply Kd.R_alloc | apply Kd.R_drewN | apply Kd.R_drew)); exact Kd.R_mono HO17.out (fun _ hk => ⟨hk.1.2, hk.2⟩)), (by (with_reducible repeat (first | apply Kd.R_alloc | apply Kd.R_drewN | apply Kd.R_drew)); exact Kd.R_mono HO23.out (fun _ hk => ⟨hk.2, hk.1.2⟩)), (by (with_reducible repeat (first | apply Kd.R_alloc | apply Kd.R_drewN | apply Kd.R_drew)); exact HO_16.out), (by (with_reducible repeat (first | apply Kd.R_alloc | apply Kd.R_drewN | apply Kd.R_drew)); exact HO_9000.out), (by (with_reducible repeat (first | refine blk_drewN ?_ _ | refine blk_drew ?_ | refine blk_alloc ?_ _)); exact BK1.out), (by (with_reducible repeat (first | refine blk_drewN ?_ _ | refine blk_drew ?_ | refine blk_alloc ?_ _)); exact BK10.out), (by (with_reducible repeat (first | refine blk_drewN ?_ _ | refine blk_drew ?_ | refine blk_alloc ?_ _)); exact BK14.out), (by (with_reducible repeat (first | refine blk_drewN ?_ _ | refine blk_drew ?_ | refine blk_alloc ?_ _)); exact BK8.out), (by repeat (first | (with_reducible first | exact HB.out | apply below_alloc | apply pw_below_drewN | apply below_drew1 | refine below_set ?_ GE1.out | refine below_set ?_ GE8.out | refine below_set ?_ GE10.out | refine below_set ?_ GE14.out) | exact HB.out))⟩)
      rintro ⟨v16, v22⟩ w37 ⟨hS_, h0_, h1_, h2_, h3_, h4_, h5_, h6_, h7_, h8_⟩
      have n0_ : Aside0 (Kd.R k27 27 w37 w.heap.size (fun k_ => some k_ ≠ (v22 : Value).ownBlock ∧ k_ ≠ gb14) v16 y15) := ⟨h0_⟩
      have n1_ : Aside0 (Kd.R k27 27 w37 w.heap.size (fun k_ => some k_ ≠ (v16 : Value).ownBlock ∧ k_ ≠ gb14) v22 y21) := ⟨h1_⟩
      have n2_ : Aside0 (Kd.R k31 31 w37 w.heap.size (fun k_ => k_ ≠ gb10) (.slice (some ad9) t2.length co8) t2) := ⟨h2_⟩
      have n3_ : Aside0 (Kd.R k31 31 w37 w.heap.size (fun k_ => k_ ≠ gb10) (.slice (some ad9) t2.length co8) t2) := ⟨h3_⟩
      have n4_ : Aside0 (w37.heap[gb1]? = some (.cells #[.slice none 0 0, .int .i64 0, .int .i64 0, .int .i64 0] 127 (0, 0))) := ⟨h4_⟩
      have n5_ : Aside0 (w37.heap[gb10]? = some (.cells #[.string ((rd_T31 t2 x18_1).f0), .string ((rd_T31 t2 x18_1).f1), .int .i64 ((rd_T31 t2 x18_1).f2.f0), .int .i64 ((rd_T31 t2 x18_1).f2.f1), .int .i64 ((rd_T31 t2 x18_1).f2.f2), .int .i64 ((rd_T31 t2 x18_1).f3.f0), .int .i64 ((rd_T31 t2 x18_1).f3.f1), .int .i64 ((rd_T31 t2 x18_1).f3.f2), .int .i64 ((rd_T31 t2 x18_1).f4.f0), .int .i64 ((rd_T31 t2 x18_1).f4.f1), .int .i64 ((rd_T31 t2 x18_1).f4.f2), .int .i64 ((rd_T31 t2 x18_1).f5)] 31 (0, 0))) := ⟨h5_⟩
      have n6_ : Aside0 (w37.heap[gb14]? = some (.cells #[.int .i64 t11, .int .i64 t12, .int .i64 t13] 27 (0, 0))) := ⟨h6_⟩
      have n7_ : Aside0 (w37.heap[gb8]? = some (.cells #[.slice (some ad9) t2.length co8, .int .i64 x9001_1, .int .i64 x9002_1, .int .i64 x9003_1] 127 (0, 0))) := ⟨h7_⟩
      have n8_ : Aside0 (Below w.heap.size w w37) := ⟨h8_⟩
      clear HO_16
      clear HO_9000
      clear BK1
      clear BK8
      clear BK10
      clear BK14
      clear HB
      clear h0_ h1_ h2_ h3_ h4_ h5_ h6_ h7_ h8_
      have HO17 := n0_
      have HO23 := n1_
      have HO_16 := n2_
      have HO_9000 := n3_
      have BK1 := n4_
      have BK10 := n5_
      have BK14 := n6_
      have BK8 := n7_
      have HB := n8_
      clear n0_ n1_ n2_ n3_ n4_ n5_ n6_ n7_ n8_
      have hHeld : w37.cell? ⟨gb8, 0, none⟩ = some (.slice (some ad9) t2.length co8) ∧ w37.cell? ⟨gb8, 1, none⟩ = some (.int .i64 x9001_1) ∧ w37.cell? ⟨gb8, 2, none⟩ = some (.int .i64 x9002_1) ∧ w37.cell? ⟨gb8, 3, none⟩ = some (.int .i64 x9003_1) ∧ w37.cell? ⟨gb14, 0, none⟩ = some (.int .i64 t11) ∧ w37.cell? ⟨gb14, 1, none⟩ = some (.int .i64 t12) ∧ w37.cell? ⟨gb14, 2, none⟩ = some (.int .i64 t13) := hS_
      obtain ⟨Ao38, co38, eo38⟩ := Kd.R_slice HO23.out
      (first | subst eo38 | (injection eo38 with f1_ f2_ f3_; have f4_ := f1_.symm; have f5_ := f3_.symm; clear f1_ f2_ f3_; subst f4_; subst f5_))
      refine norm_ (a' := ?_) ?_ ?_
      rotate_left
      ·simp only [putAll, Act.put, List.setIfInBounds_toArray, List.set_cons_zero, List.set_cons_succ]
       rfl
      refine one_ (i := 9) (N := some 33) #[true, true, true, true, true, true, true, true, true, true, false, false, false] rfl rfl (one_of HT_.out (by kernel_rfl)) (by decide) (fun K hK => ?_)
      refine goes_ Try.func159 (by kernel_rfl) rfl #[.slice Ao38 y21.length co38] (by rfl) rfl rfl (by (try simp only [List.map_toArray, List.map_cons, List.map_nil]); first | done | rfl | (simp only [List.length_drop, List.length_take]; rfl)) ?_
      with_reducible refine (vec_Max.calls _ _ y21 t24 t25 t26 _ ?side1 ?side2 A17.out).mono ?_
      (case side1 => repeat (first | exact (Kd.R_reads' HO23.out).2.2 | (with_reducible refine Kd.C_alloc ?_ _) | (with_reducible refine Kd.C_drewN ?_ _) | (with_reducible refine Kd.C_drew ?_)))
      (case side2 => exact (Kd.R_reads' HO23.out).2.1)
      rintro e w39 ⟨rfl, hb⟩
      refine ⟨_, rfl, ?_⟩
      have n0_ := Aside0.mk (Kd.R_below (by (with_reducible repeat (first | apply Kd.R_alloc | apply Kd.R_drewN | apply Kd.R_drew)); exact HO_16.out) hb)
      have n1_ := Aside0.mk (Kd.R_below (by (with_reducible repeat (first | apply Kd.R_alloc | apply Kd.R_drewN | apply Kd.R_drew)); exact HO_9000.out) hb)
      have n2_ := Aside0.mk (Kd.R_below (by (with_reducible repeat (first | apply Kd.R_alloc | apply Kd.R_drewN | apply Kd.R_drew)); exact HO17.out) hb)
      have n3_ := Aside0.mk (Kd.R_below (by (with_reducible repeat (first | apply Kd.R_alloc | apply Kd.R_drewN | apply Kd.R_drew)); exact HO23.out) hb)
      have n4_ := Aside0.mk (blk_below (g := gb1) (o := .cells #[.slice none 0 0, .int .i64 0, .int .i64 0, .int .i64 0] 127 (0, 0)) (by (with_reducible repeat (first | refine blk_drewN ?_ _ | refine blk_drew ?_ | refine blk_alloc ?_ _)); exact BK1.out) hb)
      have n5_ := Aside0.mk (blk_below (g := gb8) (o := .cells #[.slice (some ad9) t2.length co8, .int .i64 x9001_1, .int .i64 x9002_1, .int .i64 x9003_1] 127 (0, 0)) (by (with_reducible repeat (first | refine blk_drewN ?_ _ | refine blk_drew ?_ | refine blk_alloc ?_ _)); exact BK8.out) hb)
      have n6_ := Aside0.mk (blk_below (g := gb10) (o := .cells #[.string ((rd_T31 t2 x18_1).f0), .string ((rd_T31 t2 x18_1).f1), .int .i64 ((rd_T31 t2 x18_1).f2.f0), .int .i64 ((rd_T31 t2 x18_1).f2.f1), .int .i64 ((rd_T31 t2 x18_1).f2.f2), .int .i64 ((rd_T31 t2 x18_1).f3.f0), .int .i64 ((rd_T31 t2 x18_1).f3.f1), .int .i64 ((rd_T31 t2 x18_1).f3.f2), .int .i64 ((rd_T31 t2 x18_1).f4.f0), .int .i64 ((rd_T31 t2 x18_1).f4.f1), .int .i64 ((rd_T31 t2 x18_1).f4.f2), .int .i64 ((rd_T31 t2 x18_1).f5)] 31 (0, 0)) (by (with_reducible repeat (first | refine blk_drewN ?_ _ | refine blk_drew ?_ | refine blk_alloc ?_ _)); exact BK10.out) hb)
      have n7_ := Aside0.mk (blk_below (g := gb14) (o := .cells #[.int .i64 t11, .int .i64 t12, .int .i64 t13] 27 (0, 0)) (by (with_reducible repeat (first | refine blk_drewN ?_ _ | refine blk_drew ?_ | refine blk_alloc ?_ _)); exact BK14.out) hb)
      have n8_ := Aside0.mk (below_step (by repeat (first | (with_reducible first | exact HB.out | apply below_alloc | apply pw_below_drewN | apply below_drew1 | refine below_set ?_ GE1.out | refine below_set ?_ GE8.out | refine below_set ?_ GE10.out | refine below_set ?_ GE14.out) | exact HB.out)) hb)
      clear HO_16
      clear HO_9000
      clear HO17
      clear HO23
      clear BK1
      clear BK8
      clear BK10
      clear BK14
      clear HB
      have HO_16 := n0_
      have HO_9000 := n1_
      have HO17 := n2_
      have HO23 := n3_
      have BK1 := n4_
      have BK8 := n5_
      have BK10 := n6_
      have BK14 := n7_
      have HB := n8_
      clear n0_ n1_ n2_ n3_ n4_ n5_ n6_ n7_ n8_
      (try clear hb)
      (try clear hb2)
      (try clear hk)
      (try clear hi)
      refine hK.out _ _ ⟨(blk_cell BK8.out 0).trans rfl, (blk_cell BK8.out 1).trans rfl, (blk_cell BK8.out 2).trans rfl, (blk_cell BK8.out 3).trans rfl, (blk_cell BK14.out 0).trans rfl, (blk_cell BK14.out 1).trans rfl, (blk_cell BK14.out 2).trans rfl⟩ (fun hHeld => ?_)
      clear hK K
      refine norm_ (a' := ?_) ?_ ?_
      rotate_left
      ·show Act.put _ (some 33) _ = _
       simp only [Act.put, List.setIfInBounds_toArray, List.set_cons_zero, List.set_cons_succ, i64_w, i32_w]
       rfl
      refine one_ (i := 10) (N := some 34) #[true, true, true, true, true, true, true, true, true, true, true, false, false] rfl rfl (one_of HT_.out (by kernel_rfl)) (by decide) (fun K hK => ?_)
      refine goes_ Try.func134 (by kernel_rfl) rfl #[.agg #[.int .i64 t18, .int .i64 t19, .int .i64 t20], .agg #[.int .i64 t24, .int .i64 t25, .int .i64 t26]] (by rfl) rfl rfl (by (try simp only [List.map_toArray, List.map_cons, List.map_nil]); first | done | rfl | (simp only [List.length_drop, List.length_take]; rfl)) ?_
      with_reducible refine (vec_Sub.calls t18 t19 t20 t24 t25 t26 t27 t28 t29 _ A18.out).mono ?_
      rintro e w40 ⟨rfl, hb⟩
      refine ⟨_, rfl, ?_⟩
      have n0_ := Aside0.mk (Kd.R_below (by (with_reducible repeat (first | apply Kd.R_alloc | apply Kd.R_drewN | apply Kd.R_drew)); exact HO_16.out) hb)
      have n1_ := Aside0.mk (Kd.R_below (by (with_reducible repeat (first | apply Kd.R_alloc | apply Kd.R_drewN | apply Kd.R_drew)); exact HO_9000.out) hb)
      have n2_ := Aside0.mk (Kd.R_below (by (with_reducible repeat (first | apply Kd.R_alloc | apply Kd.R_drewN | apply Kd.R_drew)); exact HO17.out) hb)
      have n3_ := Aside0.mk (Kd.R_below (by (with_reducible repeat (first | apply Kd.R_alloc | apply Kd.R_drewN | apply Kd.R_drew)); exact HO23.out) hb)
      have n4_ := Aside0.mk (blk_below (g := gb1) (o := .cells #[.slice none 0 0, .int .i64 0, .int .i64 0, .int .i64 0] 127 (0, 0)) (by (with_reducible repeat (first | refine blk_drewN ?_ _ | refine blk_drew ?_ | refine blk_alloc ?_ _)); exact BK1.out) hb)
      have n5_ := Aside0.mk (blk_below (g := gb8) (o := .cells #[.slice (some ad9) t2.length co8, .int .i64 x9001_1, .int .i64 x9002_1, .int .i64 x9003_1] 127 (0, 0)) (by (with_reducible repeat (first | refine blk_drewN ?_ _ | refine blk_drew ?_ | refine blk_alloc ?_ _)); exact BK8.out) hb)
      have n6_ := Aside0.mk (blk_below (g := gb10) (o := .cells #[.string ((rd_T31 t2 x18_1).f0), .string ((rd_T31 t2 x18_1).f1), .int .i64 ((rd_T31 t2 x18_1).f2.f0), .int .i64 ((rd_T31 t2 x18_1).f2.f1), .int .i64 ((rd_T31 t2 x18_1).f2.f2), .int .i64 ((rd_T31 t2 x18_1).f3.f0), .int .i64 ((rd_T31 t2 x18_1).f3.f1), .int .i64 ((rd_T31 t2 x18_1).f3.f2), .int .i64 ((rd_T31 t2 x18_1).f4.f0), .int .i64 ((rd_T31 t2 x18_1).f4.f1), .int .i64 ((rd_T31 t2 x18_1).f4.f2), .int .i64 ((rd_T31 t2 x18_1).f5)] 31 (0, 0)) (by (with_reducible repeat (first | refine blk_drewN ?_ _ | refine blk_drew ?_ | refine blk_alloc ?_ _)); exact BK10.out) hb)
      have n7_ := Aside0.mk (blk_below (g := gb14) (o := .cells #[.int .i64 t11, .int .i64 t12, .int .i64 t13] 27 (0, 0)) (by (with_reducible repeat (first | refine blk_drewN ?_ _ | refine blk_drew ?_ | refine blk_alloc ?_ _)); exact BK14.out) hb)
      have n8_ := Aside0.mk (below_step (by repeat (first | (with_reducible first | exact HB.out | apply below_alloc | apply pw_below_drewN | apply below_drew1 | refine below_set ?_ GE1.out | refine below_set ?_ GE8.out | refine below_set ?_ GE10.out | refine below_set ?_ GE14.out) | exact HB.out)) hb)
      clear HO_16
      clear HO_9000
      clear HO17
      clear HO23
      clear BK1
      clear BK8
      clear BK10
      clear BK14
      clear HB
      have HO_16 := n0_
      have HO_9000 := n1_
      have HO17 := n2_
      have HO23 := n3_
      have BK1 := n4_
      have BK8 := n5_
      have BK10 := n6_
      have BK14 := n7_
      have HB := n8_
      clear n0_ n1_ n2_ n3_ n4_ n5_ n6_ n7_ n8_
      (try clear hb)
      (try clear hb2)
      (try clear hk)
      (try clear hi)
      refine hK.out _ _ ⟨(blk_cell BK8.out 0).trans rfl, (blk_cell BK8.out 1).trans rfl, (blk_cell BK8.out 2).trans rfl, (blk_cell BK8.out 3).trans rfl, (blk_cell BK14.out 0).trans rfl, (blk_cell BK14.out 1).trans rfl, (blk_cell BK14.out 2).trans rfl⟩ (fun hHeld => ?_)
      clear hK K
      refine norm_ (a' := ?_) ?_ ?_
      rotate_left
      ·show Act.put _ (some 34) _ = _
       simp only [Act.put, List.setIfInBounds_toArray, List.set_cons_zero, List.set_cons_succ, i64_w, i32_w]
       rfl
      refine pure_ (i := 11) (N := some 35) (v := ?_) (a' := ?_) #[true, true, true, true, true, true, true, true, true, true, true, true, false] rfl rfl (any_of HT_.out (by kernel_rfl)) (fun _ _ _ h => h) (Or.inl ⟨by rfl, ?_⟩) ?_ ?_
      rotate_left
      ·intro w'
       go_simp
       with_reducible rfl
      rotate_left
      ·simp only [Act.put, List.setIfInBounds_toArray, List.set_cons_zero, List.set_cons_succ, i64_w, i32_w]
       rfl
      refine last_ (i := 12) (N := none) #[true, true, true, true, true, true, true, true, true, true, true, true, true] rfl rfl (one_of HT_.out (by kernel_rfl)) (by decide) (fun K hK => ?_)
      have hs41 : w40.cell? ⟨gb8, 1, none⟩ = some (.int .i64 x9001_1) := (blk_cell BK8.out 1).trans rfl
      have hfs41 := blk_frozen BK8.out 1
      have hns41_0 := NB1_8.out
      have hns41_2 := NB10_8.out
      have hns41_3 := NB14_8.out
      have hms41_0 := NB8_1.out
      have hms41_2 := NB8_10.out
      have hms41_3 := NB8_14.out
      have hs42 : w40.cell? ⟨gb8, 2, none⟩ = some (.int .i64 x9002_1) := (blk_cell BK8.out 2).trans rfl
      have hfs42 := blk_frozen BK8.out 2
      have hns42_0 := NB1_8.out
      have hns42_2 := NB10_8.out
      have hns42_3 := NB14_8.out
      have hms42_0 := NB8_1.out
      have hms42_2 := NB8_10.out
      have hms42_3 := NB8_14.out
      have hs43 : w40.cell? ⟨gb8, 3, none⟩ = some (.int .i64 x9003_1) := (blk_cell BK8.out 3).trans rfl
      have hfs43 := blk_frozen BK8.out 3
      have hns43_0 := NB1_8.out
      have hns43_2 := NB10_8.out
      have hns43_3 := NB14_8.out
      have hms43_0 := NB8_1.out
      have hms43_2 := NB8_10.out
      have hms43_3 := NB8_14.out
      refine skip_ (w1 := ?_) (by rfl) rfl ?_ ?_
      rotate_left
      ·go_simp
       rfl
      refine hK.out _ _ ?_
      clear hK K
      refine done_ (done_of HT_.out (by kernel_rfl)) ?_
      try go_wp2
      go_roundg k1
      case measure => have := HK1.out; omega
      case rel => exact ⟨(wrap64 (x18_1 + 1)), (t27), (t28), (t29), (by first | rfl | (simp; done) | (simp [*]; done)), H', ⟨by have := HK1.out; omega⟩, ⟨by (with_reducible repeat (first | apply Kd.R_alloc | apply Kd.R_drewN | apply Kd.R_drew)); exact Kd.R_mono (Kd.R_far (p := ⟨gb8, 3, none⟩) (Kd.R_far (p := ⟨gb8, 2, none⟩) (Kd.R_far (p := ⟨gb8, 1, none⟩) (Kd.R_types HO_16.out BK8.out (by decide)) (fun _ hk => hk.2) (.int .i64 t27)) (fun _ hk => hk.2) (.int .i64 t28)) (fun _ hk => hk.2) (.int .i64 t29)) (fun _ hk => trivial)⟩, ⟨by (with_reducible repeat (first | apply Kd.R_alloc | apply Kd.R_drewN | apply Kd.R_drew)); exact Kd.R_mono (Kd.R_far (p := ⟨gb8, 3, none⟩) (Kd.R_far (p := ⟨gb8, 2, none⟩) (Kd.R_far (p := ⟨gb8, 1, none⟩) (Kd.R_types HO_9000.out BK8.out (by decide)) (fun _ hk => hk.2) (.int .i64 t27)) (fun _ hk => hk.2) (.int .i64 t28)) (fun _ hk => hk.2) (.int .i64 t29)) (fun _ hk => trivial)⟩, ⟨by (with_reducible repeat (first | refine blk_drewN ?_ _ | refine blk_drew ?_ | refine blk_alloc ?_ _)); refine blk_far ?_ NB1_8.out _; (with_reducible repeat (first | refine blk_drewN ?_ _ | refine blk_drew ?_ | refine blk_alloc ?_ _)); refine blk_far ?_ NB1_8.out _; (with_reducible repeat (first | refine blk_drewN ?_ _ | refine blk_drew ?_ | refine blk_alloc ?_ _)); refine blk_far ?_ NB1_8.out _; (with_reducible repeat (first | refine blk_drewN ?_ _ | refine blk_drew ?_ | refine blk_alloc ?_ _)); exact BK1.out⟩, ⟨by (with_reducible repeat (first | refine blk_drewN ?_ _ | refine blk_drew ?_ | refine blk_alloc ?_ _)); refine blk_put (cs := #[.slice (some ad9) t2.length co8, .int .i64 t27, .int .i64 t28, .int .i64 x9003_1]) ?_ 3 _ rfl; (with_reducible repeat (first | refine blk_drewN ?_ _ | refine blk_drew ?_ | refine blk_alloc ?_ _)); refine blk_put (cs := #[.slice (some ad9) t2.length co8, .int .i64 t27, .int .i64 x9002_1, .int .i64 x9003_1]) ?_ 2 _ rfl; (with_reducible repeat (first | refine blk_drewN ?_ _ | refine blk_drew ?_ | refine blk_alloc ?_ _)); refine blk_put (cs := #[.slice (some ad9) t2.length co8, .int .i64 x9001_1, .int .i64 x9002_1, .int .i64 x9003_1]) ?_ 1 _ rfl; (with_reducible repeat (first | refine blk_drewN ?_ _ | refine blk_drew ?_ | refine blk_alloc ?_ _)); exact BK8.out⟩, ⟨by repeat (first | (with_reducible first | exact HB.out | apply below_alloc | apply pw_below_drewN | apply below_drew1 | refine below_set ?_ GE1.out | refine below_set ?_ GE8.out | refine below_set ?_ GE10.out | refine below_set ?_ GE14.out) | exact HB.out)⟩⟩
     ·rw [if_neg c14] at H
      exact absurd H (by simp)
    ·rw [if_neg c13] at H
     exact absurd H (by simp)
   ·rw [if_neg c12] at H
    have c12b0 : decide (x18_1 < (t2.length : Int)) = false := decide_eq_false c12
    clear c12
    simp only [Option.some.injEq, Prod.mk.injEq] at H
    obtain ⟨rfl, rfl, rfl, rfl⟩ := H
    have hnb44 := NB8_1.out
    have hnc44 := NB1_8.out
    have hcz45_0 : wr.cell? ⟨gb8, 0, none⟩ = some (.slice Ao8 t2.length co8) := (blk_cell BK8.out 0).trans rfl
    have hcz45_1 : wr.cell? ⟨gb8, 1, none⟩ = some (.int .i64 x9001_1) := (blk_cell BK8.out 1).trans rfl
    have hcz45_2 : wr.cell? ⟨gb8, 2, none⟩ = some (.int .i64 x9002_1) := (blk_cell BK8.out 2).trans rfl
    have hcz45_3 : wr.cell? ⟨gb8, 3, none⟩ = some (.int .i64 x9003_1) := (blk_cell BK8.out 3).trans rfl
    have hfz45_0 := blk_frozen BK8.out 0
    have hfz45_1 := blk_frozen BK8.out 1
    have hfz45_2 := blk_frozen BK8.out 2
    have hfz45_3 := blk_frozen BK8.out 3
    have hcz46_0 : wr.cell? ⟨gb1, 0, none⟩ = some (.slice none 0 0) := (blk_cell BK1.out 0).trans rfl
    have hcz46_1 : wr.cell? ⟨gb1, 1, none⟩ = some (.int .i64 0) := (blk_cell BK1.out 1).trans rfl
    have hcz46_2 : wr.cell? ⟨gb1, 2, none⟩ = some (.int .i64 0) := (blk_cell BK1.out 2).trans rfl
    have hcz46_3 : wr.cell? ⟨gb1, 3, none⟩ = some (.int .i64 0) := (blk_cell BK1.out 3).trans rfl
    have hfz46_0 := blk_frozen BK1.out 0
    have hfz46_1 := blk_frozen BK1.out 1
    have hfz46_2 := blk_frozen BK1.out 2
    have hfz46_3 := blk_frozen BK1.out 3
    go_wp2
    refine bodyPost_ret (results_cell_row rfl _ _ gb1 127 #[.slice Ao8 t2.length co8, .int .i64 x9001_1, .int .i64 x9002_1, .int .i64 x9003_1] (0, 0) _ rfl (by (with_reducible repeat (first | refine blk_drewN ?_ _ | refine blk_drew ?_ | refine blk_alloc ?_ _)); refine blk_put (cs := #[.slice Ao8 t2.length co8, .int .i64 x9001_1, .int .i64 x9002_1, .int .i64 0]) ?_ 3 _ rfl; (with_reducible repeat (first | refine blk_drewN ?_ _ | refine blk_drew ?_ | refine blk_alloc ?_ _)); refine blk_put (cs := #[.slice Ao8 t2.length co8, .int .i64 x9001_1, .int .i64 0, .int .i64 0]) ?_ 2 _ rfl; (with_reducible repeat (first | refine blk_drewN ?_ _ | refine blk_drew ?_ | refine blk_alloc ?_ _)); refine blk_put (cs := #[.slice Ao8 t2.length co8, .int .i64 0, .int .i64 0, .int .i64 0]) ?_ 1 _ rfl; (with_reducible repeat (first | refine blk_drewN ?_ _ | refine blk_drew ?_ | refine blk_alloc ?_ _)); refine blk_put (cs := #[.slice none 0 0, .int .i64 0, .int .i64 0, .int .i64 0]) ?_ 0 _ rfl; (with_reducible repeat (first | refine blk_drewN ?_ _ | refine blk_drew ?_ | refine blk_alloc ?_ _)); exact BK1.out) Try.underlying127 rfl (by kernel_rfl)) rfl ?_
    exact ⟨_, by first | rfl | (simp [errW_none, errW_some] <;> rfl) | (simp [*, errW_none, errW_some] <;> rfl), by (with_reducible repeat (first | apply Kd.R_alloc | apply Kd.R_drewN | apply Kd.R_drew)); exact Kd.R_mono (Kd.R_far (p := ⟨gb1, 3, none⟩) (Kd.R_far (p := ⟨gb1, 2, none⟩) (Kd.R_far (p := ⟨gb1, 1, none⟩) (Kd.R_far (p := ⟨gb1, 0, none⟩) (Kd.R_types HO_9000.out BK1.out (by decide)) (fun _ hk => hk.2) (.slice Ao8 t2.length co8)) (fun _ hk => hk.2) (.int .i64 x9001_1)) (fun _ hk => hk.2) (.int .i64 x9002_1)) (fun _ hk => hk.2) (.int .i64 x9003_1)) (fun _ hk => trivial), by repeat (first | (with_reducible first | exact HB.out | apply below_alloc | apply pw_below_drewN | apply below_drew1 | refine below_set ?_ GE1.out | refine below_set ?_ GE8.out) | exact HB.out)⟩
end Go.Proofs.Ytcgefpklljclgaa.Print

namespace Go.Proofs.Ytcgefpklljclgaa.Print
open Go.RowKit Go.Proofs.YtcgefpklljclgaaW.PrintWords Go.Proofs.YtcgefpklljclgaaW.PrintLast Go.Proofs.YtcgefpklljclgaaW.PrintMore
attribute [local go_sem] max2_int min2_int max_two min_two max_three min_three max_four min_four   -- for this text's walks alone
set_option linter.unusedVariables false
set_option linter.unusedSimpArgs false
/-! ### room_Of: function 33 -/
def room_Of.f (k : Nat) (l0 : List (S31)) (a1 : ByteArray) : Option (Int × Int × Int × Bool) := (room_made.f k l0 a1).bind fun bt2 => (if (bt2.1.length : Int) = 0 then (some (0, 0, 0, false)) else (some (bt2.2.1, bt2.2.2.1, bt2.2.2.2, true)))
theorem room_Of.mono : ∀ a0 a1 k, LeO (room_Of.f k a0 a1) (room_Of.f (k + 1) a0 a1) := by
 intro a0 a1 k
 unfold room_Of.f
 repeat' first
   | (with_reducible exact room_made.mono _ _ _)
   | (with_reducible exact LeO.refl _)
   | (with_reducible exact LeO.none _)
   | (with_reducible refine LeO.ite ?_ ?_)
   | (with_reducible refine LeO.bind ?_ (fun _ => ?_))
   | exact room_made.mono _ _ _
   | exact LeO.none _
   | refine LeO.ite ?_ ?_
   | refine LeO.bind ?_ (fun _ => ?_)
set_option maxHeartbeats 8000000 in
set_option maxRecDepth 100000 in
theorem room_Of.calls (k : Nat) (A0 : Option Addr) (c0 : Nat) (l0 : List (S31)) (a1 : ByteArray) (r1 : Int) (r2 : Int) (r3 : Int) (r4 : Bool) (w : World) (hr0 : Kd.C k31 w A0 l0.length l0) (hc0 : l0.length ≤ c0) (h : room_Of.f k l0 a1 = some (r1, r2, r3, r4)) :
  Calls Try.prog 33 #[.slice A0 l0.length c0, .string a1] w fun e w' => e = .returned (.tuple #[.agg #[.int .i64 r1, .int .i64 r2, .int .i64 r3], .bool r4]) ∧ Below w.heap.size w w' := by
 have hu27 := Try.underlying27
 have hu127 := Try.underlying127
 have HR0 := Aside0.mk hr0
 have HC0 := Aside0.mk hc0
 clear hr0 hc0
 have HB := Aside0.mk (Below.refl w.heap.size w)
 have H : ((room_made.f k l0 a1).bind fun bt2 => (if (bt2.1.length : Int) = 0 then (some (0, 0, 0, false)) else (some (bt2.2.1, bt2.2.2.1, bt2.2.2.2, true)))) = some (r1, r2, r3, r4) := h
 clear h
 replace H := Option.bind_eq_some_iff.mp H
 obtain ⟨⟨t2, t5, t6, t7⟩, A30, H⟩ := H
 replace H : (if (t2.length : Int) = 0 then (some (0, 0, 0, false)) else (some (t5, t6, t7, true))) = some (r1, r2, r3, r4) := H
 have A3 := Aside0.mk A30
 clear A30
 by_cases c4 : (t2.length : Int) = 0
 ·rw [if_pos c4] at H
  have c4b0 : ((t2.length : Int) == 0) = true := beq_iff_eq.mpr c4
  have c4b1 : ((t2.length : Int) != 0) = false := bne_eq_false_iff_eq.mpr c4
  clear c4
  simp only [Option.some.injEq, Prod.mk.injEq] at H
  obtain ⟨rfl, rfl, rfl, rfl⟩ := H
  go_enter Try.func33, Try.ntmps33
  go_wp2_with (first | ((with_reducible refine gate_dst (N := 4) rfl ?_); refine box_event ?hg (N := 4) ?hd (cs := #[.int .i64 0, .int .i64 0, .int .i64 0]) (t := 27) ?hr ?_; (case hd => rfl); (case hg => rfl); (case hr => first | (go_simp; done) | (go_simp; rfl)); intro gb1 hg w5 hbox hb; have n0_ := Aside0.mk (below_step (by repeat (first | (with_reducible first | exact HB.out | apply below_alloc | apply pw_below_drewN | apply below_drew1) | exact HB.out)) hb); have n1_ := Aside0.mk (hbox); have n2_ := Aside0.mk ((by rw [hg]; exact (below_size (by repeat (first | (with_reducible first | exact HB.out | apply below_alloc | apply pw_below_drewN | apply below_drew1) | exact HB.out))) : w.heap.size ≤ gb1)); have n3_ := Aside0.mk ((by rw [hg]; exact (below_size (by repeat (first | (with_reducible first | exact HB.out | apply below_alloc | apply pw_below_drewN | apply below_drew1) | exact HB.out))) : w.heap.size ≤ gb1)); clear HB; have HB := n0_; have BK1 := n1_; have GW1 := n2_; have GE1 := n3_; clear n0_ n1_ n2_ n3_; clear hb hbox hg) | ((with_reducible refine gate_callee (f := 104) rfl ?_); refine goesL_ (some 9) rfl rfl Try.func104 (by kernel_rfl) rfl #[.slice A0 l0.length c0, .string a1] rfl (by (try simp only [List.map_toArray, List.map_cons, List.map_nil]); first | done | rfl | (simp only [List.length_drop, List.length_take]; rfl)) ?_; (with_reducible refine (room_made.calls k _ _ l0 a1 t2 t5 t6 t7 _ ?side1 ?side2 A3.out).mono ?_); (case side1 => repeat (first | exact (Kd.C_below HR0.out HB.out) | (with_reducible refine Kd.C_alloc ?_ _) | (with_reducible refine Kd.C_drewN ?_ _) | (with_reducible refine Kd.C_drew ?_))); (case side2 => exact HC0.out); rintro e w6 ⟨v3, rfl, ho0, hb⟩; refine ⟨_, rfl, ?_⟩; have n0_ := Aside0.mk (Kd.R_lower ho0 (below_size (by repeat (first | (with_reducible first | exact HB.out | apply below_alloc | apply pw_below_drewN | apply below_drew1 | refine below_set ?_ GE1.out) | exact HB.out)))); have n1_ := Aside0.mk (blk_below (g := gb1) (o := .cells #[.int .i64 0, .int .i64 0, .int .i64 0] 27 (0, 0)) (by (with_reducible repeat (first | refine blk_drewN ?_ _ | refine blk_drew ?_ | refine blk_alloc ?_ _)); exact BK1.out) hb); have n2_ := Aside0.mk (below_step (by repeat (first | (with_reducible first | exact HB.out | apply below_alloc | apply pw_below_drewN | apply below_drew1 | refine below_set ?_ GE1.out) | exact HB.out)) hb); clear BK1; clear HB; have HO4 := n0_; have BK1 := n1_; have HB := n2_; clear n0_ n1_ n2_; (try clear hb); (try clear hb2); (try clear hk); (try clear hi); (try clear ho0)) | ((with_reducible refine gate_dst (N := 6) rfl ?_); refine box_event ?hg (N := 6) ?hd (cs := #[.slice none 0 0, .int .i64 0, .int .i64 0, .int .i64 0]) (t := 127) ?hr ?_; (case hd => rfl); (case hg => rfl); (case hr => first | (go_simp; done) | (go_simp; rfl)); intro gb8 hg w7 hbox hb; have n0_ := Aside0.mk (Kd.R_below (by (with_reducible repeat (first | apply Kd.R_alloc | apply Kd.R_drewN | apply Kd.R_drew)); exact HO4.out) hb); have n1_ := Aside0.mk (blk_below (g := gb1) (o := .cells #[.int .i64 0, .int .i64 0, .int .i64 0] 27 (0, 0)) (by (with_reducible repeat (first | refine blk_drewN ?_ _ | refine blk_drew ?_ | refine blk_alloc ?_ _)); exact BK1.out) hb); have n2_ := Aside0.mk (below_step (by repeat (first | (with_reducible first | exact HB.out | apply below_alloc | apply pw_below_drewN | apply below_drew1 | refine below_set ?_ GE1.out) | exact HB.out)) hb); have n3_ := Aside0.mk (hbox); have n4_ := Aside0.mk ((by rw [hg]; exact (below_size (by repeat (first | (with_reducible first | exact HB.out | apply below_alloc | apply pw_below_drewN | apply below_drew1 | refine below_set ?_ GE1.out) | exact HB.out))) : w.heap.size ≤ gb8)); have n5_ := Aside0.mk ((by rw [hg]; exact (below_size (by repeat (first | (with_reducible first | exact HB.out | apply below_alloc | apply pw_below_drewN | apply below_drew1 | refine below_set ?_ GE1.out) | exact HB.out))) : w.heap.size ≤ gb8)); have n6_ := Aside0.mk ((by rw [hg]; exact Nat.ne_of_lt (blk_lt (g := gb1) (o := .cells #[.int .i64 0, .int .i64 0, .int .i64 0] 27 (0, 0)) (by (with_reducible repeat (first | refine blk_drewN ?_ _ | refine blk_drew ?_ | refine blk_alloc ?_ _)); exact BK1.out)) : gb1 ≠ gb8)); have n7_ := Aside0.mk ((by rw [hg]; exact Nat.ne_of_gt (blk_lt (g := gb1) (o := .cells #[.int .i64 0, .int .i64 0, .int .i64 0] 27 (0, 0)) (by (with_reducible repeat (first | refine blk_drewN ?_ _ | refine blk_drew ?_ | refine blk_alloc ?_ _)); exact BK1.out)) : gb8 ≠ gb1)); clear HO4; clear BK1; clear HB; have HO4 := n0_; have BK1 := n1_; have HB := n2_; have BK8 := n3_; have GW8 := n4_; have GE8 := n5_; have NB1_8 := n6_; have NB8_1 := n7_; clear n0_ n1_ n2_ n3_ n4_ n5_ n6_ n7_; clear hb hbox hg; obtain ⟨Ao8, co8, eo8⟩ := Kd.R_slice HO4.out; subst eo8; have hnb9 := NB8_1.out; have hnc9 := NB1_8.out; have hcz10_0 : w7.cell? ⟨gb8, 0, none⟩ = some (.slice none 0 0) := (blk_cell BK8.out 0).trans rfl; have hcz10_1 : w7.cell? ⟨gb8, 1, none⟩ = some (.int .i64 0) := (blk_cell BK8.out 1).trans rfl; have hcz10_2 : w7.cell? ⟨gb8, 2, none⟩ = some (.int .i64 0) := (blk_cell BK8.out 2).trans rfl; have hcz10_3 : w7.cell? ⟨gb8, 3, none⟩ = some (.int .i64 0) := (blk_cell BK8.out 3).trans rfl; have hfz10_0 := blk_frozen BK8.out 0; have hfz10_1 := blk_frozen BK8.out 1; have hfz10_2 := blk_frozen BK8.out 2; have hfz10_3 := blk_frozen BK8.out 3; have hcz11_0 : w7.cell? ⟨gb1, 0, none⟩ = some (.int .i64 0) := (blk_cell BK1.out 0).trans rfl; have hcz11_1 : w7.cell? ⟨gb1, 1, none⟩ = some (.int .i64 0) := (blk_cell BK1.out 1).trans rfl; have hcz11_2 : w7.cell? ⟨gb1, 2, none⟩ = some (.int .i64 0) := (blk_cell BK1.out 2).trans rfl; have hfz11_0 := blk_frozen BK1.out 0; have hfz11_1 := blk_frozen BK1.out 1; have hfz11_2 := blk_frozen BK1.out 2))
  refine bodyPost_ret (results_ct rfl _ _ gb1 27 #[.int .i64 0, .int .i64 0, .int .i64 0] (0, 0) _ rfl (by (with_reducible repeat (first | refine blk_drewN ?_ _ | refine blk_drew ?_ | refine blk_alloc ?_ _)); refine blk_put (cs := #[.int .i64 0, .int .i64 0, .int .i64 0]) ?_ 2 _ rfl; (with_reducible repeat (first | refine blk_drewN ?_ _ | refine blk_drew ?_ | refine blk_alloc ?_ _)); refine blk_put (cs := #[.int .i64 0, .int .i64 0, .int .i64 0]) ?_ 1 _ rfl; (with_reducible repeat (first | refine blk_drewN ?_ _ | refine blk_drew ?_ | refine blk_alloc ?_ _)); refine blk_put (cs := #[.int .i64 0, .int .i64 0, .int .i64 0]) ?_ 0 _ rfl; (with_reducible repeat (first | refine blk_drewN ?_ _ | refine blk_drew ?_ | refine blk_alloc ?_ _)); refine blk_far ?_ NB1_8.out _; (with_reducible repeat (first | refine blk_drewN ?_ _ | refine blk_drew ?_ | refine blk_alloc ?_ _)); refine blk_far ?_ NB1_8.out _; (with_reducible repeat (first | refine blk_drewN ?_ _ | refine blk_drew ?_ | refine blk_alloc ?_ _)); refine blk_far ?_ NB1_8.out _; (with_reducible repeat (first | refine blk_drewN ?_ _ | refine blk_drew ?_ | refine blk_alloc ?_ _)); refine blk_far ?_ NB1_8.out _; (with_reducible repeat (first | refine blk_drewN ?_ _ | refine blk_drew ?_ | refine blk_alloc ?_ _)); exact BK1.out) Try.underlying27 rfl (by kernel_rfl)) rfl ?_
  exact ⟨by first | rfl | (simp [errW_none, errW_some] <;> rfl) | (simp [*, errW_none, errW_some] <;> rfl), by repeat (first | (with_reducible first | exact HB.out | apply below_alloc | apply pw_below_drewN | apply below_drew1 | refine below_set ?_ GE1.out | refine below_set ?_ GE8.out) | exact HB.out)⟩
 ·rw [if_neg c4] at H
  have c4b0 : ((t2.length : Int) == 0) = false := beq_eq_false_iff_ne.mpr c4
  have c4b1 : ((t2.length : Int) != 0) = true := bne_iff_ne.mpr c4
  have c4b2 : ¬ (t2 = []) := fun h_ => c4 (by rw [h_]; rfl)
  simp only [Option.some.injEq, Prod.mk.injEq] at H
  obtain ⟨rfl, rfl, rfl, rfl⟩ := H
  go_enter Try.func33, Try.ntmps33
  go_wp2_with (first | ((with_reducible refine gate_dst (N := 4) rfl ?_); refine box_event ?hg (N := 4) ?hd (cs := #[.int .i64 0, .int .i64 0, .int .i64 0]) (t := 27) ?hr ?_; (case hd => rfl); (case hg => rfl); (case hr => first | (go_simp; done) | (go_simp; rfl)); intro gb1 hg w12 hbox hb; have n0_ := Aside0.mk (below_step (by repeat (first | (with_reducible first | exact HB.out | apply below_alloc | apply pw_below_drewN | apply below_drew1) | exact HB.out)) hb); have n1_ := Aside0.mk (hbox); have n2_ := Aside0.mk ((by rw [hg]; exact (below_size (by repeat (first | (with_reducible first | exact HB.out | apply below_alloc | apply pw_below_drewN | apply below_drew1) | exact HB.out))) : w.heap.size ≤ gb1)); have n3_ := Aside0.mk ((by rw [hg]; exact (below_size (by repeat (first | (with_reducible first | exact HB.out | apply below_alloc | apply pw_below_drewN | apply below_drew1) | exact HB.out))) : w.heap.size ≤ gb1)); clear HB; have HB := n0_; have BK1 := n1_; have GW1 := n2_; have GE1 := n3_; clear n0_ n1_ n2_ n3_; clear hb hbox hg) | ((with_reducible refine gate_callee (f := 104) rfl ?_); refine goesL_ (some 9) rfl rfl Try.func104 (by kernel_rfl) rfl #[.slice A0 l0.length c0, .string a1] rfl (by (try simp only [List.map_toArray, List.map_cons, List.map_nil]); first | done | rfl | (simp only [List.length_drop, List.length_take]; rfl)) ?_; (with_reducible refine (room_made.calls k _ _ l0 a1 t2 t5 t6 t7 _ ?side1 ?side2 A3.out).mono ?_); (case side1 => repeat (first | exact (Kd.C_below HR0.out HB.out) | (with_reducible refine Kd.C_alloc ?_ _) | (with_reducible refine Kd.C_drewN ?_ _) | (with_reducible refine Kd.C_drew ?_))); (case side2 => exact HC0.out); rintro e w13 ⟨v3, rfl, ho0, hb⟩; refine ⟨_, rfl, ?_⟩; have n0_ := Aside0.mk (Kd.R_lower ho0 (below_size (by repeat (first | (with_reducible first | exact HB.out | apply below_alloc | apply pw_below_drewN | apply below_drew1 | refine below_set ?_ GE1.out) | exact HB.out)))); have n1_ := Aside0.mk (blk_below (g := gb1) (o := .cells #[.int .i64 0, .int .i64 0, .int .i64 0] 27 (0, 0)) (by (with_reducible repeat (first | refine blk_drewN ?_ _ | refine blk_drew ?_ | refine blk_alloc ?_ _)); exact BK1.out) hb); have n2_ := Aside0.mk (below_step (by repeat (first | (with_reducible first | exact HB.out | apply below_alloc | apply pw_below_drewN | apply below_drew1 | refine below_set ?_ GE1.out) | exact HB.out)) hb); clear BK1; clear HB; have HO4 := n0_; have BK1 := n1_; have HB := n2_; clear n0_ n1_ n2_; (try clear hb); (try clear hb2); (try clear hk); (try clear hi); (try clear ho0)) | ((with_reducible refine gate_dst (N := 6) rfl ?_); refine box_event ?hg (N := 6) ?hd (cs := #[.slice none 0 0, .int .i64 0, .int .i64 0, .int .i64 0]) (t := 127) ?hr ?_; (case hd => rfl); (case hg => rfl); (case hr => first | (go_simp; done) | (go_simp; rfl)); intro gb8 hg w14 hbox hb; have n0_ := Aside0.mk (Kd.R_below (by (with_reducible repeat (first | apply Kd.R_alloc | apply Kd.R_drewN | apply Kd.R_drew)); exact HO4.out) hb); have n1_ := Aside0.mk (blk_below (g := gb1) (o := .cells #[.int .i64 0, .int .i64 0, .int .i64 0] 27 (0, 0)) (by (with_reducible repeat (first | refine blk_drewN ?_ _ | refine blk_drew ?_ | refine blk_alloc ?_ _)); exact BK1.out) hb); have n2_ := Aside0.mk (below_step (by repeat (first | (with_reducible first | exact HB.out | apply below_alloc | apply pw_below_drewN | apply below_drew1 | refine below_set ?_ GE1.out) | exact HB.out)) hb); have n3_ := Aside0.mk (hbox); have n4_ := Aside0.mk ((by rw [hg]; exact (below_size (by repeat (first | (with_reducible first | exact HB.out | apply below_alloc | apply pw_below_drewN | apply below_drew1 | refine below_set ?_ GE1.out) | exact HB.out))) : w.heap.size ≤ gb8)); have n5_ := Aside0.mk ((by rw [hg]; exact (below_size (by repeat (first | (with_reducible first | exact HB.out | apply below_alloc | apply pw_below_drewN | apply below_drew1 | refine below_set ?_ GE1.out) | exact HB.out))) : w.heap.size ≤ gb8)); have n6_ := Aside0.mk ((by rw [hg]; exact Nat.ne_of_lt (blk_lt (g := gb1) (o := .cells #[.int .i64 0, .int .i64 0, .int .i64 0] 27 (0, 0)) (by (with_reducible repeat (first | refine blk_drewN ?_ _ | refine blk_drew ?_ | refine blk_alloc ?_ _)); exact BK1.out)) : gb1 ≠ gb8)); have n7_ := Aside0.mk ((by rw [hg]; exact Nat.ne_of_gt (blk_lt (g := gb1) (o := .cells #[.int .i64 0, .int .i64 0, .int .i64 0] 27 (0, 0)) (by (with_reducible repeat (first | refine blk_drewN ?_ _ | refine blk_drew ?_ | refine blk_alloc ?_ _)); exact BK1.out)) : gb8 ≠ gb1)); clear HO4; clear BK1; clear HB; have HO4 := n0_; have BK1 := n1_; have HB := n2_; have BK8 := n3_; have GW8 := n4_; have GE8 := n5_; have NB1_8 := n6_; have NB8_1 := n7_; clear n0_ n1_ n2_ n3_ n4_ n5_ n6_ n7_; clear hb hbox hg; obtain ⟨Ao15, co15, eo15⟩ := Kd.R_slice HO4.out; subst eo15; have hnb16 := NB8_1.out; have hnc16 := NB1_8.out; have hcz17_0 : w14.cell? ⟨gb8, 0, none⟩ = some (.slice none 0 0) := (blk_cell BK8.out 0).trans rfl; have hcz17_1 : w14.cell? ⟨gb8, 1, none⟩ = some (.int .i64 0) := (blk_cell BK8.out 1).trans rfl; have hcz17_2 : w14.cell? ⟨gb8, 2, none⟩ = some (.int .i64 0) := (blk_cell BK8.out 2).trans rfl; have hcz17_3 : w14.cell? ⟨gb8, 3, none⟩ = some (.int .i64 0) := (blk_cell BK8.out 3).trans rfl; have hfz17_0 := blk_frozen BK8.out 0; have hfz17_1 := blk_frozen BK8.out 1; have hfz17_2 := blk_frozen BK8.out 2; have hfz17_3 := blk_frozen BK8.out 3; have hcz18_0 : w14.cell? ⟨gb1, 0, none⟩ = some (.int .i64 0) := (blk_cell BK1.out 0).trans rfl; have hcz18_1 : w14.cell? ⟨gb1, 1, none⟩ = some (.int .i64 0) := (blk_cell BK1.out 1).trans rfl; have hcz18_2 : w14.cell? ⟨gb1, 2, none⟩ = some (.int .i64 0) := (blk_cell BK1.out 2).trans rfl; have hfz18_0 := blk_frozen BK1.out 0; have hfz18_1 := blk_frozen BK1.out 1; have hfz18_2 := blk_frozen BK1.out 2))
  refine bodyPost_ret (results_ct rfl _ _ gb1 27 #[.int .i64 t5, .int .i64 t6, .int .i64 t7] (0, 0) _ rfl (by (with_reducible repeat (first | refine blk_drewN ?_ _ | refine blk_drew ?_ | refine blk_alloc ?_ _)); refine blk_put (cs := #[.int .i64 t5, .int .i64 t6, .int .i64 0]) ?_ 2 _ rfl; (with_reducible repeat (first | refine blk_drewN ?_ _ | refine blk_drew ?_ | refine blk_alloc ?_ _)); refine blk_put (cs := #[.int .i64 t5, .int .i64 0, .int .i64 0]) ?_ 1 _ rfl; (with_reducible repeat (first | refine blk_drewN ?_ _ | refine blk_drew ?_ | refine blk_alloc ?_ _)); refine blk_put (cs := #[.int .i64 0, .int .i64 0, .int .i64 0]) ?_ 0 _ rfl; (with_reducible repeat (first | refine blk_drewN ?_ _ | refine blk_drew ?_ | refine blk_alloc ?_ _)); refine blk_far ?_ NB1_8.out _; (with_reducible repeat (first | refine blk_drewN ?_ _ | refine blk_drew ?_ | refine blk_alloc ?_ _)); refine blk_far ?_ NB1_8.out _; (with_reducible repeat (first | refine blk_drewN ?_ _ | refine blk_drew ?_ | refine blk_alloc ?_ _)); refine blk_far ?_ NB1_8.out _; (with_reducible repeat (first | refine blk_drewN ?_ _ | refine blk_drew ?_ | refine blk_alloc ?_ _)); refine blk_far ?_ NB1_8.out _; (with_reducible repeat (first | refine blk_drewN ?_ _ | refine blk_drew ?_ | refine blk_alloc ?_ _)); exact BK1.out) Try.underlying27 rfl (by kernel_rfl)) rfl ?_
  exact ⟨by first | rfl | (simp [errW_none, errW_some] <;> rfl) | (simp [*, errW_none, errW_some] <;> rfl), by repeat (first | (with_reducible first | exact HB.out | apply below_alloc | apply pw_below_drewN | apply below_drew1 | refine below_set ?_ GE1.out | refine below_set ?_ GE8.out) | exact HB.out)⟩
end Go.Proofs.Ytcgefpklljclgaa.Print

namespace Go.Proofs.Ytcgefpklljclgaa.Print
open Go.RowKit Go.Proofs.YtcgefpklljclgaaW.PrintWords Go.Proofs.YtcgefpklljclgaaW.PrintLast Go.Proofs.YtcgefpklljclgaaW.PrintMore
set_option linter.unusedVariables false
set_option linter.unusedSimpArgs false
/-! the program's way up -/
theorem tree_Up_l0 (l : List Item) (hl : l.length < 1000000) : ∀ (m : Nat) (n : ByteArray) (out : List ByteArray), out.length + m = l.length + 1 →
    Ev (fun k => tree_Up.l0 k l out (fnd l n)) (out ++ upGo l m n)
  | 0, n, out, hm => by
    rw [upGo.eq_1, List.append_nil]
    refine Ev.step (f := fun _ => some out) (fun k => ?_) (Ev.now _)
    simp only [tree_Up.l0]
    by_cases h : 0 ≤ fnd l n
    · rw [if_pos h, if_neg (by omega)]
    · rw [if_neg h]
  | m + 1, n, out, hm => by
    cases h : look l n with
    | none =>
      rw [upGo_none h, List.append_nil]
      refine Ev.step (f := fun _ => some out) (fun k => ?_) (Ev.now _)
      simp only [tree_Up.l0]
      rw [fnd_none h, if_neg (by omega)]
    | some x =>
      rw [upGo_some h]
      have h0 := fnd_ge.2 ⟨x, h⟩
      have h1 := fnd_lt l n
      obtain ⟨hx, hn⟩ := look_mem h
      refine Ev.step (f := fun k => tree_Up.l0 k l (out ++ [n]) (fnd l x.f1)) (fun k => ?_) ?_
      · simp only [tree_Up.l0]
        rw [if_pos h0, if_pos (by omega), if_pos h0, if_pos h1, if_pos (by omega), fnd_rd h, hn, tree_Find_eq]
        rfl
      · have := tree_Up_l0 l hl m x.f1 (out ++ [n]) (by simp; omega)
        simpa using this
theorem tree_Up_ev (l : List Item) (n : ByteArray) (hl : l.length < 1000000) : Ev (fun k => tree_Up.f k l n) (up l n) := by
  have := tree_Up_l0 l hl (l.length + 1) n [] (by simp)
  rw [List.nil_append] at this
  exact this
theorem up_in {l : List Item} {n u : ByteArray} (h : u ∈ up l n) : ∃ x, look l u = some x := by
  have : ∀ (m : Nat) (n : ByteArray), u ∈ upGo l m n → ∃ x, look l u = some x := by
    intro m
    induction m with
    | zero => intro n h; cases h
    | succ m ih =>
      intro n h
      cases e : look l n with
      | none => rw [upGo_none e] at h; cases h
      | some x =>
        rw [upGo_some e] at h
        rcases List.mem_cons.1 h with rfl | h
        · exact ⟨x, e⟩
        · exact ih _ h
  exact this _ _ h
theorem vec_Add2 {a b : Vec} (ha : MayP a) (hb : MayP b) : vec_Add.f [a, b] = some (a.f0 + b.f0, a.f1 + b.f1, a.f2 + b.f2) := by
  have a0 := ha .cpu; have a1 := ha .mem; have a2 := ha .pods
  have b0 := hb .cpu; have b1 := hb .mem; have b2 := hb .pods
  simp only [Comp.of] at a0 a1 a2 b0 b1 b2
  simp only [vec_Add.f, vecByF]
  rw [w64 (n := 0 + a.f0) (by omega) (by omega), w64 (n := 0 + a.f1) (by omega) (by omega), w64 (n := 0 + a.f2) (by omega) (by omega), w64 (by omega) (by omega), w64 (by omega) (by omega), w64 (by omega) (by omega), Int.zero_add, Int.zero_add, Int.zero_add]
end Go.Proofs.Ytcgefpklljclgaa.Print

namespace Go.Proofs.Ytcgefpklljclgaa.Print
open Go.RowKit Go.Proofs.YtcgefpklljclgaaW.PrintWords Go.Proofs.YtcgefpklljclgaaW.PrintLast Go.Proofs.YtcgefpklljclgaaW.PrintMore
set_option linter.unusedVariables false
set_option linter.unusedSimpArgs false
/-! letting in, as the program does it -/
theorem vec_Le_eq (a b d a' b' d' : Int) : vec_Le.f a b d a' b' d' = some (decide (LeP ⟨a, b, d⟩ ⟨a', b', d'⟩)) := by
  unfold vec_Le.f
  by_cases h0 : a ≤ a' <;> by_cases h1 : b ≤ b' <;> simp [h0, h1, leP_iff]
theorem leV_dec (a b : Vec) : leV a b = decide (LeP a b) := by
  have := (leV_eq a b).symm.trans (vec_Le_eq _ _ _ _ _ _)
  exact Option.some.inj this
theorem vec_May_eq (a b d : Int) : vec_May.f a b d = some (decide (MayP ⟨a, b, d⟩)) := by
  unfold vec_May.f vec_Most.f
  simp only [vec_Le_eq, Option.bind_some]
  by_cases h : LeP ⟨0, 0, 0⟩ ⟨a, b, d⟩
  · rw [if_pos (by exact decide_eq_true h)]
    congr 1
    rw [Bool.eq_iff_iff, decide_eq_true_iff, decide_eq_true_iff, mayP_iff, leP_iff]
    rw [leP_iff] at h
    constructor <;> intro k <;> omega
  · rw [if_neg (by simpa using h)]
    congr 1
    symm
    rw [decide_eq_false_iff_not, mayP_iff]
    rw [leP_iff] at h
    omega
theorem opAdd_eq {a v : Vec} (ha : MayP a) (hv : MayP v) : opAdd v a = vadd a v := by
  unfold opAdd
  rw [vec_Add2 ha hv]
  rfl
theorem found_up (l : List Item) (us : List ByteArray) (h : ∀ u ∈ us, ∃ x, look l u = some x) : found l us = true := by
  unfold found
  rw [List.all_eq_true]
  intro u hu
  have h0 := fnd_ge.2 (h u hu)
  have h1 := fnd_lt l u
  rw [tree_Find_eq, Option.getD_some]
  simp [h0, h1]
theorem admAllF_eq {l : List Item} (p : Item → Bool) (us : List ByteArray) (h : ∀ u ∈ us, ∃ x, look l u = some x) : admAllF p l us = some (us.all fun s => p (rd_T31 l (fnd l s))) := by
  unfold admAllF
  exact if_pos (found_up l us h)
theorem setAt_map {l : List Item} (hn : (l.map (·.f0)).Nodup) (f g : Item → Item) (hg : ∀ x, (g x).f0 = x.f0) {u : ByteArray} {x : Item} (h : look l u = some x) :
    setAt f (l.map g) (fnd l u) = l.map (fun z => if z.f0 = u then f (g z) else g z) := by
  have hlk : look (l.map g) u = some (g x) := by rw [look_map hg, h]; rfl
  have hn' : ((l.map g).map (·.f0)).Nodup := by rw [List.map_map, show ((fun x : Item => x.f0) ∘ g) = (fun x => x.f0) from funext hg]; exact hn
  obtain ⟨hx, hxu⟩ := look_mem h
  have h2 := set_at hn' hlk (f (g x))
  have h3 := fnd_rd hlk
  rw [fnd_map hg] at h2 h3
  unfold setAt
  rw [h3, h2, List.map_map]
  refine List.map_congr_left fun z hz => ?_
  simp only [Function.comp, hg]
  by_cases e : z.f0 = u
  · have : z = x := by
      have h4 := look_of_mem hn hz
      rw [e, h] at h4
      exact (Option.some.inj h4).symm
    rw [if_pos e, if_pos e, this]
  · rw [if_neg e, if_neg e]
def subM (op : Vec → Vec) (us : List ByteArray) (x : Item) : Item := if x.f0 ∈ us then subF op x else x
theorem subM_name (op : Vec → Vec) (us : List ByteArray) (x : Item) : (subM op us x).f0 = x.f0 := by unfold subM; split <;> rfl
theorem subs_map {l : List Item} (hn : (l.map (·.f0)).Nodup) (op : Vec → Vec) (us : List ByteArray) (hu : us.Nodup) (h : ∀ u ∈ us, ∃ x, look l u = some x) : subs op l us l = l.map (subM op us) := by
  have : ∀ i : Nat, i ≤ us.length → subs op l (us.take i) l = l.map (subM op (us.take i)) := by
    intro i
    induction i with
    | zero =>
      intro _
      show l = _
      rw [List.take_zero, show subM op [] = id from funext fun x => by simp [subM]]
      simp
    | succ i ih =>
      intro hi
      have hlt : i < us.length := by omega
      have hmem : rdOf ByteArray.empty us i ∈ us := by simp [rdOf, hlt]
      obtain ⟨x, hx⟩ := h _ hmem
      have hnot : rdOf ByteArray.empty us i ∉ us.take i := by
        rw [← List.take_append_drop i us, drop_cons hlt, List.nodup_append] at hu
        exact fun q => hu.2.2 _ q _ (by simp) rfl
      rw [subs_take op l us l i hlt, ih (by omega), tree_Find_eq, Option.getD_some, setAt_map hn _ _ (subM_name op _) hx]
      refine List.map_congr_left fun z hz => ?_
      by_cases e : z.f0 = rdOf ByteArray.empty us i
      · rw [if_pos e]
        have e1 : subM op (us.take i) z = z := by unfold subM; rw [if_neg (by rw [e]; exact hnot)]
        rw [e1]
        unfold subM
        rw [if_pos (by rw [take_snoc_ hlt, e]; simp)]
      · rw [if_neg e]
        unfold subM
        rw [take_snoc_ hlt]
        simp [e]
  have h2 := this us.length (Nat.le_refl _)
  rw [List.take_length] at h2
  exact h2
theorem slices_Clone_eq (l : List Item) (h : l.length < 1000000) : slices_Clone_Item.f l = some l := by
  unfold slices_Clone_Item.f; rw [if_pos (by omega)]
def chgF (op : Vec → Vec) (us : List ByteArray) (n : ByteArray) (x : Item) : Item := ⟨x.f0, x.f1, x.f2, if x.f0 = n then op x.f3 else x.f3, if x.f0 ∈ us then op x.f4 else x.f4, x.f5⟩
theorem changedF_eq {l : List Item} (hl : RightP l) (op : Vec → Vec) {n : ByteArray} {x : Item} (hx : look l n = some x) : changedF op l (up l n) = some (l.map (chgF op (up l n) n)) := by
  have hin : ∀ u ∈ up l n, ∃ x, look l u = some x := fun u hu => up_in hu
  have hhead : rdOf ByteArray.empty (up l n) 0 = n := by unfold up; rw [upGo_some hx]; rfl
  have hpos : 0 < (up l n).length := by have := up_self hx; exact List.length_pos_of_mem this
  have hlen := hl.len
  unfold changedF
  rw [if_pos ⟨found_up l _ hin, hpos⟩, slices_Clone_eq l (by omega)]
  simp only [Option.bind_some]
  rw [subs_map hl.nodup op _ (hl.chainAll n).nodup hin, hhead, tree_Find_eq, Option.getD_some, setAt_map hl.nodup _ _ (subM_name op _) hx]
  congr 1
  refine List.map_congr_left fun z hz => ?_
  unfold subM chgF ownF subF
  by_cases e : z.f0 = n
  · have hm : z.f0 ∈ up l n := by rw [e]; exact up_self hx
    simp [e] at hm ⊢
    simp [hm, e]
  · by_cases hm : z.f0 ∈ up l n <;> simp [e, hm]
theorem all_up {l : List Item} (hl : RightP l) (n : ByteArray) (p : Item → Bool) : ((up l n).all fun s => p (rd_T31 l (fnd l s))) = decide (∀ x ∈ l, x.f0 ∈ up l n → p x = true) := by
  rw [Bool.eq_iff_iff, decide_eq_true_iff, List.all_eq_true]
  constructor
  · intro h x hx hm
    have := h _ hm
    rwa [fnd_rd (hl.look hx)] at this
  · intro h s hs
    obtain ⟨x, hx⟩ := up_in hs
    obtain ⟨h1, rfl⟩ := look_mem hx
    rw [fnd_rd hx]
    exact h x h1 hs
theorem admit_Admit_ev {l : List Item} (hl : RightP l) (n : ByteArray) (v : Vec) : Ev (fun k => admit_Admit.f k l n v.f0 v.f1 v.f2) (admR l n v) := by
  have hlen := hl.len
  refine Ev.bind (tree_Up_ev l n (by omega)) ?_
  have hmv : vec_May.f v.f0 v.f1 v.f2 = some (decide (MayP v)) := vec_May_eq _ _ _
  refine Ev.congr (fun k => ?_) (Ev.now _)
  rw [hmv]
  simp only [Option.bind_some]
  unfold admR
  by_cases hv : MayP v
  · rw [if_pos (by exact decide_eq_true hv), if_neg (show ¬ ¬ MayP v from fun q => q hv)]
    cases hx : look l n with
    | none =>
      rw [if_pos (by rw [show up l n = [] from upGo_none hx _]; rfl), if_pos (show (none : Option Item).isNone = true from rfl)]
    | some x =>
      have hpos : 0 < (up l n).length := by have := up_self hx; exact List.length_pos_of_mem this
      rw [if_neg (by omega), if_neg (by simp), admAllF_eq _ _ (fun u hu => up_in hu), show ((up l n).all fun s => leV (opAdd ⟨v.f0, v.f1, v.f2⟩ (rd_T31 l (fnd l s)).f4) (rd_T31 l (fnd l s)).f2) = _ from all_up hl n (fun x => leV (opAdd ⟨v.f0, v.f1, v.f2⟩ x.f4) x.f2)]
      simp only [Option.bind_some]
      have e : (∀ y ∈ l, y.f0 ∈ up l n → leV (opAdd ⟨v.f0, v.f1, v.f2⟩ y.f4) y.f2 = true) ↔ (∀ y ∈ l, y.f0 ∈ up l n → LeP (vadd y.f4 v) y.f2) := by
        constructor <;> intro h y hy hm <;> have := h y hy hm
        · rw [opAdd_eq (v := ⟨v.f0, v.f1, v.f2⟩) (hl.ok y hy).sub hv, leV_dec, decide_eq_true_iff] at this
          exact this
        · rw [opAdd_eq (v := ⟨v.f0, v.f1, v.f2⟩) (hl.ok y hy).sub hv, leV_dec, decide_eq_true_iff]
          exact this
      by_cases hf : ∀ y ∈ l, y.f0 ∈ up l n → LeP (vadd y.f4 v) y.f2
      · rw [if_pos hf, if_pos (decide_eq_true (e.2 hf)), changedF_eq hl _ hx]
        simp only [Option.bind_some]
        congr 2
        unfold admL
        refine List.map_congr_left fun z hz => ?_
        unfold chgF admF
        rw [opAdd_eq (v := ⟨v.f0, v.f1, v.f2⟩) (hl.ok z hz).sub hv, opAdd_eq (v := ⟨v.f0, v.f1, v.f2⟩) (hl.ok z hz).own hv]
      · rw [if_neg hf, if_neg (fun q => hf (e.1 (of_decide_eq_true q)))]
  · rw [if_neg (by simpa using hv), if_pos hv]
/-! one tree and another -/
theorem r10_Same_l0 (l : List Item) (hl : l.length < 1000000) : ∀ (d i : Nat), l.length - i = d → i ≤ l.length → Ev (fun k => r10_SameItems.l0 k l l i) true
  | 0, i, hd, hi => by
    refine Ev.step (f := fun _ => some true) (fun k => ?_) (Ev.now _)
    simp only [r10_SameItems.l0]
    rw [if_neg (by omega)]
  | d + 1, i, hd, hi => by
    refine Ev.step (f := fun k => r10_SameItems.l0 k l l ((i + 1 : Nat) : Int)) (fun k => ?_) (r10_Same_l0 l hl d (i + 1) (by omega) (by omega))
    simp only [r10_SameItems.l0]
    rw [if_pos (by omega), if_pos (by omega), if_pos (by omega), if_neg (by simp), w64 (by omega) (by omega)]
    rfl
theorem r10_Same_refl (l : List Item) (hl : l.length < 1000000) : Ev (fun k => r10_SameItems.f k l l) true :=
  Ev.congr (fun k => if_pos rfl) (r10_Same_l0 l hl _ 0 rfl (by omega))
end Go.Proofs.Ytcgefpklljclgaa.Print

namespace Go.Proofs.Ytcgefpklljclgaa.Print
open Go.RowKit Go.Proofs.YtcgefpklljclgaaW.PrintWords Go.Proofs.YtcgefpklljclgaaW.PrintLast Go.Proofs.YtcgefpklljclgaaW.PrintMore
set_option linter.unusedVariables false
set_option linter.unusedSimpArgs false
theorem law14_awake_ev : Ev (fun k => law14_awake.f k) true := Ev.of (g := fun k => law14_awake.f k) (fun k => law14_awake.mono k) (k := 20) (by kernel_rfl)
theorem law1_Num_eq (e : Int) : law1_Num.f e = some e := rfl
theorem admR_E {l : List Item} {n : ByteArray} {v : Vec} (hv : MayP v) (hx : ∃ x, look l n = some x) : (admR l n v = (admL l n v, 0) ∧ ∀ x ∈ l, x.f0 ∈ up l n → LeP (vadd x.f4 v) x.f2) ∨ (admR l n v = ([], 12) ∧ ¬ ∀ x ∈ l, x.f0 ∈ up l n → LeP (vadd x.f4 v) x.f2) := by
  obtain ⟨x, hx⟩ := hx
  unfold admR
  rw [if_neg (show ¬ ¬ MayP v from fun q => q hv), hx, if_neg (by simp)]
  by_cases h : ∀ x ∈ l, x.f0 ∈ up l n → LeP (vadd x.f4 v) x.f2
  · rw [if_pos h]; exact .inl ⟨rfl, h⟩
  · rw [if_neg h]; exact .inr ⟨rfl, h⟩
theorem up_adm (l : List Item) (n : ByteArray) (v : Vec) (m : ByteArray) : up (admL l n v) m = up l m := up_map (f := admF (up l n) n v) (fun _ => rfl) (fun _ => rfl) l m
theorem look_adm (l : List Item) (n : ByteArray) (v : Vec) (m : ByteArray) : look (admL l n v) m = (look l m).map (admF (up l n) n v) := look_map (f := admF (up l n) n v) (fun _ => rfl) l m
theorem vadd_comm3 (a u v : Vec) : vadd (vadd a u) v = vadd (vadd a v) u := vec_ext fun c => by simp only [of_vadd]; omega
theorem vadd_assoc (a u v : Vec) : vadd (vadd a u) v = vadd a (vadd u v) := vec_ext fun c => by simp only [of_vadd]; omega
theorem adm_comm (l : List Item) (p q : ByteArray) (u v : Vec) : admL (admL l p u) q v = admL (admL l q v) p u := by
  unfold admL
  rw [show up (l.map (admF (up l p) p u)) q = up l q from up_adm l p u q, show up (l.map (admF (up l q) q v)) p = up l p from up_adm l q v p, List.map_map, List.map_map]
  refine List.map_congr_left fun x hx => ?_
  simp only [Function.comp, admF]
  by_cases e1 : x.f0 = p <;> by_cases e2 : x.f0 = q <;> by_cases e3 : x.f0 ∈ up l p <;> by_cases e4 : x.f0 ∈ up l q <;> simp only [e1, e2, e3, e4, if_true, if_false, vadd_comm3 _ u v] <;> (try rfl) <;> simp_all [vadd_comm3]
theorem adm_twice (l : List Item) (p : ByteArray) (u v : Vec) : admL (admL l p u) p v = admL l p (vadd u v) := by
  unfold admL
  rw [show up (l.map (admF (up l p) p u)) p = up l p from up_adm l p u p, List.map_map]
  refine List.map_congr_left fun x hx => ?_
  simp only [Function.comp, admF]
  by_cases e1 : x.f0 = p <;> by_cases e3 : x.f0 ∈ up l p
  · have e4 := e3; rw [e1] at e4; simp [e1, e4, vadd_assoc]
  · have e4 := e3; rw [e1] at e4; simp [e1, e4, vadd_assoc]
  · simp [e1, e3, vadd_assoc]
  · simp [e1, e3, vadd_assoc]
/-- the pure statement's heart -/
theorem twice {l : List Item} (hl : RightP l) {p q : ByteArray} (hp : ∃ x, look l p = some x) (hq : ∃ x, look l q = some x) {u v : Vec} (hu : MayP u) (hv : MayP v) (huv : MayP (vadd u v))
    (h1 : ∀ x ∈ l, x.f0 ∈ up l p → LeP (vadd x.f4 u) x.f2) (h2 : ∀ x ∈ admL l p u, x.f0 ∈ up (admL l p u) q → LeP (vadd x.f4 v) x.f2) :
    (∀ x ∈ l, x.f0 ∈ up l q → LeP (vadd x.f4 v) x.f2) ∧ (∀ x ∈ admL l q v, x.f0 ∈ up (admL l q v) p → LeP (vadd x.f4 u) x.f2) ∧ (p = q → ∀ x ∈ l, x.f0 ∈ up l p → LeP (vadd x.f4 (vadd u v)) x.f2) := by
  have h2' : ∀ x ∈ l, x.f0 ∈ up l q → LeP (vadd (if x.f0 ∈ up l p then vadd x.f4 u else x.f4) v) x.f2 := fun x hx hm => by
    have := h2 (admF (up l p) p u x) (List.mem_map_of_mem hx) (by rw [up_adm]; exact hm)
    exact this
  refine ⟨fun x hx hm c => ?_, fun y hy hm c => ?_, fun e x hx hm c => ?_⟩
  · have := h2' x hx hm c
    have hu0 := (hu c).1
    rw [of_vadd] at this ⊢
    split at this
    · rw [of_vadd] at this; omega
    · exact this
  · obtain ⟨x, hx, rfl⟩ := List.mem_map.1 hy
    rw [up_adm] at hm
    have k1 := h1 x hx hm c
    show c.of (vadd (if x.f0 ∈ up l q then vadd x.f4 v else x.f4) u) ≤ c.of x.f2
    rw [of_vadd] at k1 ⊢
    split
    · rename_i hmq
      have := h2' x hx hmq c
      rw [if_pos (by exact hm), of_vadd, of_vadd] at this
      rw [of_vadd]; omega
    · exact k1
  · have := h2' x hx (by rw [← e]; exact hm) c
    rw [if_pos hm, of_vadd, of_vadd] at this
    rw [of_vadd, of_vadd]; omega
end Go.Proofs.Ytcgefpklljclgaa.Print
namespace Go.Proofs.Ytcgefpklljclgaa.Pure
open Go.RowKit Go.Proofs.Ytcgefpklljclgaa.Print Go.Proofs.YtcgefpklljclgaaW.PrintWords Go.Proofs.YtcgefpklljclgaaW.PrintLast
set_option linter.unusedVariables false
set_option linter.unusedSimpArgs false
theorem AdmitTwice : law14_AdmitTwice.Pure := by
  intro l0 a1 a2 a3 a4 hm hs hw w1 w2 w3 w4
  have b1 := u8_bd w1; have b2 := u8_bd w2; have b3 := u8_bd w3; have b4 := u8_bd w4
  have hawake : Ev (fun k => (law14_awake.f k).bind fun t => some t) true := Ev.bind law14_awake_ev (Ev.now _)
  unfold law14_AdmitTwice.f
  by_cases h90 : (l0.length : Int) > 90
  · exact Ev.rounds (Ev.congr (fun k => if_pos h90) hawake)
  obtain ⟨l, hlev, hM⟩ := made_all (ns := l0) (fun x hx => u8_bd (hw x hx)) (by omega)
  refine Ev.rounds (Ev.congr (fun k => if_neg h90) (Ev.bind hlev ?_))
  by_cases hz : (l.length : Int) = 0
  · exact Ev.congr (fun k => if_pos hz) hawake
  refine Ev.congr (fun k => if_neg hz) ?_
  have hr := hM.right
  have hlen := hr.len
  rw [w64 (n := a1) (by omega) (by omega), w64 (n := a2) (by omega) (by omega), w64 (n := a3) (by omega) (by omega), w64 (n := a4) (by omega) (by omega)]
  have q1 := tmod_in (a := a1) (b := (l.length : Int)) b1.1 (by omega)
  have q2 := tmod_in (a := a2) (b := (l.length : Int)) b2.1 (by omega)
  have hget : ∀ j : Int, 0 ≤ j → j < l.length → ∃ x, Print.look l (rd_T31 l j).f0 = some x := fun j h0 h1 => by
    have : rd_T31 l j ∈ l := by
      rw [rd_item, List.getD_eq_getElem?_getD, List.getElem?_eq_getElem (by omega), Option.getD_some]
      exact List.getElem_mem _
    exact ⟨_, hr.look this⟩
  have hp := hget _ q1.1 q1.2
  have hq := hget _ q2.1 q2.2
  generalize (rd_T31 l (Int.tmod a1 (l.length : Int))).f0 = p at hp
  generalize (rd_T31 l (Int.tmod a2 (l.length : Int))).f0 = q at hq
  have m3 := tmod_in (a := a3) (b := 30) b3.1 (by omega)
  have d3 := tdiv_in (a := a3) (b := 30) b3.1 (by omega)
  have m4 := tmod_in (a := a4) (b := 30) b4.1 (by omega)
  have d4 := tdiv_in (a := a4) (b := 30) b4.1 (by omega)
  rw [w64 (n := Int.tdiv a3 30) (by omega) (by omega), w64 (n := Int.tdiv a4 30) (by omega) (by omega)]
  obtain ⟨u, hu⟩ : ∃ u : Vec, u = ⟨Int.tmod a3 30, Int.tdiv a3 30, 0⟩ := ⟨_, rfl⟩
  obtain ⟨v, hv⟩ : ∃ v : Vec, v = ⟨Int.tmod a4 30, 0, Int.tdiv a4 30⟩ := ⟨_, rfl⟩
  have hum : MayP u := by rw [hu, mayP_iff]; omega
  have hvm : MayP v := by rw [hv, mayP_iff]; omega
  have huvm : MayP (vadd u v) := by rw [hu, hv, mayP_iff]; simp only [vadd]; omega
  have e1 : ∀ (l : List Print.Item), RightP l → ∀ n : ByteArray, Ev (fun k => admit_Admit.f k l n (Int.tmod a3 30) (Int.tdiv a3 30) 0) (admR l n u) := fun l hl n => by
    have := admit_Admit_ev hl n u
    rw [hu] at this ⊢
    exact this
  have e2 : ∀ (l : List Print.Item), RightP l → ∀ n : ByteArray, Ev (fun k => admit_Admit.f k l n (Int.tmod a4 30) 0 (Int.tdiv a4 30)) (admR l n v) := fun l hl n => by
    have := admit_Admit_ev hl n v
    rw [hv] at this ⊢
    exact this
  refine Ev.congr (fun k => by rw [if_pos q1.1, if_pos q1.2, if_pos q2.1, if_pos q2.2]) ?_
  have hl2 : l.length < 1000000 := by omega
  refine Ev.bind (e1 l hr p) ?_
  rcases admR_E hum hp with ⟨E1, H1⟩ | ⟨E1, -⟩
  rotate_left
  · rw [E1]
    simp only [law1_Num_eq, Option.bind_some, Int.reduceEq, reduceIte]
    exact hawake
  rw [E1]
  have hr1 : RightP (admL l p u) := (admR_right hr (n := p) (v := u) (by rw [E1])).2.1
  have hq1 : ∃ x, Print.look (admL l p u) q = some x := by rw [look_adm]; obtain ⟨x, hx⟩ := hq; rw [hx]; exact ⟨_, rfl⟩
  simp only [law1_Num_eq, Option.bind_some, Int.reduceEq, reduceIte]
  refine Ev.bind (e2 _ hr1 q) ?_
  rcases admR_E hvm hq1 with ⟨E2, H2⟩ | ⟨E2, -⟩
  rotate_left
  · rw [E2]
    simp only [law1_Num_eq, Option.bind_some, Int.reduceEq, reduceIte]
    exact hawake
  rw [E2]
  obtain ⟨T1, T2, T3⟩ := twice hr hp hq hum hvm huvm H1 H2
  simp only [law1_Num_eq, Option.bind_some, Int.reduceEq, reduceIte]
  refine Ev.bind (e2 l hr q) ?_
  rcases admR_E hvm hq with ⟨E3, -⟩ | ⟨-, H3⟩
  rotate_left
  · exact absurd T1 H3
  rw [E3]
  have hr2 : RightP (admL l q v) := (admR_right hr (n := q) (v := v) (by rw [E3])).2.1
  have hp2 : ∃ x, Print.look (admL l q v) p = some x := by rw [look_adm]; obtain ⟨x, hx⟩ := hp; rw [hx]; exact ⟨_, rfl⟩
  simp only [law1_Num_eq, Option.bind_some, Int.reduceEq, reduceIte]
  refine Ev.bind (e1 _ hr2 p) ?_
  rcases admR_E hum hp2 with ⟨E4, -⟩ | ⟨-, H4⟩
  rotate_left
  · exact absurd T2 H4
  rw [E4]
  simp only [law1_Num_eq, Option.bind_some, Int.reduceEq, reduceIte]
  have hlen3 : (admL (admL l p u) q v).length < 1000000 := by unfold admL; rw [List.length_map, List.length_map]; omega
  rw [adm_comm l q p v u]
  refine Ev.bind (r10_Same_refl _ hlen3) ?_
  have fin : Ev (fun k => law14_AdmitTwice.j0 k l p q (admL (admL l p u) q v) false u.f0 u.f1 u.f2 v.f0 v.f1 v.f2) true := by
    by_cases hpq : p = q
    · have huv : r10_Add.f u.f0 u.f1 u.f2 v.f0 v.f1 v.f2 = some ((vadd u v).f0, (vadd u v).f1, (vadd u v).f2) := r10_Add_eq hum hvm
      have eT := adm_twice l p u v
      rw [← hpq]
      rcases admR_E huvm hp with ⟨E5, -⟩ | ⟨-, H5⟩
      rotate_left
      · exact absurd (T3 hpq) H5
      refine Ev.step (f := fun k => (admit_Admit.f k l p (vadd u v).f0 (vadd u v).f1 (vadd u v).f2).bind fun bt38 => (law1_Num.f bt38.2).bind fun t42 => if t42 = 0 then ((r10_SameItems.f k bt38.1 (admL (admL l p u) p v)).bind fun t43 => (if t43 = true then ((law14_awake.f k).bind fun t44 => (some t44)) else (some false))) else (some false)) (fun k => ?_) ?_
      · simp only [law14_AdmitTwice.j0]
        rw [if_neg (by decide), if_pos trivial, huv]
        rfl
      · refine Ev.bind (admit_Admit_ev hr p (vadd u v)) ?_
        rw [E5]
        simp only [law1_Num_eq, Option.bind_some, Int.reduceEq, reduceIte]
        rw [eT]
        exact Ev.bind (r10_Same_refl _ (by unfold admL; rw [List.length_map]; omega)) (Ev.congr (fun k => if_pos rfl) hawake)
    · refine Ev.step (f := fun k => (law14_awake.f k).bind fun t => some t) (fun k => ?_) hawake
      simp only [law14_AdmitTwice.j0]
      rw [if_neg (by decide), if_neg (nm_ne.2 hpq)]
  subst hu hv
  exact fin
end Go.Proofs.Ytcgefpklljclgaa.Pure

namespace Go.Proofs.Ytcgefpklljclgaa.Head
/-- the translation's head, sign by sign -/
def signs : List Char := [Char.ofNat 104, Char.ofNat 97, Char.ofNat 114, Char.ofNat 110, Char.ofNat 101, Char.ofNat 115, Char.ofNat 115, Char.ofNat 32, Char.ofNat 101, Char.ofNat 57, Char.ofNat 98, Char.ofNat 52, Char.ofNat 101, Char.ofNat 102, Char.ofNat 52, Char.ofNat 49, Char.ofNat 56, Char.ofNat 50, Char.ofNat 56, Char.ofNat 101, Char.ofNat 102, Char.ofNat 50, Char.ofNat 55, Char.ofNat 102, Char.ofNat 51, Char.ofNat 55, Char.ofNat 102, Char.ofNat 48, Char.ofNat 53, Char.ofNat 54, Char.ofNat 50, Char.ofNat 55, Char.ofNat 56, Char.ofNat 50, Char.ofNat 54, Char.ofNat 101, Char.ofNat 101, Char.ofNat 100, Char.ofNat 101, Char.ofNat 57, Char.ofNat 53, Char.ofNat 99, Char.ofNat 56, Char.ofNat 98, Char.ofNat 55, Char.ofNat 57, Char.ofNat 99, Char.ofNat 100, Char.ofNat 98, Char.ofNat 99, Char.ofNat 52, Char.ofNat 99, Char.ofNat 49, Char.ofNat 100, Char.ofNat 54, Char.ofNat 49, Char.ofNat 98, Char.ofNat 101, Char.ofNat 98, Char.ofNat 55, Char.ofNat 57, Char.ofNat 55, Char.ofNat 52, Char.ofNat 102, Char.ofNat 49, Char.ofNat 51, Char.ofNat 53, Char.ofNat 99, Char.ofNat 97, Char.ofNat 49, Char.ofNat 48, Char.ofNat 51, Char.ofNat 32, Char.ofNat 99, Char.ofNat 117, Char.ofNat 116, Char.ofNat 32, Char.ofNat 97, Char.ofNat 116, Char.ofNat 32, Char.ofNat 100, Char.ofNat 111, Char.ofNat 111, Char.ofNat 114, Char.ofNat 107, Char.ofNat 101, Char.ofNat 101, Char.ofNat 112, Char.ofNat 101, Char.ofNat 114, Char.ofNat 47, Char.ofNat 100, Char.ofNat 111, Char.ofNat 111, Char.ofNat 114, Char.ofNat 107, Char.ofNat 101, Char.ofNat 101, Char.ofNat 112, Char.ofNat 101, Char.ofNat 114, Char.ofNat 108, Char.ofNat 97, Char.ofNat 119, Char.ofNat 49, Char.ofNat 51, Char.ofNat 46, Char.ofNat 82, Char.ofNat 111, Char.ofNat 111, Char.ofNat 109, Char.ofNat 85, Char.ofNat 112, Char.ofNat 32, Char.ofNat 100, Char.ofNat 111, Char.ofNat 111, Char.ofNat 114, Char.ofNat 107, Char.ofNat 101, Char.ofNat 101, Char.ofNat 112, Char.ofNat 101, Char.ofNat 114, Char.ofNat 47, Char.ofNat 100, Char.ofNat 111, Char.ofNat 111, Char.ofNat 114, Char.ofNat 107, Char.ofNat 101, Char.ofNat 101, Char.ofNat 112, Char.ofNat 101, Char.ofNat 114, Char.ofNat 108, Char.ofNat 97, Char.ofNat 119, Char.ofNat 49, Char.ofNat 55, Char.ofNat 46, Char.ofNat 68, Char.ofNat 114, Char.ofNat 105, Char.ofNat 102, Char.ofNat 116, Char.ofNat 65, Char.ofNat 108, Char.ofNat 108, Char.ofNat 32, Char.ofNat 100, Char.ofNat 111, Char.ofNat 111, Char.ofNat 114, Char.ofNat 107, Char.ofNat 101, Char.ofNat 101, Char.ofNat 112, Char.ofNat 101, Char.ofNat 114, Char.ofNat 47, Char.ofNat 100, Char.ofNat 111, Char.ofNat 111, Char.ofNat 114, Char.ofNat 107, Char.ofNat 101, Char.ofNat 101, Char.ofNat 112, Char.ofNat 101, Char.ofNat 114, Char.ofNat 108, Char.ofNat 97, Char.ofNat 119, Char.ofNat 49, Char.ofNat 55, Char.ofNat 46, Char.ofNat 68, Char.ofNat 114, Char.ofNat 105, Char.ofNat 102, Char.ofNat 116, Char.ofNat 84, Char.ofNat 101, Char.ofNat 108, Char.ofNat 108, Char.ofNat 115, Char.ofNat 32, Char.ofNat 100, Char.ofNat 111, Char.ofNat 111, Char.ofNat 114, Char.ofNat 107, Char.ofNat 101, Char.ofNat 101, Char.ofNat 112, Char.ofNat 101, Char.ofNat 114, Char.ofNat 47, Char.ofNat 100, Char.ofNat 111, Char.ofNat 111, Char.ofNat 114, Char.ofNat 107, Char.ofNat 101, Char.ofNat 101, Char.ofNat 112, Char.ofNat 101, Char.ofNat 114, Char.ofNat 108, Char.ofNat 97, Char.ofNat 119, Char.ofNat 50, Char.ofNat 48, Char.ofNat 46, Char.ofNat 69, Char.ofNat 102, Char.ofNat 102, Char.ofNat 101, Char.ofNat 99, Char.ofNat 116, Char.ofNat 65, Char.ofNat 108, Char.ofNat 108, Char.ofNat 32, Char.ofNat 100, Char.ofNat 111, Char.ofNat 111, Char.ofNat 114, Char.ofNat 107, Char.ofNat 101, Char.ofNat 101, Char.ofNat 112, Char.ofNat 101, Char.ofNat 114, Char.ofNat 47, Char.ofNat 100, Char.ofNat 111, Char.ofNat 111, Char.ofNat 114, Char.ofNat 107, Char.ofNat 101, Char.ofNat 101, Char.ofNat 112, Char.ofNat 101, Char.ofNat 114, Char.ofNat 108, Char.ofNat 97, Char.ofNat 119, Char.ofNat 50, Char.ofNat 48, Char.ofNat 46, Char.ofNat 69, Char.ofNat 102, Char.ofNat 102, Char.ofNat 101, Char.ofNat 99, Char.ofNat 116, Char.ofNat 77, Char.ofNat 97, Char.ofNat 100, Char.ofNat 101, Char.ofNat 32, Char.ofNat 100, Char.ofNat 111, Char.ofNat 111, Char.ofNat 114, Char.ofNat 107, Char.ofNat 101, Char.ofNat 101, Char.ofNat 112, Char.ofNat 101, Char.ofNat 114, Char.ofNat 47, Char.ofNat 100, Char.ofNat 111, Char.ofNat 111, Char.ofNat 114, Char.ofNat 107, Char.ofNat 101, Char.ofNat 101, Char.ofNat 112, Char.ofNat 101, Char.ofNat 114, Char.ofNat 108, Char.ofNat 97, Char.ofNat 119, Char.ofNat 50, Char.ofNat 48, Char.ofNat 46, Char.ofNat 69, Char.ofNat 102, Char.ofNat 102, Char.ofNat 101, Char.ofNat 99, Char.ofNat 116, Char.ofNat 68, Char.ofNat 111, Char.ofNat 110, Char.ofNat 101, Char.ofNat 32, Char.ofNat 100, Char.ofNat 111, Char.ofNat 111, Char.ofNat 114, Char.ofNat 107, Char.ofNat 101, Char.ofNat 101, Char.ofNat 112, Char.ofNat 101, Char.ofNat 114, Char.ofNat 47, Char.ofNat 100, Char.ofNat 111, Char.ofNat 111, Char.ofNat 114, Char.ofNat 107, Char.ofNat 101, Char.ofNat 101, Char.ofNat 112, Char.ofNat 101, Char.ofNat 114, Char.ofNat 108, Char.ofNat 97, Char.ofNat 119, Char.ofNat 49, Char.ofNat 52, Char.ofNat 46, Char.ofNat 65, Char.ofNat 100, Char.ofNat 109, Char.ofNat 105, Char.ofNat 116, Char.ofNat 84, Char.ofNat 119, Char.ofNat 105, Char.ofNat 99, Char.ofNat 101, Char.ofNat 32, Char.ofNat 100, Char.ofNat 111, Char.ofNat 111, Char.ofNat 114, Char.ofNat 107, Char.ofNat 101, Char.ofNat 101, Char.ofNat 112, Char.ofNat 101, Char.ofNat 114, Char.ofNat 47, Char.ofNat 100, Char.ofNat 111, Char.ofNat 111, Char.ofNat 114, Char.ofNat 107, Char.ofNat 101, Char.ofNat 101, Char.ofNat 112, Char.ofNat 101, Char.ofNat 114, Char.ofNat 108, Char.ofNat 97, Char.ofNat 119, Char.ofNat 49, Char.ofNat 51, Char.ofNat 46, Char.ofNat 82, Char.ofNat 111, Char.ofNat 111, Char.ofNat 109, Char.ofNat 70, Char.ofNat 105, Char.ofNat 116, Char.ofNat 115, Char.ofNat 32, Char.ofNat 100, Char.ofNat 111, Char.ofNat 111, Char.ofNat 114, Char.ofNat 107, Char.ofNat 101, Char.ofNat 101, Char.ofNat 112, Char.ofNat 101, Char.ofNat 114, Char.ofNat 47, Char.ofNat 100, Char.ofNat 111, Char.ofNat 111, Char.ofNat 114, Char.ofNat 107, Char.ofNat 101, Char.ofNat 101, Char.ofNat 112, Char.ofNat 101, Char.ofNat 114, Char.ofNat 108, Char.ofNat 97, Char.ofNat 119, Char.ofNat 49, Char.ofNat 50, Char.ofNat 46, Char.ofNat 84, Char.ofNat 114, Char.ofNat 101, Char.ofNat 101, Char.ofNat 65, Char.ofNat 108, Char.ofNat 108, Char.ofNat 32, Char.ofNat 100, Char.ofNat 111, Char.ofNat 111, Char.ofNat 114, Char.ofNat 107, Char.ofNat 101, Char.ofNat 101, Char.ofNat 112, Char.ofNat 101, Char.ofNat 114, Char.ofNat 47, Char.ofNat 100, Char.ofNat 111, Char.ofNat 111, Char.ofNat 114, Char.ofNat 107, Char.ofNat 101, Char.ofNat 101, Char.ofNat 112, Char.ofNat 101, Char.ofNat 114, Char.ofNat 108, Char.ofNat 97, Char.ofNat 119, Char.ofNat 49, Char.ofNat 50, Char.ofNat 46, Char.ofNat 84, Char.ofNat 114, Char.ofNat 101, Char.ofNat 101, Char.ofNat 77, Char.ofNat 97, Char.ofNat 100, Char.ofNat 101, Char.ofNat 32, Char.ofNat 100, Char.ofNat 111, Char.ofNat 111, Char.ofNat 114, Char.ofNat 107, Char.ofNat 101, Char.ofNat 101, Char.ofNat 112, Char.ofNat 101, Char.ofNat 114, Char.ofNat 47, Char.ofNat 100, Char.ofNat 111, Char.ofNat 111, Char.ofNat 114, Char.ofNat 107, Char.ofNat 101, Char.ofNat 101, Char.ofNat 112, Char.ofNat 101, Char.ofNat 114, Char.ofNat 108, Char.ofNat 97, Char.ofNat 119, Char.ofNat 49, Char.ofNat 50, Char.ofNat 46, Char.ofNat 84, Char.ofNat 114, Char.ofNat 101, Char.ofNat 101, Char.ofNat 83, Char.ofNat 117, Char.ofNat 109, Char.ofNat 115, Char.ofNat 32, Char.ofNat 100, Char.ofNat 111, Char.ofNat 111, Char.ofNat 114, Char.ofNat 107, Char.ofNat 101, Char.ofNat 101, Char.ofNat 112, Char.ofNat 101, Char.ofNat 114, Char.ofNat 47, Char.ofNat 100, Char.ofNat 111, Char.ofNat 111, Char.ofNat 114, Char.ofNat 107, Char.ofNat 101, Char.ofNat 101, Char.ofNat 112, Char.ofNat 101, Char.ofNat 114, Char.ofNat 108, Char.ofNat 97, Char.ofNat 119, Char.ofNat 49, Char.ofNat 50, Char.ofNat 46, Char.ofNat 84, Char.ofNat 114, Char.ofNat 101, Char.ofNat 101, Char.ofNat 66, Char.ofNat 101, Char.ofNat 108, Char.ofNat 111, Char.ofNat 119, Char.ofNat 32, Char.ofNat 100, Char.ofNat 111, Char.ofNat 111, Char.ofNat 114, Char.ofNat 107, Char.ofNat 101, Char.ofNat 101, Char.ofNat 112, Char.ofNat 101, Char.ofNat 114, Char.ofNat 47, Char.ofNat 100, Char.ofNat 111, Char.ofNat 111, Char.ofNat 114, Char.ofNat 107, Char.ofNat 101, Char.ofNat 101, Char.ofNat 112, Char.ofNat 101, Char.ofNat 114, Char.ofNat 108, Char.ofNat 97, Char.ofNat 119, Char.ofNat 49, Char.ofNat 51, Char.ofNat 46, Char.ofNat 82, Char.ofNat 111, Char.ofNat 111, Char.ofNat 109, Char.ofNat 83, Char.ofNat 104, Char.ofNat 97, Char.ofNat 114, Char.ofNat 101, Char.ofNat 115, Char.ofNat 32, Char.ofNat 100, Char.ofNat 111, Char.ofNat 111, Char.ofNat 114, Char.ofNat 107, Char.ofNat 101, Char.ofNat 101, Char.ofNat 112, Char.ofNat 101, Char.ofNat 114, Char.ofNat 47, Char.ofNat 100, Char.ofNat 111, Char.ofNat 111, Char.ofNat 114, Char.ofNat 107, Char.ofNat 101, Char.ofNat 101, Char.ofNat 112, Char.ofNat 101, Char.ofNat 114, Char.ofNat 108, Char.ofNat 97, Char.ofNat 119, Char.ofNat 49, Char.ofNat 52, Char.ofNat 46, Char.ofNat 65, Char.ofNat 100, Char.ofNat 109, Char.ofNat 105, Char.ofNat 116, Char.ofNat 65, Char.ofNat 108, Char.ofNat 108, Char.ofNat 32, Char.ofNat 100, Char.ofNat 111, Char.ofNat 111, Char.ofNat 114, Char.ofNat 107, Char.ofNat 101, Char.ofNat 101, Char.ofNat 112, Char.ofNat 101, Char.ofNat 114, Char.ofNat 47, Char.ofNat 100, Char.ofNat 111, Char.ofNat 111, Char.ofNat 114, Char.ofNat 107, Char.ofNat 101, Char.ofNat 101, Char.ofNat 112, Char.ofNat 101, Char.ofNat 114, Char.ofNat 108, Char.ofNat 97, Char.ofNat 119, Char.ofNat 49, Char.ofNat 52, Char.ofNat 46, Char.ofNat 65, Char.ofNat 100, Char.ofNat 109, Char.ofNat 105, Char.ofNat 116, Char.ofNat 77, Char.ofNat 97, Char.ofNat 100, Char.ofNat 101, Char.ofNat 32, Char.ofNat 100, Char.ofNat 111, Char.ofNat 111, Char.ofNat 114, Char.ofNat 107, Char.ofNat 101, Char.ofNat 101, Char.ofNat 112, Char.ofNat 101, Char.ofNat 114, Char.ofNat 47, Char.ofNat 100, Char.ofNat 111, Char.ofNat 111, Char.ofNat 114, Char.ofNat 107, Char.ofNat 101, Char.ofNat 101, Char.ofNat 112, Char.ofNat 101, Char.ofNat 114, Char.ofNat 108, Char.ofNat 97, Char.ofNat 119, Char.ofNat 49, Char.ofNat 52, Char.ofNat 46, Char.ofNat 65, Char.ofNat 100, Char.ofNat 109, Char.ofNat 105, Char.ofNat 116, Char.ofNat 82, Char.ofNat 111, Char.ofNat 111, Char.ofNat 109, Char.ofNat 32, Char.ofNat 100, Char.ofNat 111, Char.ofNat 111, Char.ofNat 114, Char.ofNat 107, Char.ofNat 101, Char.ofNat 101, Char.ofNat 112, Char.ofNat 101, Char.ofNat 114, Char.ofNat 47, Char.ofNat 100, Char.ofNat 111, Char.ofNat 111, Char.ofNat 114, Char.ofNat 107, Char.ofNat 101, Char.ofNat 101, Char.ofNat 112, Char.ofNat 101, Char.ofNat 114, Char.ofNat 108, Char.ofNat 97, Char.ofNat 119, Char.ofNat 49, Char.ofNat 51, Char.ofNat 46, Char.ofNat 82, Char.ofNat 111, Char.ofNat 111, Char.ofNat 109, Char.ofNat 65, Char.ofNat 108, Char.ofNat 108, Char.ofNat 32, Char.ofNat 100, Char.ofNat 111, Char.ofNat 111, Char.ofNat 114, Char.ofNat 107, Char.ofNat 101, Char.ofNat 101, Char.ofNat 112, Char.ofNat 101, Char.ofNat 114, Char.ofNat 47, Char.ofNat 100, Char.ofNat 111, Char.ofNat 111, Char.ofNat 114, Char.ofNat 107, Char.ofNat 101, Char.ofNat 101, Char.ofNat 112, Char.ofNat 101, Char.ofNat 114, Char.ofNat 108, Char.ofNat 97, Char.ofNat 119, Char.ofNat 49, Char.ofNat 51, Char.ofNat 46, Char.ofNat 82, Char.ofNat 111, Char.ofNat 111, Char.ofNat 109, Char.ofNat 77, Char.ofNat 97, Char.ofNat 100, Char.ofNat 101, Char.ofNat 32, Char.ofNat 100, Char.ofNat 111, Char.ofNat 111, Char.ofNat 114, Char.ofNat 107, Char.ofNat 101, Char.ofNat 101, Char.ofNat 112, Char.ofNat 101, Char.ofNat 114, Char.ofNat 47, Char.ofNat 100, Char.ofNat 111, Char.ofNat 111, Char.ofNat 114, Char.ofNat 107, Char.ofNat 101, Char.ofNat 101, Char.ofNat 112, Char.ofNat 101, Char.ofNat 114, Char.ofNat 108, Char.ofNat 97, Char.ofNat 119, Char.ofNat 49, Char.ofNat 53, Char.ofNat 46, Char.ofNat 83, Char.ofNat 104, Char.ofNat 97, Char.ofNat 112, Char.ofNat 101, Char.ofNat 77, Char.ofNat 97, Char.ofNat 110, Char.ofNat 121, Char.ofNat 32, Char.ofNat 100, Char.ofNat 111, Char.ofNat 111, Char.ofNat 114, Char.ofNat 107, Char.ofNat 101, Char.ofNat 101, Char.ofNat 112, Char.ofNat 101, Char.ofNat 114, Char.ofNat 47, Char.ofNat 100, Char.ofNat 111, Char.ofNat 111, Char.ofNat 114, Char.ofNat 107, Char.ofNat 101, Char.ofNat 101, Char.ofNat 112, Char.ofNat 101, Char.ofNat 114, Char.ofNat 108, Char.ofNat 97, Char.ofNat 119, Char.ofNat 49, Char.ofNat 53, Char.ofNat 46, Char.ofNat 83, Char.ofNat 104, Char.ofNat 97, Char.ofNat 112, Char.ofNat 101, Char.ofNat 67, Char.ofNat 111, Char.ofNat 109, Char.ofNat 101, Char.ofNat 115, Char.ofNat 32, Char.ofNat 100, Char.ofNat 111, Char.ofNat 111, Char.ofNat 114, Char.ofNat 107, Char.ofNat 101, Char.ofNat 101, Char.ofNat 112, Char.ofNat 101, Char.ofNat 114, Char.ofNat 47, Char.ofNat 100, Char.ofNat 111, Char.ofNat 111, Char.ofNat 114, Char.ofNat 107, Char.ofNat 101, Char.ofNat 101, Char.ofNat 112, Char.ofNat 101, Char.ofNat 114, Char.ofNat 108, Char.ofNat 97, Char.ofNat 119, Char.ofNat 49, Char.ofNat 53, Char.ofNat 46, Char.ofNat 83, Char.ofNat 104, Char.ofNat 97, Char.ofNat 112, Char.ofNat 101, Char.ofNat 76, Char.ofNat 105, Char.ofNat 109, Char.ofNat 105, Char.ofNat 116, Char.ofNat 115, Char.ofNat 32, Char.ofNat 100, Char.ofNat 111, Char.ofNat 111, Char.ofNat 114, Char.ofNat 107, Char.ofNat 101, Char.ofNat 101, Char.ofNat 112, Char.ofNat 101, Char.ofNat 114, Char.ofNat 47, Char.ofNat 100, Char.ofNat 111, Char.ofNat 111, Char.ofNat 114, Char.ofNat 107, Char.ofNat 101, Char.ofNat 101, Char.ofNat 112, Char.ofNat 101, Char.ofNat 114, Char.ofNat 108, Char.ofNat 97, Char.ofNat 119, Char.ofNat 49, Char.ofNat 53, Char.ofNat 46, Char.ofNat 83, Char.ofNat 104, Char.ofNat 97, Char.ofNat 112, Char.ofNat 101, Char.ofNat 77, Char.ofNat 111, Char.ofNat 118, Char.ofNat 101, Char.ofNat 115, Char.ofNat 32, Char.ofNat 100, Char.ofNat 111, Char.ofNat 111, Char.ofNat 114, Char.ofNat 107, Char.ofNat 101, Char.ofNat 101, Char.ofNat 112, Char.ofNat 101, Char.ofNat 114, Char.ofNat 47, Char.ofNat 100, Char.ofNat 111, Char.ofNat 111, Char.ofNat 114, Char.ofNat 107, Char.ofNat 101, Char.ofNat 101, Char.ofNat 112, Char.ofNat 101, Char.ofNat 114, Char.ofNat 108, Char.ofNat 97, Char.ofNat 119, Char.ofNat 49, Char.ofNat 53, Char.ofNat 46, Char.ofNat 83, Char.ofNat 104, Char.ofNat 97, Char.ofNat 112, Char.ofNat 101, Char.ofNat 65, Char.ofNat 108, Char.ofNat 108, Char.ofNat 32, Char.ofNat 100, Char.ofNat 111, Char.ofNat 111, Char.ofNat 114, Char.ofNat 107, Char.ofNat 101, Char.ofNat 101, Char.ofNat 112, Char.ofNat 101, Char.ofNat 114, Char.ofNat 47, Char.ofNat 100, Char.ofNat 111, Char.ofNat 111, Char.ofNat 114, Char.ofNat 107, Char.ofNat 101, Char.ofNat 101, Char.ofNat 112, Char.ofNat 101, Char.ofNat 114, Char.ofNat 108, Char.ofNat 97, Char.ofNat 119, Char.ofNat 49, Char.ofNat 53, Char.ofNat 46, Char.ofNat 83, Char.ofNat 104, Char.ofNat 97, Char.ofNat 112, Char.ofNat 101, Char.ofNat 77, Char.ofNat 97, Char.ofNat 100, Char.ofNat 101, Char.ofNat 32, Char.ofNat 100, Char.ofNat 111, Char.ofNat 111, Char.ofNat 114, Char.ofNat 107, Char.ofNat 101, Char.ofNat 101, Char.ofNat 112, Char.ofNat 101, Char.ofNat 114, Char.ofNat 47, Char.ofNat 100, Char.ofNat 111, Char.ofNat 111, Char.ofNat 114, Char.ofNat 107, Char.ofNat 101, Char.ofNat 101, Char.ofNat 112, Char.ofNat 101, Char.ofNat 114, Char.ofNat 108, Char.ofNat 97, Char.ofNat 119, Char.ofNat 49, Char.ofNat 53, Char.ofNat 46, Char.ofNat 83, Char.ofNat 104, Char.ofNat 97, Char.ofNat 112, Char.ofNat 101, Char.ofNat 82, Char.ofNat 101, Char.ofNat 115, Char.ofNat 116, Char.ofNat 32, Char.ofNat 100, Char.ofNat 111, Char.ofNat 111, Char.ofNat 114, Char.ofNat 107, Char.ofNat 101, Char.ofNat 101, Char.ofNat 112, Char.ofNat 101, Char.ofNat 114, Char.ofNat 47, Char.ofNat 100, Char.ofNat 111, Char.ofNat 111, Char.ofNat 114, Char.ofNat 107, Char.ofNat 101, Char.ofNat 101, Char.ofNat 112, Char.ofNat 101, Char.ofNat 114, Char.ofNat 108, Char.ofNat 97, Char.ofNat 119, Char.ofNat 49, Char.ofNat 57, Char.ofNat 46, Char.ofNat 84, Char.ofNat 114, Char.ofNat 105, Char.ofNat 97, Char.ofNat 108, Char.ofNat 67, Char.ofNat 117, Char.ofNat 116, Char.ofNat 115, Char.ofNat 32, Char.ofNat 100, Char.ofNat 111, Char.ofNat 111, Char.ofNat 114, Char.ofNat 107, Char.ofNat 101, Char.ofNat 101, Char.ofNat 112, Char.ofNat 101, Char.ofNat 114, Char.ofNat 47, Char.ofNat 100, Char.ofNat 111, Char.ofNat 111, Char.ofNat 114, Char.ofNat 107, Char.ofNat 101, Char.ofNat 101, Char.ofNat 112, Char.ofNat 101, Char.ofNat 114, Char.ofNat 108, Char.ofNat 97, Char.ofNat 119, Char.ofNat 49, Char.ofNat 57, Char.ofNat 46, Char.ofNat 84, Char.ofNat 114, Char.ofNat 105, Char.ofNat 97, Char.ofNat 108, Char.ofNat 65, Char.ofNat 108, Char.ofNat 108, Char.ofNat 32, Char.ofNat 100, Char.ofNat 111, Char.ofNat 111, Char.ofNat 114, Char.ofNat 107, Char.ofNat 101, Char.ofNat 101, Char.ofNat 112, Char.ofNat 101, Char.ofNat 114, Char.ofNat 47, Char.ofNat 100, Char.ofNat 111, Char.ofNat 111, Char.ofNat 114, Char.ofNat 107, Char.ofNat 101, Char.ofNat 101, Char.ofNat 112, Char.ofNat 101, Char.ofNat 114, Char.ofNat 108, Char.ofNat 97, Char.ofNat 119, Char.ofNat 49, Char.ofNat 57, Char.ofNat 46, Char.ofNat 84, Char.ofNat 114, Char.ofNat 105, Char.ofNat 97, Char.ofNat 108, Char.ofNat 77, Char.ofNat 97, Char.ofNat 100, Char.ofNat 101]
set_option maxRecDepth 100000 in
theorem word : Try.prog.initOrder = String.ofList signs := by kernel_rfl
theorem list : Try.prog.initOrder.toList = signs := by rw [word, String.toList_ofList]
theorem words_app : ∀ (w r : List Char), (∀ c ∈ w, c ≠ Char.ofNat 32) → wordsSigns (w ++ Char.ofNat 32 :: r) = w :: wordsSigns r
  | [], r, _ => rfl
  | c :: w, r, h => by
    have hc : c ≠ Char.ofNat 32 := h c (by simp)
    have ih := words_app w r (fun d hd => h d (by simp [hd]))
    show wordsSigns (c :: (w ++ Char.ofNat 32 :: r)) = _
    rw [wordsSigns.eq_3 _ _ (fun q => hc q), ih]
def w1 : List Char := [Char.ofNat 104, Char.ofNat 97, Char.ofNat 114, Char.ofNat 110, Char.ofNat 101, Char.ofNat 115, Char.ofNat 115]
def w2 : List Char := [Char.ofNat 101, Char.ofNat 57, Char.ofNat 98, Char.ofNat 52, Char.ofNat 101, Char.ofNat 102, Char.ofNat 52, Char.ofNat 49, Char.ofNat 56, Char.ofNat 50, Char.ofNat 56, Char.ofNat 101, Char.ofNat 102, Char.ofNat 50, Char.ofNat 55, Char.ofNat 102, Char.ofNat 51, Char.ofNat 55, Char.ofNat 102, Char.ofNat 48, Char.ofNat 53, Char.ofNat 54, Char.ofNat 50, Char.ofNat 55, Char.ofNat 56, Char.ofNat 50, Char.ofNat 54, Char.ofNat 101, Char.ofNat 101, Char.ofNat 100, Char.ofNat 101, Char.ofNat 57, Char.ofNat 53, Char.ofNat 99, Char.ofNat 56, Char.ofNat 98, Char.ofNat 55, Char.ofNat 57, Char.ofNat 99, Char.ofNat 100, Char.ofNat 98, Char.ofNat 99, Char.ofNat 52, Char.ofNat 99, Char.ofNat 49, Char.ofNat 100, Char.ofNat 54, Char.ofNat 49, Char.ofNat 98, Char.ofNat 101, Char.ofNat 98, Char.ofNat 55, Char.ofNat 57, Char.ofNat 55, Char.ofNat 52, Char.ofNat 102, Char.ofNat 49, Char.ofNat 51, Char.ofNat 53, Char.ofNat 99, Char.ofNat 97, Char.ofNat 49, Char.ofNat 48, Char.ofNat 51]
def w3 : List Char := [Char.ofNat 99, Char.ofNat 117, Char.ofNat 116]
def rest : List Char := [Char.ofNat 97, Char.ofNat 116, Char.ofNat 32, Char.ofNat 100, Char.ofNat 111, Char.ofNat 111, Char.ofNat 114, Char.ofNat 107, Char.ofNat 101, Char.ofNat 101, Char.ofNat 112, Char.ofNat 101, Char.ofNat 114, Char.ofNat 47, Char.ofNat 100, Char.ofNat 111, Char.ofNat 111, Char.ofNat 114, Char.ofNat 107, Char.ofNat 101, Char.ofNat 101, Char.ofNat 112, Char.ofNat 101, Char.ofNat 114, Char.ofNat 108, Char.ofNat 97, Char.ofNat 119, Char.ofNat 49, Char.ofNat 51, Char.ofNat 46, Char.ofNat 82, Char.ofNat 111, Char.ofNat 111, Char.ofNat 109, Char.ofNat 85, Char.ofNat 112, Char.ofNat 32, Char.ofNat 100, Char.ofNat 111, Char.ofNat 111, Char.ofNat 114, Char.ofNat 107, Char.ofNat 101, Char.ofNat 101, Char.ofNat 112, Char.ofNat 101, Char.ofNat 114, Char.ofNat 47, Char.ofNat 100, Char.ofNat 111, Char.ofNat 111, Char.ofNat 114, Char.ofNat 107, Char.ofNat 101, Char.ofNat 101, Char.ofNat 112, Char.ofNat 101, Char.ofNat 114, Char.ofNat 108, Char.ofNat 97, Char.ofNat 119, Char.ofNat 49, Char.ofNat 55, Char.ofNat 46, Char.ofNat 68, Char.ofNat 114, Char.ofNat 105, Char.ofNat 102, Char.ofNat 116, Char.ofNat 65, Char.ofNat 108, Char.ofNat 108, Char.ofNat 32, Char.ofNat 100, Char.ofNat 111, Char.ofNat 111, Char.ofNat 114, Char.ofNat 107, Char.ofNat 101, Char.ofNat 101, Char.ofNat 112, Char.ofNat 101, Char.ofNat 114, Char.ofNat 47, Char.ofNat 100, Char.ofNat 111, Char.ofNat 111, Char.ofNat 114, Char.ofNat 107, Char.ofNat 101, Char.ofNat 101, Char.ofNat 112, Char.ofNat 101, Char.ofNat 114, Char.ofNat 108, Char.ofNat 97, Char.ofNat 119, Char.ofNat 49, Char.ofNat 55, Char.ofNat 46, Char.ofNat 68, Char.ofNat 114, Char.ofNat 105, Char.ofNat 102, Char.ofNat 116, Char.ofNat 84, Char.ofNat 101, Char.ofNat 108, Char.ofNat 108, Char.ofNat 115, Char.ofNat 32, Char.ofNat 100, Char.ofNat 111, Char.ofNat 111, Char.ofNat 114, Char.ofNat 107, Char.ofNat 101, Char.ofNat 101, Char.ofNat 112, Char.ofNat 101, Char.ofNat 114, Char.ofNat 47, Char.ofNat 100, Char.ofNat 111, Char.ofNat 111, Char.ofNat 114, Char.ofNat 107, Char.ofNat 101, Char.ofNat 101, Char.ofNat 112, Char.ofNat 101, Char.ofNat 114, Char.ofNat 108, Char.ofNat 97, Char.ofNat 119, Char.ofNat 50, Char.ofNat 48, Char.ofNat 46, Char.ofNat 69, Char.ofNat 102, Char.ofNat 102, Char.ofNat 101, Char.ofNat 99, Char.ofNat 116, Char.ofNat 65, Char.ofNat 108, Char.ofNat 108, Char.ofNat 32, Char.ofNat 100, Char.ofNat 111, Char.ofNat 111, Char.ofNat 114, Char.ofNat 107, Char.ofNat 101, Char.ofNat 101, Char.ofNat 112, Char.ofNat 101, Char.ofNat 114, Char.ofNat 47, Char.ofNat 100, Char.ofNat 111, Char.ofNat 111, Char.ofNat 114, Char.ofNat 107, Char.ofNat 101, Char.ofNat 101, Char.ofNat 112, Char.ofNat 101, Char.ofNat 114, Char.ofNat 108, Char.ofNat 97, Char.ofNat 119, Char.ofNat 50, Char.ofNat 48, Char.ofNat 46, Char.ofNat 69, Char.ofNat 102, Char.ofNat 102, Char.ofNat 101, Char.ofNat 99, Char.ofNat 116, Char.ofNat 77, Char.ofNat 97, Char.ofNat 100, Char.ofNat 101, Char.ofNat 32, Char.ofNat 100, Char.ofNat 111, Char.ofNat 111, Char.ofNat 114, Char.ofNat 107, Char.ofNat 101, Char.ofNat 101, Char.ofNat 112, Char.ofNat 101, Char.ofNat 114, Char.ofNat 47, Char.ofNat 100, Char.ofNat 111, Char.ofNat 111, Char.ofNat 114, Char.ofNat 107, Char.ofNat 101, Char.ofNat 101, Char.ofNat 112, Char.ofNat 101, Char.ofNat 114, Char.ofNat 108, Char.ofNat 97, Char.ofNat 119, Char.ofNat 50, Char.ofNat 48, Char.ofNat 46, Char.ofNat 69, Char.ofNat 102, Char.ofNat 102, Char.ofNat 101, Char.ofNat 99, Char.ofNat 116, Char.ofNat 68, Char.ofNat 111, Char.ofNat 110, Char.ofNat 101, Char.ofNat 32, Char.ofNat 100, Char.ofNat 111, Char.ofNat 111, Char.ofNat 114, Char.ofNat 107, Char.ofNat 101, Char.ofNat 101, Char.ofNat 112, Char.ofNat 101, Char.ofNat 114, Char.ofNat 47, Char.ofNat 100, Char.ofNat 111, Char.ofNat 111, Char.ofNat 114, Char.ofNat 107, Char.ofNat 101, Char.ofNat 101, Char.ofNat 112, Char.ofNat 101, Char.ofNat 114, Char.ofNat 108, Char.ofNat 97, Char.ofNat 119, Char.ofNat 49, Char.ofNat 52, Char.ofNat 46, Char.ofNat 65, Char.ofNat 100, Char.ofNat 109, Char.ofNat 105, Char.ofNat 116, Char.ofNat 84, Char.ofNat 119, Char.ofNat 105, Char.ofNat 99, Char.ofNat 101, Char.ofNat 32, Char.ofNat 100, Char.ofNat 111, Char.ofNat 111, Char.ofNat 114, Char.ofNat 107, Char.ofNat 101, Char.ofNat 101, Char.ofNat 112, Char.ofNat 101, Char.ofNat 114, Char.ofNat 47, Char.ofNat 100, Char.ofNat 111, Char.ofNat 111, Char.ofNat 114, Char.ofNat 107, Char.ofNat 101, Char.ofNat 101, Char.ofNat 112, Char.ofNat 101, Char.ofNat 114, Char.ofNat 108, Char.ofNat 97, Char.ofNat 119, Char.ofNat 49, Char.ofNat 51, Char.ofNat 46, Char.ofNat 82, Char.ofNat 111, Char.ofNat 111, Char.ofNat 109, Char.ofNat 70, Char.ofNat 105, Char.ofNat 116, Char.ofNat 115, Char.ofNat 32, Char.ofNat 100, Char.ofNat 111, Char.ofNat 111, Char.ofNat 114, Char.ofNat 107, Char.ofNat 101, Char.ofNat 101, Char.ofNat 112, Char.ofNat 101, Char.ofNat 114, Char.ofNat 47, Char.ofNat 100, Char.ofNat 111, Char.ofNat 111, Char.ofNat 114, Char.ofNat 107, Char.ofNat 101, Char.ofNat 101, Char.ofNat 112, Char.ofNat 101, Char.ofNat 114, Char.ofNat 108, Char.ofNat 97, Char.ofNat 119, Char.ofNat 49, Char.ofNat 50, Char.ofNat 46, Char.ofNat 84, Char.ofNat 114, Char.ofNat 101, Char.ofNat 101, Char.ofNat 65, Char.ofNat 108, Char.ofNat 108, Char.ofNat 32, Char.ofNat 100, Char.ofNat 111, Char.ofNat 111, Char.ofNat 114, Char.ofNat 107, Char.ofNat 101, Char.ofNat 101, Char.ofNat 112, Char.ofNat 101, Char.ofNat 114, Char.ofNat 47, Char.ofNat 100, Char.ofNat 111, Char.ofNat 111, Char.ofNat 114, Char.ofNat 107, Char.ofNat 101, Char.ofNat 101, Char.ofNat 112, Char.ofNat 101, Char.ofNat 114, Char.ofNat 108, Char.ofNat 97, Char.ofNat 119, Char.ofNat 49, Char.ofNat 50, Char.ofNat 46, Char.ofNat 84, Char.ofNat 114, Char.ofNat 101, Char.ofNat 101, Char.ofNat 77, Char.ofNat 97, Char.ofNat 100, Char.ofNat 101, Char.ofNat 32, Char.ofNat 100, Char.ofNat 111, Char.ofNat 111, Char.ofNat 114, Char.ofNat 107, Char.ofNat 101, Char.ofNat 101, Char.ofNat 112, Char.ofNat 101, Char.ofNat 114, Char.ofNat 47, Char.ofNat 100, Char.ofNat 111, Char.ofNat 111, Char.ofNat 114, Char.ofNat 107, Char.ofNat 101, Char.ofNat 101, Char.ofNat 112, Char.ofNat 101, Char.ofNat 114, Char.ofNat 108, Char.ofNat 97, Char.ofNat 119, Char.ofNat 49, Char.ofNat 50, Char.ofNat 46, Char.ofNat 84, Char.ofNat 114, Char.ofNat 101, Char.ofNat 101, Char.ofNat 83, Char.ofNat 117, Char.ofNat 109, Char.ofNat 115, Char.ofNat 32, Char.ofNat 100, Char.ofNat 111, Char.ofNat 111, Char.ofNat 114, Char.ofNat 107, Char.ofNat 101, Char.ofNat 101, Char.ofNat 112, Char.ofNat 101, Char.ofNat 114, Char.ofNat 47, Char.ofNat 100, Char.ofNat 111, Char.ofNat 111, Char.ofNat 114, Char.ofNat 107, Char.ofNat 101, Char.ofNat 101, Char.ofNat 112, Char.ofNat 101, Char.ofNat 114, Char.ofNat 108, Char.ofNat 97, Char.ofNat 119, Char.ofNat 49, Char.ofNat 50, Char.ofNat 46, Char.ofNat 84, Char.ofNat 114, Char.ofNat 101, Char.ofNat 101, Char.ofNat 66, Char.ofNat 101, Char.ofNat 108, Char.ofNat 111, Char.ofNat 119, Char.ofNat 32, Char.ofNat 100, Char.ofNat 111, Char.ofNat 111, Char.ofNat 114, Char.ofNat 107, Char.ofNat 101, Char.ofNat 101, Char.ofNat 112, Char.ofNat 101, Char.ofNat 114, Char.ofNat 47, Char.ofNat 100, Char.ofNat 111, Char.ofNat 111, Char.ofNat 114, Char.ofNat 107, Char.ofNat 101, Char.ofNat 101, Char.ofNat 112, Char.ofNat 101, Char.ofNat 114, Char.ofNat 108, Char.ofNat 97, Char.ofNat 119, Char.ofNat 49, Char.ofNat 51, Char.ofNat 46, Char.ofNat 82, Char.ofNat 111, Char.ofNat 111, Char.ofNat 109, Char.ofNat 83, Char.ofNat 104, Char.ofNat 97, Char.ofNat 114, Char.ofNat 101, Char.ofNat 115, Char.ofNat 32, Char.ofNat 100, Char.ofNat 111, Char.ofNat 111, Char.ofNat 114, Char.ofNat 107, Char.ofNat 101, Char.ofNat 101, Char.ofNat 112, Char.ofNat 101, Char.ofNat 114, Char.ofNat 47, Char.ofNat 100, Char.ofNat 111, Char.ofNat 111, Char.ofNat 114, Char.ofNat 107, Char.ofNat 101, Char.ofNat 101, Char.ofNat 112, Char.ofNat 101, Char.ofNat 114, Char.ofNat 108, Char.ofNat 97, Char.ofNat 119, Char.ofNat 49, Char.ofNat 52, Char.ofNat 46, Char.ofNat 65, Char.ofNat 100, Char.ofNat 109, Char.ofNat 105, Char.ofNat 116, Char.ofNat 65, Char.ofNat 108, Char.ofNat 108, Char.ofNat 32, Char.ofNat 100, Char.ofNat 111, Char.ofNat 111, Char.ofNat 114, Char.ofNat 107, Char.ofNat 101, Char.ofNat 101, Char.ofNat 112, Char.ofNat 101, Char.ofNat 114, Char.ofNat 47, Char.ofNat 100, Char.ofNat 111, Char.ofNat 111, Char.ofNat 114, Char.ofNat 107, Char.ofNat 101, Char.ofNat 101, Char.ofNat 112, Char.ofNat 101, Char.ofNat 114, Char.ofNat 108, Char.ofNat 97, Char.ofNat 119, Char.ofNat 49, Char.ofNat 52, Char.ofNat 46, Char.ofNat 65, Char.ofNat 100, Char.ofNat 109, Char.ofNat 105, Char.ofNat 116, Char.ofNat 77, Char.ofNat 97, Char.ofNat 100, Char.ofNat 101, Char.ofNat 32, Char.ofNat 100, Char.ofNat 111, Char.ofNat 111, Char.ofNat 114, Char.ofNat 107, Char.ofNat 101, Char.ofNat 101, Char.ofNat 112, Char.ofNat 101, Char.ofNat 114, Char.ofNat 47, Char.ofNat 100, Char.ofNat 111, Char.ofNat 111, Char.ofNat 114, Char.ofNat 107, Char.ofNat 101, Char.ofNat 101, Char.ofNat 112, Char.ofNat 101, Char.ofNat 114, Char.ofNat 108, Char.ofNat 97, Char.ofNat 119, Char.ofNat 49, Char.ofNat 52, Char.ofNat 46, Char.ofNat 65, Char.ofNat 100, Char.ofNat 109, Char.ofNat 105, Char.ofNat 116, Char.ofNat 82, Char.ofNat 111, Char.ofNat 111, Char.ofNat 109, Char.ofNat 32, Char.ofNat 100, Char.ofNat 111, Char.ofNat 111, Char.ofNat 114, Char.ofNat 107, Char.ofNat 101, Char.ofNat 101, Char.ofNat 112, Char.ofNat 101, Char.ofNat 114, Char.ofNat 47, Char.ofNat 100, Char.ofNat 111, Char.ofNat 111, Char.ofNat 114, Char.ofNat 107, Char.ofNat 101, Char.ofNat 101, Char.ofNat 112, Char.ofNat 101, Char.ofNat 114, Char.ofNat 108, Char.ofNat 97, Char.ofNat 119, Char.ofNat 49, Char.ofNat 51, Char.ofNat 46, Char.ofNat 82, Char.ofNat 111, Char.ofNat 111, Char.ofNat 109, Char.ofNat 65, Char.ofNat 108, Char.ofNat 108, Char.ofNat 32, Char.ofNat 100, Char.ofNat 111, Char.ofNat 111, Char.ofNat 114, Char.ofNat 107, Char.ofNat 101, Char.ofNat 101, Char.ofNat 112, Char.ofNat 101, Char.ofNat 114, Char.ofNat 47, Char.ofNat 100, Char.ofNat 111, Char.ofNat 111, Char.ofNat 114, Char.ofNat 107, Char.ofNat 101, Char.ofNat 101, Char.ofNat 112, Char.ofNat 101, Char.ofNat 114, Char.ofNat 108, Char.ofNat 97, Char.ofNat 119, Char.ofNat 49, Char.ofNat 51, Char.ofNat 46, Char.ofNat 82, Char.ofNat 111, Char.ofNat 111, Char.ofNat 109, Char.ofNat 77, Char.ofNat 97, Char.ofNat 100, Char.ofNat 101, Char.ofNat 32, Char.ofNat 100, Char.ofNat 111, Char.ofNat 111, Char.ofNat 114, Char.ofNat 107, Char.ofNat 101, Char.ofNat 101, Char.ofNat 112, Char.ofNat 101, Char.ofNat 114, Char.ofNat 47, Char.ofNat 100, Char.ofNat 111, Char.ofNat 111, Char.ofNat 114, Char.ofNat 107, Char.ofNat 101, Char.ofNat 101, Char.ofNat 112, Char.ofNat 101, Char.ofNat 114, Char.ofNat 108, Char.ofNat 97, Char.ofNat 119, Char.ofNat 49, Char.ofNat 53, Char.ofNat 46, Char.ofNat 83, Char.ofNat 104, Char.ofNat 97, Char.ofNat 112, Char.ofNat 101, Char.ofNat 77, Char.ofNat 97, Char.ofNat 110, Char.ofNat 121, Char.ofNat 32, Char.ofNat 100, Char.ofNat 111, Char.ofNat 111, Char.ofNat 114, Char.ofNat 107, Char.ofNat 101, Char.ofNat 101, Char.ofNat 112, Char.ofNat 101, Char.ofNat 114, Char.ofNat 47, Char.ofNat 100, Char.ofNat 111, Char.ofNat 111, Char.ofNat 114, Char.ofNat 107, Char.ofNat 101, Char.ofNat 101, Char.ofNat 112, Char.ofNat 101, Char.ofNat 114, Char.ofNat 108, Char.ofNat 97, Char.ofNat 119, Char.ofNat 49, Char.ofNat 53, Char.ofNat 46, Char.ofNat 83, Char.ofNat 104, Char.ofNat 97, Char.ofNat 112, Char.ofNat 101, Char.ofNat 67, Char.ofNat 111, Char.ofNat 109, Char.ofNat 101, Char.ofNat 115, Char.ofNat 32, Char.ofNat 100, Char.ofNat 111, Char.ofNat 111, Char.ofNat 114, Char.ofNat 107, Char.ofNat 101, Char.ofNat 101, Char.ofNat 112, Char.ofNat 101, Char.ofNat 114, Char.ofNat 47, Char.ofNat 100, Char.ofNat 111, Char.ofNat 111, Char.ofNat 114, Char.ofNat 107, Char.ofNat 101, Char.ofNat 101, Char.ofNat 112, Char.ofNat 101, Char.ofNat 114, Char.ofNat 108, Char.ofNat 97, Char.ofNat 119, Char.ofNat 49, Char.ofNat 53, Char.ofNat 46, Char.ofNat 83, Char.ofNat 104, Char.ofNat 97, Char.ofNat 112, Char.ofNat 101, Char.ofNat 76, Char.ofNat 105, Char.ofNat 109, Char.ofNat 105, Char.ofNat 116, Char.ofNat 115, Char.ofNat 32, Char.ofNat 100, Char.ofNat 111, Char.ofNat 111, Char.ofNat 114, Char.ofNat 107, Char.ofNat 101, Char.ofNat 101, Char.ofNat 112, Char.ofNat 101, Char.ofNat 114, Char.ofNat 47, Char.ofNat 100, Char.ofNat 111, Char.ofNat 111, Char.ofNat 114, Char.ofNat 107, Char.ofNat 101, Char.ofNat 101, Char.ofNat 112, Char.ofNat 101, Char.ofNat 114, Char.ofNat 108, Char.ofNat 97, Char.ofNat 119, Char.ofNat 49, Char.ofNat 53, Char.ofNat 46, Char.ofNat 83, Char.ofNat 104, Char.ofNat 97, Char.ofNat 112, Char.ofNat 101, Char.ofNat 77, Char.ofNat 111, Char.ofNat 118, Char.ofNat 101, Char.ofNat 115, Char.ofNat 32, Char.ofNat 100, Char.ofNat 111, Char.ofNat 111, Char.ofNat 114, Char.ofNat 107, Char.ofNat 101, Char.ofNat 101, Char.ofNat 112, Char.ofNat 101, Char.ofNat 114, Char.ofNat 47, Char.ofNat 100, Char.ofNat 111, Char.ofNat 111, Char.ofNat 114, Char.ofNat 107, Char.ofNat 101, Char.ofNat 101, Char.ofNat 112, Char.ofNat 101, Char.ofNat 114, Char.ofNat 108, Char.ofNat 97, Char.ofNat 119, Char.ofNat 49, Char.ofNat 53, Char.ofNat 46, Char.ofNat 83, Char.ofNat 104, Char.ofNat 97, Char.ofNat 112, Char.ofNat 101, Char.ofNat 65, Char.ofNat 108, Char.ofNat 108, Char.ofNat 32, Char.ofNat 100, Char.ofNat 111, Char.ofNat 111, Char.ofNat 114, Char.ofNat 107, Char.ofNat 101, Char.ofNat 101, Char.ofNat 112, Char.ofNat 101, Char.ofNat 114, Char.ofNat 47, Char.ofNat 100, Char.ofNat 111, Char.ofNat 111, Char.ofNat 114, Char.ofNat 107, Char.ofNat 101, Char.ofNat 101, Char.ofNat 112, Char.ofNat 101, Char.ofNat 114, Char.ofNat 108, Char.ofNat 97, Char.ofNat 119, Char.ofNat 49, Char.ofNat 53, Char.ofNat 46, Char.ofNat 83, Char.ofNat 104, Char.ofNat 97, Char.ofNat 112, Char.ofNat 101, Char.ofNat 77, Char.ofNat 97, Char.ofNat 100, Char.ofNat 101, Char.ofNat 32, Char.ofNat 100, Char.ofNat 111, Char.ofNat 111, Char.ofNat 114, Char.ofNat 107, Char.ofNat 101, Char.ofNat 101, Char.ofNat 112, Char.ofNat 101, Char.ofNat 114, Char.ofNat 47, Char.ofNat 100, Char.ofNat 111, Char.ofNat 111, Char.ofNat 114, Char.ofNat 107, Char.ofNat 101, Char.ofNat 101, Char.ofNat 112, Char.ofNat 101, Char.ofNat 114, Char.ofNat 108, Char.ofNat 97, Char.ofNat 119, Char.ofNat 49, Char.ofNat 53, Char.ofNat 46, Char.ofNat 83, Char.ofNat 104, Char.ofNat 97, Char.ofNat 112, Char.ofNat 101, Char.ofNat 82, Char.ofNat 101, Char.ofNat 115, Char.ofNat 116, Char.ofNat 32, Char.ofNat 100, Char.ofNat 111, Char.ofNat 111, Char.ofNat 114, Char.ofNat 107, Char.ofNat 101, Char.ofNat 101, Char.ofNat 112, Char.ofNat 101, Char.ofNat 114, Char.ofNat 47, Char.ofNat 100, Char.ofNat 111, Char.ofNat 111, Char.ofNat 114, Char.ofNat 107, Char.ofNat 101, Char.ofNat 101, Char.ofNat 112, Char.ofNat 101, Char.ofNat 114, Char.ofNat 108, Char.ofNat 97, Char.ofNat 119, Char.ofNat 49, Char.ofNat 57, Char.ofNat 46, Char.ofNat 84, Char.ofNat 114, Char.ofNat 105, Char.ofNat 97, Char.ofNat 108, Char.ofNat 67, Char.ofNat 117, Char.ofNat 116, Char.ofNat 115, Char.ofNat 32, Char.ofNat 100, Char.ofNat 111, Char.ofNat 111, Char.ofNat 114, Char.ofNat 107, Char.ofNat 101, Char.ofNat 101, Char.ofNat 112, Char.ofNat 101, Char.ofNat 114, Char.ofNat 47, Char.ofNat 100, Char.ofNat 111, Char.ofNat 111, Char.ofNat 114, Char.ofNat 107, Char.ofNat 101, Char.ofNat 101, Char.ofNat 112, Char.ofNat 101, Char.ofNat 114, Char.ofNat 108, Char.ofNat 97, Char.ofNat 119, Char.ofNat 49, Char.ofNat 57, Char.ofNat 46, Char.ofNat 84, Char.ofNat 114, Char.ofNat 105, Char.ofNat 97, Char.ofNat 108, Char.ofNat 65, Char.ofNat 108, Char.ofNat 108, Char.ofNat 32, Char.ofNat 100, Char.ofNat 111, Char.ofNat 111, Char.ofNat 114, Char.ofNat 107, Char.ofNat 101, Char.ofNat 101, Char.ofNat 112, Char.ofNat 101, Char.ofNat 114, Char.ofNat 47, Char.ofNat 100, Char.ofNat 111, Char.ofNat 111, Char.ofNat 114, Char.ofNat 107, Char.ofNat 101, Char.ofNat 101, Char.ofNat 112, Char.ofNat 101, Char.ofNat 114, Char.ofNat 108, Char.ofNat 97, Char.ofNat 119, Char.ofNat 49, Char.ofNat 57, Char.ofNat 46, Char.ofNat 84, Char.ofNat 114, Char.ofNat 105, Char.ofNat 97, Char.ofNat 108, Char.ofNat 77, Char.ofNat 97, Char.ofNat 100, Char.ofNat 101]
theorem parts : signs = w1 ++ Char.ofNat 32 :: (w2 ++ Char.ofNat 32 :: (w3 ++ Char.ofNat 32 :: rest)) := by kernel_rfl
theorem behind : ∃ r, behindMainWord (wordsSigns Try.prog.initOrder.toList) = w3 :: r := by
  refine ⟨wordsSigns rest, ?_⟩
  rw [list, parts, words_app w1 _ (by decide), words_app w2 _ (by decide), words_app w3 _ (by decide)]
  generalize wordsSigns rest = r
  rfl
theorem strip (r : List (List Char)) : stripLifts liftWords (w3 :: r) = ([], w3 :: r) := by kernel_rfl
theorem not_carried (r : List (List Char)) : ((w3 :: r).head? == some "carried".toList) = false := by kernel_rfl
theorem is_cut (r : List (List Char)) : ((w3 :: r).head? == some "cut".toList) = true := by kernel_rfl
theorem not_gc : (w3 == "gc".toList || w3 == "spec".toList) = false := by kernel_rfl
theorem cut_ : (w3 == "cut".toList) = true := by kernel_rfl
theorem lifts_of {P : Program} {r : List (List Char)} (h : behindMainWord (wordsSigns P.initOrder.toList) = w3 :: r) : P.liftsFinal = false := by
  unfold Program.liftsFinal Program.headLifts
  simp only [h, strip, not_carried, is_cut, if_true, Bool.false_and, Bool.false_or, List.contains_nil]
theorem make_of {P : Program} {r : List (List Char)} (h : behindMainWord (wordsSigns P.initOrder.toList) = w3 :: r) : P.make = some .cut := by
  unfold Program.make
  simp only [h, not_gc, cut_, Bool.true_or, if_true, Bool.false_eq_true, if_false]
theorem lifts : Try.prog.liftsFinal = false := by obtain ⟨r, h⟩ := behind; exact lifts_of h
theorem make : Try.prog.make = some .cut := by obtain ⟨r, h⟩ := behind; exact make_of h
theorem later : Try.prog.laysLater = false := by kernel_rfl
theorem reflects : Try.prog.bearsReflect = false := by kernel_rfl
theorem door : Try.prog.doorFits [] = true := by kernel_rfl
theorem may_of {P : Program} {r : List (List Char)} (h : behindMainWord (wordsSigns P.initOrder.toList) = w3 :: r) (h1 : P.laysLater = false) (h2 : P.bearsReflect = false) (h3 : P.doorFits [] = true) : P.mayEnter = true := by
  unfold Program.mayEnter
  simp only [h, strip, is_cut, h1, h2, h3, List.contains_nil, Bool.not_false, Bool.or_true, Bool.and_true, Bool.and_self]
theorem mayEnter : Try.prog.mayEnter = true := by obtain ⟨r, h⟩ := behind; exact may_of h later reflects door
theorem stopsHeard : Try.prog.stopsHeard = true := by kernel_rfl
theorem laidOut : laidOutB Try.prog = true := by kernel_rfl
theorem mapsRowed : mapsRowed Try.prog = true := by kernel_rfl
theorem stops : (Try.prog.stops == []) = true := by kernel_rfl
theorem stopKnobs : (Try.prog.stopKnobs == []) = true := by kernel_rfl
end Go.Proofs.Ytcgefpklljclgaa.Head

-- PRINTED WORDS (module Derived/Print/Sized.lean): go-gate-2's, for the rows of laws over slices: an AI agent of Go's test side, Tue Nov 17 2026; no person has read it. Lean checks it.
namespace Go.Proofs.YtcgefpklljclgaaW.PrintWords
open Go.ChangeShapes Go.WideShapes
/-- A row's slice of whole numbers is no longer than its weight allows. -/
theorem sized_ints {H : Type} {enc : TypeId × Value → H} {P : Program} {W : World} {base : Nat} {spare : Nat → Bool} {held : Bool} {t e : TypeId} {k : IntKind} {a : Option Addr} {len cap : Nat} {d : DataW H} {ps : List MemPlace} {ts : List TypeId} {ds : List (DataW H)} {j : Nat}
    (hsz : (DataW.weightsEach P ts ds).all (· ≤ reachBytes) = true) (ht : ts[j]? = some t) (hd : ds[j]? = some d) (hu : P.underlying t = some (.slice e)) (he : P.underlying e = some (.int k)) (hc : P.cellsOf e = 1) {B : Nat} (hB : P.bytesOf e = B)
    (h : DataW.Trod enc P W base spare held t (.slice a len cap) d ps) : len * B ≤ 140737488351232 := by
  obtain ⟨fuel, hf⟩ := h
  rcases open_ints hu he hc hf with ⟨hcs, _⟩ | ⟨x, l, c, zs, hcs, _, hl, _, hz, hx, _, _⟩
  · simp [Value.cells] at hcs
    obtain ⟨rfl, rfl, rfl⟩ := hcs
    simp
  · simp [Value.cells] at hcs
    obtain ⟨rfl, rfl, rfl⟩ := hcs
    obtain ⟨hx, _⟩ := Prod.mk.inj hx
    subst hx
    have z := sized_slice hsz ht hd hu
    rw [hB] at z
    have hl2 : len ≤ zs.length := by
      rw [hz]
      split
      · exact hl
      · exact Nat.le_refl _
    have h1 : (lits (H := H) k (zs.take len)).length + (lits (H := H) k (zs.drop len)).length = zs.length := by
      simp [lits]
      omega
    rw [h1] at z
    exact Nat.le_trans (Nat.mul_le_mul_right _ hl2) z
end Go.Proofs.YtcgefpklljclgaaW.PrintWords
