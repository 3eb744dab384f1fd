/- A part of the proof of RoomFits: the machine's side by the kit's print, contracts and lemmas by this session. -/
import Derived.Test.YtcgefpklljclgaaBRoomFits1
import Derived.Test.YtcgefpklljclgaaBRoomFits2
import Derived.Test.YtcgefpklljclgaaBRoomFits3
namespace Go.Proofs.Ytcgefpklljclgaa.Print
open Go.RowKit Go.Proofs.YtcgefpklljclgaaW.PrintWords Go.Proofs.YtcgefpklljclgaaW.PrintLast Go.Proofs.YtcgefpklljclgaaW.PrintMore
attribute [local go_sem] max2_int min2_int max_two min_two max_three min_three max_four min_four   -- for this text's walks alone
set_option linter.unusedVariables false
set_option linter.unusedSimpArgs false
mutual
def r10_Create.j0 : Nat → List (S31) → ByteArray → ByteArray → Bool → Int → Int → Int → Option ((List (S31)) × Int)
 | 0, _, _, _, _, _, _, _ => none
 | k + 1, x0, x1, x2, x11, x2000, x2001, x2002 => if x11 = true then ((r10_no.f 1).bind fun bt5 => (some (bt5.1, bt5.2))) else ((r10_Find.f k x0 x1).bind fun t9 => (if t9 ≥ 0 then ((r10_no.f 3).bind fun bt10 => (some (bt10.1, bt10.2))) else (if x2.toList = ([] : List UInt8) then (r10_Create.j1 k x0 x1 x2 false x2000 x2001 x2002) else ((r10_Find.f k x0 x2).bind fun t14 => (r10_Create.j1 k x0 x1 x2 (decide (t14 < 0)) x2000 x2001 x2002)))))
def r10_Create.j1 : Nat → List (S31) → ByteArray → ByteArray → Bool → Int → Int → Int → Option ((List (S31)) × Int)
 | 0, _, _, _, _, _, _, _ => none
 | k + 1, x0, x1, x2, x27, x2000, x2001, x2002 => if x27 = true then ((r10_no.f 2).bind fun bt15 => (some (bt15.1, bt15.2))) else (if (x0.length : Int) ≥ 120 then ((r10_no.f 4).bind fun bt19 => (some (bt19.1, bt19.2))) else (r10_Create.l0 k x0 x1 x2 0 x2000 x2001 x2002))
def r10_Create.l0 : Nat → List (S31) → ByteArray → ByteArray → Int → Int → Int → Int → Option ((List (S31)) × Int)
 | 0, _, _, _, _, _, _, _ => none
 | k + 1, x0, x1, x2, x9, x2000, x2001, x2002 => if x9 < (x0.length : Int) then (if 0 ≤ x9 then (if (Op.bytesLess (((rd_T31 x0 x9).f0).toList) x1.toList) = true then (r10_Create.l0 k x0 x1 x2 (wrap64 (x9 + 1)) x2000 x2001 x2002) else (if x9 ≤ (x0.length : Int) then ((r10_copied.f (x0.take (x9 : Int).toNat)).bind fun t28 => (if t28.length < 1256584717458 then ((some (t28 ++ [(⟨x1, x2, (⟨x2000, x2001, x2002⟩ : S27), (⟨0, 0, 0⟩ : S27), (⟨0, 0, 0⟩ : S27), 1⟩ : S31)] : List (S31))).bind fun y31 => ((some (x0.drop (x9 : Int).toNat : List (S31))).bind fun y34 => (if y31.length + y34.length < 1256584717458 then (some ((y31 ++ y34), 0)) else (none)))) else (none))) else (none))) else (none)) else (if 0 ≤ x9 then (if x9 ≤ (x0.length : Int) then ((r10_copied.f (x0.take (x9 : Int).toNat)).bind fun t45 => (if t45.length < 1256584717458 then ((some (t45 ++ [(⟨x1, x2, (⟨x2000, x2001, x2002⟩ : S27), (⟨0, 0, 0⟩ : S27), (⟨0, 0, 0⟩ : S27), 1⟩ : S31)] : List (S31))).bind fun y48 => ((some (x0.drop (x9 : Int).toNat : List (S31))).bind fun y51 => (if y48.length + y51.length < 1256584717458 then (some ((y48 ++ y51), 0)) else (none)))) else (none))) else (none)) else (none))
end
def r10_Create.f (k : Nat) (l0 : List (S31)) (a1 : ByteArray) (a2 : ByteArray) (a3_0 : Int) (a3_1 : Int) (a3_2 : Int) : Option ((List (S31)) × Int) := (r10_MayName.f a1).bind fun t3 => (if t3 = true then ((r10_MayVec.f a3_0 a3_1 a3_2).bind fun t4 => (r10_Create.j0 k l0 a1 a2 (!t4) a3_0 a3_1 a3_2)) else (r10_Create.j0 k l0 a1 a2 true a3_0 a3_1 a3_2))
theorem r10_Create.mono_l : ∀ k, (∀ y0 y1 y2 y3 y4 y5 y6, LeO (r10_Create.j0 k y0 y1 y2 y3 y4 y5 y6) (r10_Create.j0 (k + 1) y0 y1 y2 y3 y4 y5 y6)) ∧ (∀ y0 y1 y2 y3 y4 y5 y6, LeO (r10_Create.j1 k y0 y1 y2 y3 y4 y5 y6) (r10_Create.j1 (k + 1) y0 y1 y2 y3 y4 y5 y6)) ∧ (∀ y0 y1 y2 y3 y4 y5 y6, LeO (r10_Create.l0 k y0 y1 y2 y3 y4 y5 y6) (r10_Create.l0 (k + 1) y0 y1 y2 y3 y4 y5 y6))
 | 0 => ⟨fun _ _ _ _ _ _ _ r h => by simp [r10_Create.j0] at h, fun _ _ _ _ _ _ _ r h => by simp [r10_Create.j1] at h, fun _ _ _ _ _ _ _ r h => by simp [r10_Create.l0] at h⟩
 | k + 1 => by
  obtain ⟨ih0, ih1, ih2⟩ := r10_Create.mono_l k
  refine ⟨?_, ?_, ?_⟩
  ·intro y0 y1 y2 y3 y4 y5 y6
   unfold r10_Create.j0
   repeat' first
   | (with_reducible exact ih0 _ _ _ _ _ _ _)
   | (with_reducible exact ih1 _ _ _ _ _ _ _)
   | (with_reducible exact ih2 _ _ _ _ _ _ _)
   | (with_reducible exact r10_Find.mono _ _ _)
   | (with_reducible exact LeO.refl _)
   | (with_reducible exact LeO.none _)
   | (with_reducible refine LeO.ite ?_ ?_)
   | (with_reducible refine LeO.bind ?_ (fun _ => ?_))
   | exact ih0 _ _ _ _ _ _ _
   | exact ih1 _ _ _ _ _ _ _
   | exact ih2 _ _ _ _ _ _ _
   | exact r10_Find.mono _ _ _
   | exact LeO.none _
   | refine LeO.ite ?_ ?_
   | refine LeO.bind ?_ (fun _ => ?_)
  ·intro y0 y1 y2 y3 y4 y5 y6
   unfold r10_Create.j1
   repeat' first
   | (with_reducible exact ih0 _ _ _ _ _ _ _)
   | (with_reducible exact ih1 _ _ _ _ _ _ _)
   | (with_reducible exact ih2 _ _ _ _ _ _ _)
   | (with_reducible exact r10_Find.mono _ _ _)
   | (with_reducible exact LeO.refl _)
   | (with_reducible exact LeO.none _)
   | (with_reducible refine LeO.ite ?_ ?_)
   | (with_reducible refine LeO.bind ?_ (fun _ => ?_))
   | exact ih0 _ _ _ _ _ _ _
   | exact ih1 _ _ _ _ _ _ _
   | exact ih2 _ _ _ _ _ _ _
   | exact r10_Find.mono _ _ _
   | exact LeO.none _
   | refine LeO.ite ?_ ?_
   | refine LeO.bind ?_ (fun _ => ?_)
  ·intro y0 y1 y2 y3 y4 y5 y6
   unfold r10_Create.l0
   repeat' first
   | (with_reducible exact ih0 _ _ _ _ _ _ _)
   | (with_reducible exact ih1 _ _ _ _ _ _ _)
   | (with_reducible exact ih2 _ _ _ _ _ _ _)
   | (with_reducible exact r10_Find.mono _ _ _)
   | (with_reducible exact LeO.refl _)
   | (with_reducible exact LeO.none _)
   | (with_reducible refine LeO.ite ?_ ?_)
   | (with_reducible refine LeO.bind ?_ (fun _ => ?_))
   | exact ih0 _ _ _ _ _ _ _
   | exact ih1 _ _ _ _ _ _ _
   | exact ih2 _ _ _ _ _ _ _
   | exact r10_Find.mono _ _ _
   | exact LeO.none _
   | refine LeO.ite ?_ ?_
   | refine LeO.bind ?_ (fun _ => ?_)
theorem r10_Create.mono : ∀ a0 a1 a2 a3 a4 a5 k, LeO (r10_Create.f k a0 a1 a2 a3 a4 a5) (r10_Create.f (k + 1) a0 a1 a2 a3 a4 a5) := by
 intro a0 a1 a2 a3 a4 a5 k
 obtain ⟨ih0, ih1, ih2⟩ := r10_Create.mono_l k
 unfold r10_Create.f
 repeat' first
   | (with_reducible exact ih0 _ _ _ _ _ _ _)
   | (with_reducible exact ih1 _ _ _ _ _ _ _)
   | (with_reducible exact ih2 _ _ _ _ _ _ _)
   | (with_reducible exact r10_Find.mono _ _ _)
   | (with_reducible exact LeO.refl _)
   | (with_reducible exact LeO.none _)
   | (with_reducible refine LeO.ite ?_ ?_)
   | (with_reducible refine LeO.bind ?_ (fun _ => ?_))
   | exact ih0 _ _ _ _ _ _ _
   | exact ih1 _ _ _ _ _ _ _
   | exact ih2 _ _ _ _ _ _ _
   | exact r10_Find.mono _ _ _
   | exact LeO.none _
   | refine LeO.ite ?_ ?_
   | refine LeO.bind ?_ (fun _ => ?_)
set_option maxHeartbeats 8000000 in
set_option maxRecDepth 100000 in
theorem r10_Create.calls (k : Nat) (A0 : Option Addr) (c0 : Nat) (l0 : List (S31)) (a1 : ByteArray) (a2 : ByteArray) (a3_0 : Int) (a3_1 : Int) (a3_2 : Int) (r1 : List (S31)) (r2 : Int) (w : World) (hr0 : Kd.C k31 w A0 l0.length l0) (hc0 : l0.length ≤ c0) (h : r10_Create.f k l0 a1 a2 a3_0 a3_1 a3_2 = some (r1, r2)) :
  Calls Try.prog 83 #[.slice A0 l0.length c0, .string a1, .string a2, .agg #[.int .i64 a3_0, .int .i64 a3_1, .int .i64 a3_2]] w fun e w' => ∃ v0_ : Value, e = .returned (.agg #[v0_, .int .i64 r2]) ∧ Kd.R k31 31 w' w.heap.size (fun _ => True) v0_ r1 ∧ Below w.heap.size w w' := by
 have hu27 := Try.underlying27
 have hu67 := Try.underlying67
 have hu31 := Try.underlying31
 have HR0 := Aside0.mk hr0
 have HC0 := Aside0.mk hc0
 clear hr0 hc0
 have HB := Aside0.mk (Below.refl w.heap.size w)
 have H : ((r10_MayName.f a1).bind fun t3 => (if t3 = true then ((r10_MayVec.f a3_0 a3_1 a3_2).bind fun t4 => (r10_Create.j0 k l0 a1 a2 (!t4) a3_0 a3_1 a3_2)) else (r10_Create.j0 k l0 a1 a2 true a3_0 a3_1 a3_2))) = some (r1, r2) := h
 clear h
 have HC5 := Aside0.mk H
 clear H
 go_enter Try.func83, Try.ntmps83
 go_upto_region 1 with (first | ((with_reducible refine gate_dst (N := 7) rfl ?_); refine box_event ?hg (N := 7) ?hd (cs := #[.int .i64 a3_0, .int .i64 a3_1, .int .i64 a3_2]) (t := 27) ?hr ?_; (case hd => rfl); (case hg => rfl); (case hr => first | (go_simp; done) | (go_simp; rfl)); intro gb1 hg w6 hbox hb; have n0_ := Aside0.mk (below_step (by repeat (first | (with_reducible first | exact HB.out | apply below_alloc | apply pw_below_drewN | apply below_drew1) | exact HB.out)) hb); have n1_ := Aside0.mk (hbox); have n2_ := Aside0.mk ((by rw [hg]; exact (below_size (by repeat (first | (with_reducible first | exact HB.out | apply below_alloc | apply pw_below_drewN | apply below_drew1) | exact HB.out))) : w.heap.size ≤ gb1)); have n3_ := Aside0.mk ((by rw [hg]; exact (below_size (by repeat (first | (with_reducible first | exact HB.out | apply below_alloc | apply pw_below_drewN | apply below_drew1) | exact HB.out))) : w.heap.size ≤ gb1)); clear HB; have HB := n0_; have BK1 := n1_; have GW1 := n2_; have GE1 := n3_; clear n0_ n1_ n2_ n3_; clear hb hbox hg) | ((with_reducible refine gate_dst (N := 8) rfl ?_); refine box_event ?hg (N := 8) ?hd (cs := #[.slice none 0 0, .int .i64 0]) (t := 67) ?hr ?_; (case hd => rfl); (case hg => rfl); (case hr => first | (go_simp; done) | (go_simp; rfl)); intro gb2 hg w7 hbox hb; have n0_ := Aside0.mk (blk_below (g := gb1) (o := .cells #[.int .i64 a3_0, .int .i64 a3_1, .int .i64 a3_2] 27 (0, 0)) (by (with_reducible repeat (first | refine blk_drewN ?_ _ | refine blk_drew ?_ | refine blk_alloc ?_ _)); exact BK1.out) hb); have n1_ := Aside0.mk (below_step (by repeat (first | (with_reducible first | exact HB.out | apply below_alloc | apply pw_below_drewN | apply below_drew1 | refine below_set ?_ GE1.out) | exact HB.out)) hb); have n2_ := Aside0.mk (hbox); have n3_ := Aside0.mk ((by rw [hg]; exact (below_size (by repeat (first | (with_reducible first | exact HB.out | apply below_alloc | apply pw_below_drewN | apply below_drew1 | refine below_set ?_ GE1.out) | exact HB.out))) : w.heap.size ≤ gb2)); have n4_ := Aside0.mk ((by rw [hg]; exact (below_size (by repeat (first | (with_reducible first | exact HB.out | apply below_alloc | apply pw_below_drewN | apply below_drew1 | refine below_set ?_ GE1.out) | exact HB.out))) : w.heap.size ≤ gb2)); have n5_ := Aside0.mk ((by rw [hg]; exact Nat.ne_of_lt (blk_lt (g := gb1) (o := .cells #[.int .i64 a3_0, .int .i64 a3_1, .int .i64 a3_2] 27 (0, 0)) (by (with_reducible repeat (first | refine blk_drewN ?_ _ | refine blk_drew ?_ | refine blk_alloc ?_ _)); exact BK1.out)) : gb1 ≠ gb2)); have n6_ := Aside0.mk ((by rw [hg]; exact Nat.ne_of_gt (blk_lt (g := gb1) (o := .cells #[.int .i64 a3_0, .int .i64 a3_1, .int .i64 a3_2] 27 (0, 0)) (by (with_reducible repeat (first | refine blk_drewN ?_ _ | refine blk_drew ?_ | refine blk_alloc ?_ _)); exact BK1.out)) : gb2 ≠ gb1)); clear BK1; clear HB; have BK1 := n0_; have HB := n1_; have BK2 := n2_; have GW2 := n3_; have GE2 := n4_; have NB1_2 := n5_; have NB2_1 := n6_; clear n0_ n1_ n2_ n3_ n4_ n5_ n6_; clear hb hbox hg))
 (try simp only [Act.put, List.setIfInBounds_toArray, List.set_cons_zero, List.set_cons_succ])
 go_cut [11] (fun v11 wc => ∃ (kq : Nat) (x11_4 : Bool), v11 = .bool x11_4 ∧ Aside0 (r10_Create.j0 kq l0 a1 a2 x11_4 a3_0 a3_1 a3_2 = some (r1, r2)) ∧ Aside0 (kq ≤ k) ∧ Aside0 (wc.heap[gb1]? = some (.cells #[.int .i64 a3_0, .int .i64 a3_1, .int .i64 a3_2] 27 (0, 0))) ∧ Aside0 (wc.heap[gb2]? = some (.cells #[(.slice none 0 0), .int .i64 0] 67 (0, 0))) ∧ Aside0 (Below w.heap.size w wc))
 case first =>
  have H := HC5.out
  clear HC5
  replace H := Option.bind_eq_some_iff.mp H
  obtain ⟨t3, A80, H⟩ := H
  replace H : (if t3 = true then ((r10_MayVec.f a3_0 a3_1 a3_2).bind fun t4 => (r10_Create.j0 k l0 a1 a2 (!t4) a3_0 a3_1 a3_2)) else (r10_Create.j0 k l0 a1 a2 true a3_0 a3_1 a3_2)) = some (r1, r2) := H
  have A8 := Aside0.mk A80
  clear A80
  by_cases c9 : t3 = true
  ·subst c9
   have H1 : ((r10_MayVec.f a3_0 a3_1 a3_2).bind fun t4 => (r10_Create.j0 k l0 a1 a2 (!t4) a3_0 a3_1 a3_2)) = some (r1, r2) := by rw [if_pos rfl] at H; exact H
   clear H
   have H := H1
   clear H1
   replace H := Option.bind_eq_some_iff.mp H
   obtain ⟨t4, A100, H⟩ := H
   replace H : (r10_Create.j0 k l0 a1 a2 (!t4) a3_0 a3_1 a3_2) = some (r1, r2) := H
   have A10 := Aside0.mk A100
   clear A100
   have H' := Aside0.mk H
   clear H
   go_wp2_with (first | ((with_reducible refine gate_callee (f := 105) rfl ?_); refine goesL_ (some 13) rfl rfl Try.func105 (by kernel_rfl) rfl #[.string a1] rfl (by (try simp only [List.map_toArray, List.map_cons, List.map_nil]); first | done | rfl | (simp only [List.length_drop, List.length_take]; rfl)) ?_; (with_reducible refine (r10_MayName.calls a1 true _ A8.out).mono ?_); rintro e w' ⟨rfl, ⟨nd, rfl⟩⟩; refine ⟨_, rfl, ?_⟩; have hnb11 := NB1_2.out; have hnc11 := NB2_1.out; have hcz12_0 : w7.cell? ⟨gb1, 0, none⟩ = some (.int .i64 a3_0) := (blk_cell BK1.out 0).trans rfl; have hcz12_1 : w7.cell? ⟨gb1, 1, none⟩ = some (.int .i64 a3_1) := (blk_cell BK1.out 1).trans rfl; have hcz12_2 : w7.cell? ⟨gb1, 2, none⟩ = some (.int .i64 a3_2) := (blk_cell BK1.out 2).trans rfl; have hfz12_0 := blk_frozen BK1.out 0; have hfz12_1 := blk_frozen BK1.out 1; have hfz12_2 := blk_frozen BK1.out 2) | (go_at_call 65; (with_reducible refine (r10_MayVec.calls a3_0 a3_1 a3_2 t4 _ A10.out).mono ?_); rintro e w13 ⟨rfl, hb⟩; have n0_ := Aside0.mk (blk_below (g := gb1) (o := .cells #[.int .i64 a3_0, .int .i64 a3_1, .int .i64 a3_2] 27 (0, 0)) (by (with_reducible repeat (first | refine blk_drewN ?_ _ | refine blk_drew ?_ | refine blk_alloc ?_ _)); exact BK1.out) hb); have n1_ := Aside0.mk (blk_below (g := gb2) (o := .cells #[.slice none 0 0, .int .i64 0] 67 (0, 0)) (by (with_reducible repeat (first | refine blk_drewN ?_ _ | refine blk_drew ?_ | refine blk_alloc ?_ _)); exact BK2.out) hb); have n2_ := Aside0.mk (below_step (by repeat (first | (with_reducible first | exact HB.out | apply below_alloc | apply pw_below_drewN | apply below_drew1 | refine below_set ?_ GE1.out | refine below_set ?_ GE2.out) | exact HB.out)) hb); clear BK1; clear BK2; clear HB; have BK1 := n0_; have BK2 := n1_; have HB := n2_; clear n0_ n1_ n2_; (try clear hb); (try clear hb2); (try clear hk); (try clear hi)))
   go_meet
   case rel => exact ⟨_, (!t4), (by first | rfl | (simp; done) | (simp [*]; done)), H', ⟨by first | omega | exact Nat.le_refl _⟩, ⟨by (with_reducible repeat (first | refine blk_drewN ?_ _ | refine blk_drew ?_ | refine blk_alloc ?_ _)); exact BK1.out⟩, ⟨by (with_reducible repeat (first | refine blk_drewN ?_ _ | refine blk_drew ?_ | refine blk_alloc ?_ _)); exact BK2.out⟩, ⟨by repeat (first | (with_reducible first | exact HB.out | apply below_alloc | apply pw_below_drewN | apply below_drew1 | refine below_set ?_ GE1.out | refine below_set ?_ GE2.out) | exact HB.out)⟩⟩
  ·replace c9 := Bool.eq_false_iff.mpr c9
   subst c9
   have H1 : (r10_Create.j0 k l0 a1 a2 true a3_0 a3_1 a3_2) = some (r1, r2) := by rw [if_neg (show ¬ (false = true) by decide)] at H; exact H
   clear H
   have H := H1
   clear H1
   have H' := Aside0.mk H
   clear H
   go_wp2_with (first | ((with_reducible refine gate_callee (f := 105) rfl ?_); refine goesL_ (some 13) rfl rfl Try.func105 (by kernel_rfl) rfl #[.string a1] rfl (by (try simp only [List.map_toArray, List.map_cons, List.map_nil]); first | done | rfl | (simp only [List.length_drop, List.length_take]; rfl)) ?_; (with_reducible refine (r10_MayName.calls a1 false _ A8.out).mono ?_); rintro e w' ⟨rfl, ⟨nd, rfl⟩⟩; refine ⟨_, rfl, ?_⟩))
   go_meet
   case rel => exact ⟨_, (true), (by first | rfl | (simp; done) | (simp [*]; done)), H', ⟨by first | omega | exact Nat.le_refl _⟩, ⟨by (with_reducible repeat (first | refine blk_drewN ?_ _ | refine blk_drew ?_ | refine blk_alloc ?_ _)); exact BK1.out⟩, ⟨by (with_reducible repeat (first | refine blk_drewN ?_ _ | refine blk_drew ?_ | refine blk_alloc ?_ _)); exact BK2.out⟩, ⟨by repeat (first | (with_reducible first | exact HB.out | apply below_alloc | apply pw_below_drewN | apply below_drew1 | refine below_set ?_ GE1.out | refine below_set ?_ GE2.out) | exact HB.out)⟩⟩
 case rest =>
  clear HC5
  try clear c1
  try clear p2
  try clear c8
  try clear c9
  try clear c10
  try clear c11
  try clear hcz12_0
  try clear hcz12_1
  try clear hcz12_2
  try clear hfz12_0
  try clear hfz12_1
  try clear hfz12_2
  obtain ⟨kq, x11_4, rfl, HA, HJ4, BK1, BK2, HB⟩ := hcut
  cases kq with
  | zero => exact absurd HA.out (by simp [r10_Create.j0])
  | succ kj4 =>
   have H := HA.out
   clear HA
   simp only [r10_Create.j0] at H
   by_cases c14 : x11_4 = true
   ·subst c14
    have H1 : ((r10_no.f 1).bind fun bt5 => (some (bt5.1, bt5.2))) = some (r1, r2) := by rw [if_pos rfl] at H; exact H
    clear H
    have H := H1
    clear H1
    replace H := Option.bind_eq_some_iff.mp H
    obtain ⟨⟨t5, t8⟩, A150, H⟩ := H
    replace H : (some (t5, t8)) = some (r1, r2) := H
    have A15 := Aside0.mk A150
    clear A150
    simp only [Option.some.injEq, Prod.mk.injEq] at H
    obtain ⟨rfl, rfl⟩ := H
    go_wp2_with (first | ((with_reducible refine gate_callee (f := 113) rfl ?_); refine goesL_ (some 20) rfl rfl Try.func113 (by kernel_rfl) rfl #[.int .i64 1] rfl (by (try simp only [List.map_toArray, List.map_cons, List.map_nil]); first | done | rfl | (simp only [List.length_drop, List.length_take]; rfl)) ?_; (with_reducible refine (r10_no.calls 1 t5 t8 _ A15.out).mono ?_); rintro e w16 ⟨v6, rfl, ho0, hb⟩; refine ⟨_, rfl, ?_⟩; have n0_ := Aside0.mk (Kd.R_lower ho0 (below_size (by repeat (first | (with_reducible first | exact HB.out | apply below_alloc | apply pw_below_drewN | apply below_drew1 | refine below_set ?_ GE1.out | refine below_set ?_ GE2.out) | exact HB.out)))); have n1_ := Aside0.mk (blk_below (g := gb1) (o := .cells #[.int .i64 a3_0, .int .i64 a3_1, .int .i64 a3_2] 27 (0, 0)) (by (with_reducible repeat (first | refine blk_drewN ?_ _ | refine blk_drew ?_ | refine blk_alloc ?_ _)); exact BK1.out) hb); have n2_ := Aside0.mk (blk_below (g := gb2) (o := .cells #[.slice none 0 0, .int .i64 0] 67 (0, 0)) (by (with_reducible repeat (first | refine blk_drewN ?_ _ | refine blk_drew ?_ | refine blk_alloc ?_ _)); exact BK2.out) hb); have n3_ := Aside0.mk (below_step (by repeat (first | (with_reducible first | exact HB.out | apply below_alloc | apply pw_below_drewN | apply below_drew1 | refine below_set ?_ GE1.out | refine below_set ?_ GE2.out) | exact HB.out)) hb); clear BK1; clear BK2; clear HB; have HO7 := n0_; have BK1 := n1_; have BK2 := n2_; have HB := n3_; clear n0_ n1_ n2_ n3_; (try clear hb); (try clear hb2); (try clear hk); (try clear hi); (try clear ho0); obtain ⟨Ao17, co17, eo17⟩ := Kd.R_slice HO7.out; subst eo17; have hnb18 := NB2_1.out; have hnc18 := NB1_2.out; have hcz19_0 : w16.cell? ⟨gb2, 0, none⟩ = some (.slice none 0 0) := (blk_cell BK2.out 0).trans rfl; have hcz19_1 : w16.cell? ⟨gb2, 1, none⟩ = some (.int .i64 0) := (blk_cell BK2.out 1).trans rfl; have hfz19_0 := blk_frozen BK2.out 0; have hfz19_1 := blk_frozen BK2.out 1))
    refine bodyPost_ret (results_cell_row rfl _ _ gb2 67 #[.slice Ao17 t5.length co17, .int .i64 t8] (0, 0) _ rfl (by (with_reducible repeat (first | refine blk_drewN ?_ _ | refine blk_drew ?_ | refine blk_alloc ?_ _)); refine blk_put (cs := #[.slice Ao17 t5.length co17, .int .i64 0]) ?_ 1 _ rfl; (with_reducible repeat (first | refine blk_drewN ?_ _ | refine blk_drew ?_ | refine blk_alloc ?_ _)); refine blk_put (cs := #[.slice none 0 0, .int .i64 0]) ?_ 0 _ rfl; (with_reducible repeat (first | refine blk_drewN ?_ _ | refine blk_drew ?_ | refine blk_alloc ?_ _)); exact BK2.out) Try.underlying67 rfl (by kernel_rfl)) rfl ?_
    exact ⟨_, by first | rfl | (simp [errW_none, errW_some] <;> rfl) | (simp [*, errW_none, errW_some] <;> rfl), by (with_reducible repeat (first | apply Kd.R_alloc | apply Kd.R_drewN | apply Kd.R_drew)); exact Kd.R_mono (Kd.R_far (p := ⟨gb2, 1, none⟩) (Kd.R_far (p := ⟨gb2, 0, none⟩) (Kd.R_types HO7.out BK2.out (by decide)) (fun _ hk => hk.2) (.slice Ao17 t5.length co17)) (fun _ hk => hk.2) (.int .i64 t8)) (fun _ hk => trivial), by repeat (first | (with_reducible first | exact HB.out | apply below_alloc | apply pw_below_drewN | apply below_drew1 | refine below_set ?_ GE1.out | refine below_set ?_ GE2.out) | exact HB.out)⟩
   ·replace c14 := Bool.eq_false_iff.mpr c14
    subst c14
    have H1 : ((r10_Find.f kj4 l0 a1).bind fun t9 => (if t9 ≥ 0 then ((r10_no.f 3).bind fun bt10 => (some (bt10.1, bt10.2))) else (if a2.toList = ([] : List UInt8) then (r10_Create.j1 kj4 l0 a1 a2 false a3_0 a3_1 a3_2) else ((r10_Find.f kj4 l0 a2).bind fun t14 => (r10_Create.j1 kj4 l0 a1 a2 (decide (t14 < 0)) a3_0 a3_1 a3_2))))) = some (r1, r2) := by rw [if_neg (show ¬ (false = true) by decide)] at H; exact H
    clear H
    have H := H1
    clear H1
    replace H := Option.bind_eq_some_iff.mp H
    obtain ⟨t9, A200, H⟩ := H
    replace H : (if t9 ≥ 0 then ((r10_no.f 3).bind fun bt10 => (some (bt10.1, bt10.2))) else (if a2.toList = ([] : List UInt8) then (r10_Create.j1 kj4 l0 a1 a2 false a3_0 a3_1 a3_2) else ((r10_Find.f kj4 l0 a2).bind fun t14 => (r10_Create.j1 kj4 l0 a1 a2 (decide (t14 < 0)) a3_0 a3_1 a3_2)))) = some (r1, r2) := H
    have A20 := Aside0.mk A200
    clear A200
    by_cases c21 : t9 ≥ 0
    ·rw [if_pos c21] at H
     have c21b0 : decide (0 ≤ t9) = true := decide_eq_true c21
     clear c21
     replace H := Option.bind_eq_some_iff.mp H
     obtain ⟨⟨t10, t13⟩, A220, H⟩ := H
     replace H : (some (t10, t13)) = some (r1, r2) := H
     have A22 := Aside0.mk A220
     clear A220
     simp only [Option.some.injEq, Prod.mk.injEq] at H
     obtain ⟨rfl, rfl⟩ := H
     go_wp2_with (first | ((with_reducible refine gate_callee (f := 50) rfl ?_); refine goesL_ (some 24) rfl rfl Try.func50 (by kernel_rfl) rfl #[.slice A0 l0.length c0, .string a1] rfl (by (try simp only [List.map_toArray, List.map_cons, List.map_nil]); first | done | rfl | (simp only [List.length_drop, List.length_take]; rfl)) ?_; (with_reducible refine (r10_Find.calls kj4 _ _ l0 a1 t9 _ ?side1 ?side2 A20.out).mono ?_); (case side1 => repeat (first | exact (Kd.C_below HR0.out HB.out) | (with_reducible refine Kd.C_alloc ?_ _) | (with_reducible refine Kd.C_drewN ?_ _) | (with_reducible refine Kd.C_drew ?_))); (case side2 => exact HC0.out); rintro e w' ⟨rfl, ⟨nd, rfl⟩⟩; refine ⟨_, rfl, ?_⟩; (try (rw [drewN_self wc]; generalize hq_ : World.drewN wc _ = wc; have n0_ : Aside0 (wc.heap[gb1]? = some (.cells #[.int .i64 a3_0, .int .i64 a3_1, .int .i64 a3_2] 27 (0, 0))) := ⟨by rw [← hq_]; exact (by (with_reducible repeat (first | refine blk_drewN ?_ _ | refine blk_drew ?_ | refine blk_alloc ?_ _)); exact BK1.out)⟩; have n1_ : Aside0 (wc.heap[gb2]? = some (.cells #[.slice none 0 0, .int .i64 0] 67 (0, 0))) := ⟨by rw [← hq_]; exact (by (with_reducible repeat (first | refine blk_drewN ?_ _ | refine blk_drew ?_ | refine blk_alloc ?_ _)); exact BK2.out)⟩; have n2_ : Aside0 (Below w.heap.size w wc) := ⟨by rw [← hq_]; exact (by repeat (first | (with_reducible first | exact HB.out | apply below_alloc | apply pw_below_drewN | apply below_drew1 | refine below_set ?_ GE1.out | refine below_set ?_ GE2.out) | exact HB.out))⟩; clear BK1 BK2 HB hq_; have BK1 := n0_; have BK2 := n1_; have HB := n2_; clear n0_ n1_ n2_))) | ((with_reducible refine gate_callee (f := 113) rfl ?_); refine goesL_ (some 26) rfl rfl Try.func113 (by kernel_rfl) rfl #[.int .i64 3] rfl (by (try simp only [List.map_toArray, List.map_cons, List.map_nil]); first | done | rfl | (simp only [List.length_drop, List.length_take]; rfl)) ?_; (with_reducible refine (r10_no.calls 3 t10 t13 _ A22.out).mono ?_); rintro e w23 ⟨v11, rfl, ho0, hb⟩; refine ⟨_, rfl, ?_⟩; have n0_ := Aside0.mk (Kd.R_lower ho0 (below_size (by repeat (first | (with_reducible first | exact HB.out | apply below_alloc | apply pw_below_drewN | apply below_drew1 | refine below_set ?_ GE1.out | refine below_set ?_ GE2.out) | exact HB.out)))); have n1_ := Aside0.mk (blk_below (g := gb1) (o := .cells #[.int .i64 a3_0, .int .i64 a3_1, .int .i64 a3_2] 27 (0, 0)) (by (with_reducible repeat (first | refine blk_drewN ?_ _ | refine blk_drew ?_ | refine blk_alloc ?_ _)); exact BK1.out) hb); have n2_ := Aside0.mk (blk_below (g := gb2) (o := .cells #[.slice none 0 0, .int .i64 0] 67 (0, 0)) (by (with_reducible repeat (first | refine blk_drewN ?_ _ | refine blk_drew ?_ | refine blk_alloc ?_ _)); exact BK2.out) hb); have n3_ := Aside0.mk (below_step (by repeat (first | (with_reducible first | exact HB.out | apply below_alloc | apply pw_below_drewN | apply below_drew1 | refine below_set ?_ GE1.out | refine below_set ?_ GE2.out) | exact HB.out)) hb); clear BK1; clear BK2; clear HB; have HO12 := n0_; have BK1 := n1_; have BK2 := n2_; have HB := n3_; clear n0_ n1_ n2_ n3_; (try clear hb); (try clear hb2); (try clear hk); (try clear hi); (try clear ho0); obtain ⟨Ao24, co24, eo24⟩ := Kd.R_slice HO12.out; subst eo24; have hnb25 := NB2_1.out; have hnc25 := NB1_2.out; have hcz26_0 : w23.cell? ⟨gb2, 0, none⟩ = some (.slice none 0 0) := (blk_cell BK2.out 0).trans rfl; have hcz26_1 : w23.cell? ⟨gb2, 1, none⟩ = some (.int .i64 0) := (blk_cell BK2.out 1).trans rfl; have hfz26_0 := blk_frozen BK2.out 0; have hfz26_1 := blk_frozen BK2.out 1))
     refine bodyPost_ret (results_cell_row rfl _ _ gb2 67 #[.slice Ao24 t10.length co24, .int .i64 t13] (0, 0) _ rfl (by (with_reducible repeat (first | refine blk_drewN ?_ _ | refine blk_drew ?_ | refine blk_alloc ?_ _)); refine blk_put (cs := #[.slice Ao24 t10.length co24, .int .i64 0]) ?_ 1 _ rfl; (with_reducible repeat (first | refine blk_drewN ?_ _ | refine blk_drew ?_ | refine blk_alloc ?_ _)); refine blk_put (cs := #[.slice none 0 0, .int .i64 0]) ?_ 0 _ rfl; (with_reducible repeat (first | refine blk_drewN ?_ _ | refine blk_drew ?_ | refine blk_alloc ?_ _)); exact BK2.out) Try.underlying67 rfl (by kernel_rfl)) rfl ?_
     exact ⟨_, by first | rfl | (simp [errW_none, errW_some] <;> rfl) | (simp [*, errW_none, errW_some] <;> rfl), by (with_reducible repeat (first | apply Kd.R_alloc | apply Kd.R_drewN | apply Kd.R_drew)); exact Kd.R_mono (Kd.R_far (p := ⟨gb2, 1, none⟩) (Kd.R_far (p := ⟨gb2, 0, none⟩) (Kd.R_types HO12.out BK2.out (by decide)) (fun _ hk => hk.2) (.slice Ao24 t10.length co24)) (fun _ hk => hk.2) (.int .i64 t13)) (fun _ hk => trivial), by repeat (first | (with_reducible first | exact HB.out | apply below_alloc | apply pw_below_drewN | apply below_drew1 | refine below_set ?_ GE1.out | refine below_set ?_ GE2.out) | exact HB.out)⟩
    ·rw [if_neg c21] at H
     have c21b0 : decide (0 ≤ t9) = false := decide_eq_false c21
     clear c21
     have HC27 := Aside0.mk H
     clear H
     go_upto_region 5 with (first | ((with_reducible refine gate_callee (f := 50) rfl ?_); refine goesL_ (some 24) rfl rfl Try.func50 (by kernel_rfl) rfl #[.slice A0 l0.length c0, .string a1] rfl (by (try simp only [List.map_toArray, List.map_cons, List.map_nil]); first | done | rfl | (simp only [List.length_drop, List.length_take]; rfl)) ?_; (with_reducible refine (r10_Find.calls kj4 _ _ l0 a1 t9 _ ?side1 ?side2 A20.out).mono ?_); (case side1 => repeat (first | exact (Kd.C_below HR0.out HB.out) | (with_reducible refine Kd.C_alloc ?_ _) | (with_reducible refine Kd.C_drewN ?_ _) | (with_reducible refine Kd.C_drew ?_))); (case side2 => exact HC0.out); rintro e w' ⟨rfl, ⟨nd, rfl⟩⟩; refine ⟨_, rfl, ?_⟩))
     (try simp only [Act.put, List.setIfInBounds_toArray, List.set_cons_zero, List.set_cons_succ])
     go_cut [27] (fun v27 wc => ∃ (kq : Nat) (x27_26 : Bool), v27 = .bool x27_26 ∧ Aside0 (r10_Create.j1 kq l0 a1 a2 x27_26 a3_0 a3_1 a3_2 = some (r1, r2)) ∧ Aside0 (kq ≤ kj4) ∧ Aside0 (wc.heap[gb1]? = some (.cells #[.int .i64 a3_0, .int .i64 a3_1, .int .i64 a3_2] 27 (0, 0))) ∧ Aside0 (wc.heap[gb2]? = some (.cells #[(.slice none 0 0), .int .i64 0] 67 (0, 0))) ∧ Aside0 (Below w.heap.size w wc))
     case first =>
      have H := HC27.out
      clear HC27
      by_cases c28 : a2.toList = ([] : List UInt8)
      ·rw [if_pos c28] at H
       have c28b0 : (a2.toList == ([] : List UInt8)) = true := beq_iff_eq.mpr c28
       have c28b1 : (a2.toList != ([] : List UInt8)) = false := bne_eq_false_iff_eq.mpr c28
       clear c28
       (first | rw [c28b0] | (simp only [i64_w, i32_w]; rw [c28b0]) | skip)
       have H' := Aside0.mk H
       clear H
       go_wp2
       go_meet
       case rel => exact ⟨_, (false), (by first | rfl | (simp; done) | (simp [*]; done)), H', ⟨by have := HJ4.out; first | omega | exact Nat.le_refl _⟩, ⟨by (with_reducible repeat (first | refine blk_drewN ?_ _ | refine blk_drew ?_ | refine blk_alloc ?_ _)); exact BK1.out⟩, ⟨by (with_reducible repeat (first | refine blk_drewN ?_ _ | refine blk_drew ?_ | refine blk_alloc ?_ _)); exact BK2.out⟩, ⟨by repeat (first | (with_reducible first | exact HB.out | apply below_alloc | apply pw_below_drewN | apply below_drew1 | refine below_set ?_ GE1.out | refine below_set ?_ GE2.out) | exact HB.out)⟩⟩
      ·rw [if_neg c28] at H
       have c28b0 : (a2.toList == ([] : List UInt8)) = false := beq_eq_false_iff_ne.mpr c28
       have c28b1 : (a2.toList != ([] : List UInt8)) = true := bne_iff_ne.mpr c28
       (first | rw [c28b0] | (simp only [i64_w, i32_w]; rw [c28b0]) | skip)
       replace H := Option.bind_eq_some_iff.mp H
       obtain ⟨t14, A290, H⟩ := H
       replace H : (r10_Create.j1 kj4 l0 a1 a2 (decide (t14 < 0)) a3_0 a3_1 a3_2) = some (r1, r2) := H
       have A29 := Aside0.mk A290
       clear A290
       have H' := Aside0.mk H
       clear H
       go_wp2_with (first | (go_at_call 50; (with_reducible refine (r10_Find.calls kj4 _ _ l0 a2 t14 _ ?side1 ?side2 A29.out).mono ?_); (case side1 => repeat (first | exact (Kd.C_below HR0.out HB.out) | (with_reducible refine Kd.C_alloc ?_ _) | (with_reducible refine Kd.C_drewN ?_ _) | (with_reducible refine Kd.C_drew ?_))); (case side2 => exact HC0.out); rintro e w' ⟨rfl, ⟨nd, rfl⟩⟩))
       go_meet
       case rel => exact ⟨_, (decide (t14 < 0)), (by first | rfl | (simp; done) | (simp [*]; done)), H', ⟨by have := HJ4.out; first | omega | exact Nat.le_refl _⟩, ⟨by (with_reducible repeat (first | refine blk_drewN ?_ _ | refine blk_drew ?_ | refine blk_alloc ?_ _)); exact BK1.out⟩, ⟨by (with_reducible repeat (first | refine blk_drewN ?_ _ | refine blk_drew ?_ | refine blk_alloc ?_ _)); exact BK2.out⟩, ⟨by repeat (first | (with_reducible first | exact HB.out | apply below_alloc | apply pw_below_drewN | apply below_drew1 | refine below_set ?_ GE1.out | refine below_set ?_ GE2.out) | exact HB.out)⟩⟩
     case rest =>
      clear HC27
      try clear c1
      try clear c2
      try clear p2
      try clear c5
      try clear c8
      try clear c9
      try clear c10
      try clear c11
      try clear c14
      try clear c18
      try clear c21
      try clear c21b0
      try clear c25
      try clear c28
      try clear c28b0
      try clear c28b1
      try clear hcz12_0
      try clear hcz12_1
      try clear hcz12_2
      try clear hcz19_0
      try clear hcz19_1
      try clear hcz26_0
      try clear hcz26_1
      try clear hfz12_0
      try clear hfz12_1
      try clear hfz12_2
      try clear hfz19_0
      try clear hfz19_1
      try clear hfz26_0
      try clear hfz26_1
      try clear p2
      obtain ⟨kq, x27_26, rfl, HA, HJ26, BK1, BK2, HB⟩ := hcut
      cases kq with
      | zero => exact absurd HA.out (by simp [r10_Create.j1])
      | succ kj26 =>
       have H := HA.out
       clear HA
       simp only [r10_Create.j1] at H
       by_cases c30 : x27_26 = true
       ·subst c30
        have H1 : ((r10_no.f 2).bind fun bt15 => (some (bt15.1, bt15.2))) = some (r1, r2) := by rw [if_pos rfl] at H; exact H
        clear H
        have H := H1
        clear H1
        replace H := Option.bind_eq_some_iff.mp H
        obtain ⟨⟨t15, t18⟩, A310, H⟩ := H
        replace H : (some (t15, t18)) = some (r1, r2) := H
        have A31 := Aside0.mk A310
        clear A310
        simp only [Option.some.injEq, Prod.mk.injEq] at H
        obtain ⟨rfl, rfl⟩ := H
        go_wp2_with (first | ((with_reducible refine gate_callee (f := 113) rfl ?_); refine goesL_ (some 36) rfl rfl Try.func113 (by kernel_rfl) rfl #[.int .i64 2] rfl (by (try simp only [List.map_toArray, List.map_cons, List.map_nil]); first | done | rfl | (simp only [List.length_drop, List.length_take]; rfl)) ?_; (with_reducible refine (r10_no.calls 2 t15 t18 _ A31.out).mono ?_); rintro e w32 ⟨v16, rfl, ho0, hb⟩; refine ⟨_, rfl, ?_⟩; have n0_ := Aside0.mk (Kd.R_lower ho0 (below_size (by repeat (first | (with_reducible first | exact HB.out | apply below_alloc | apply pw_below_drewN | apply below_drew1 | refine below_set ?_ GE1.out | refine below_set ?_ GE2.out) | exact HB.out)))); have n1_ := Aside0.mk (blk_below (g := gb1) (o := .cells #[.int .i64 a3_0, .int .i64 a3_1, .int .i64 a3_2] 27 (0, 0)) (by (with_reducible repeat (first | refine blk_drewN ?_ _ | refine blk_drew ?_ | refine blk_alloc ?_ _)); exact BK1.out) hb); have n2_ := Aside0.mk (blk_below (g := gb2) (o := .cells #[.slice none 0 0, .int .i64 0] 67 (0, 0)) (by (with_reducible repeat (first | refine blk_drewN ?_ _ | refine blk_drew ?_ | refine blk_alloc ?_ _)); exact BK2.out) hb); have n3_ := Aside0.mk (below_step (by repeat (first | (with_reducible first | exact HB.out | apply below_alloc | apply pw_below_drewN | apply below_drew1 | refine below_set ?_ GE1.out | refine below_set ?_ GE2.out) | exact HB.out)) hb); clear BK1; clear BK2; clear HB; have HO17 := n0_; have BK1 := n1_; have BK2 := n2_; have HB := n3_; clear n0_ n1_ n2_ n3_; (try clear hb); (try clear hb2); (try clear hk); (try clear hi); (try clear ho0); obtain ⟨Ao33, co33, eo33⟩ := Kd.R_slice HO17.out; subst eo33; have hnb34 := NB2_1.out; have hnc34 := NB1_2.out; have hcz35_0 : w32.cell? ⟨gb2, 0, none⟩ = some (.slice none 0 0) := (blk_cell BK2.out 0).trans rfl; have hcz35_1 : w32.cell? ⟨gb2, 1, none⟩ = some (.int .i64 0) := (blk_cell BK2.out 1).trans rfl; have hfz35_0 := blk_frozen BK2.out 0; have hfz35_1 := blk_frozen BK2.out 1))
        refine bodyPost_ret (results_cell_row rfl _ _ gb2 67 #[.slice Ao33 t15.length co33, .int .i64 t18] (0, 0) _ rfl (by (with_reducible repeat (first | refine blk_drewN ?_ _ | refine blk_drew ?_ | refine blk_alloc ?_ _)); refine blk_put (cs := #[.slice Ao33 t15.length co33, .int .i64 0]) ?_ 1 _ rfl; (with_reducible repeat (first | refine blk_drewN ?_ _ | refine blk_drew ?_ | refine blk_alloc ?_ _)); refine blk_put (cs := #[.slice none 0 0, .int .i64 0]) ?_ 0 _ rfl; (with_reducible repeat (first | refine blk_drewN ?_ _ | refine blk_drew ?_ | refine blk_alloc ?_ _)); exact BK2.out) Try.underlying67 rfl (by kernel_rfl)) rfl ?_
        exact ⟨_, by first | rfl | (simp [errW_none, errW_some] <;> rfl) | (simp [*, errW_none, errW_some] <;> rfl), by (with_reducible repeat (first | apply Kd.R_alloc | apply Kd.R_drewN | apply Kd.R_drew)); exact Kd.R_mono (Kd.R_far (p := ⟨gb2, 1, none⟩) (Kd.R_far (p := ⟨gb2, 0, none⟩) (Kd.R_types HO17.out BK2.out (by decide)) (fun _ hk => hk.2) (.slice Ao33 t15.length co33)) (fun _ hk => hk.2) (.int .i64 t18)) (fun _ hk => trivial), by repeat (first | (with_reducible first | exact HB.out | apply below_alloc | apply pw_below_drewN | apply below_drew1 | refine below_set ?_ GE1.out | refine below_set ?_ GE2.out) | exact HB.out)⟩
       ·replace c30 := Bool.eq_false_iff.mpr c30
        subst c30
        have H1 : (if (l0.length : Int) ≥ 120 then ((r10_no.f 4).bind fun bt19 => (some (bt19.1, bt19.2))) else (r10_Create.l0 kj26 l0 a1 a2 0 a3_0 a3_1 a3_2)) = some (r1, r2) := by rw [if_neg (show ¬ (false = true) by decide)] at H; exact H
        clear H
        have H := H1
        clear H1
        by_cases c36 : (l0.length : Int) ≥ 120
        ·rw [if_pos c36] at H
         have c36b0 : decide (120 ≤ (l0.length : Int)) = true := decide_eq_true c36
         have c36b1 : decide (120 ≤ l0.length) = true := decide_eq_true (by omega)
         clear c36
         replace H := Option.bind_eq_some_iff.mp H
         obtain ⟨⟨t19, t22⟩, A370, H⟩ := H
         replace H : (some (t19, t22)) = some (r1, r2) := H
         have A37 := Aside0.mk A370
         clear A370
         simp only [Option.some.injEq, Prod.mk.injEq] at H
         obtain ⟨rfl, rfl⟩ := H
         go_wp2_with (first | ((with_reducible refine gate_callee (f := 113) rfl ?_); refine goesL_ (some 41) rfl rfl Try.func113 (by kernel_rfl) rfl #[.int .i64 4] rfl (by (try simp only [List.map_toArray, List.map_cons, List.map_nil]); first | done | rfl | (simp only [List.length_drop, List.length_take]; rfl)) ?_; (with_reducible refine (r10_no.calls 4 t19 t22 _ A37.out).mono ?_); rintro e w38 ⟨v20, rfl, ho0, hb⟩; refine ⟨_, rfl, ?_⟩; have n0_ := Aside0.mk (Kd.R_lower ho0 (below_size (by repeat (first | (with_reducible first | exact HB.out | apply below_alloc | apply pw_below_drewN | apply below_drew1 | refine below_set ?_ GE1.out | refine below_set ?_ GE2.out) | exact HB.out)))); have n1_ := Aside0.mk (blk_below (g := gb1) (o := .cells #[.int .i64 a3_0, .int .i64 a3_1, .int .i64 a3_2] 27 (0, 0)) (by (with_reducible repeat (first | refine blk_drewN ?_ _ | refine blk_drew ?_ | refine blk_alloc ?_ _)); exact BK1.out) hb); have n2_ := Aside0.mk (blk_below (g := gb2) (o := .cells #[.slice none 0 0, .int .i64 0] 67 (0, 0)) (by (with_reducible repeat (first | refine blk_drewN ?_ _ | refine blk_drew ?_ | refine blk_alloc ?_ _)); exact BK2.out) hb); have n3_ := Aside0.mk (below_step (by repeat (first | (with_reducible first | exact HB.out | apply below_alloc | apply pw_below_drewN | apply below_drew1 | refine below_set ?_ GE1.out | refine below_set ?_ GE2.out) | exact HB.out)) hb); clear BK1; clear BK2; clear HB; have HO21 := n0_; have BK1 := n1_; have BK2 := n2_; have HB := n3_; clear n0_ n1_ n2_ n3_; (try clear hb); (try clear hb2); (try clear hk); (try clear hi); (try clear ho0); obtain ⟨Ao39, co39, eo39⟩ := Kd.R_slice HO21.out; subst eo39; have hnb40 := NB2_1.out; have hnc40 := NB1_2.out; have hcz41_0 : w38.cell? ⟨gb2, 0, none⟩ = some (.slice none 0 0) := (blk_cell BK2.out 0).trans rfl; have hcz41_1 : w38.cell? ⟨gb2, 1, none⟩ = some (.int .i64 0) := (blk_cell BK2.out 1).trans rfl; have hfz41_0 := blk_frozen BK2.out 0; have hfz41_1 := blk_frozen BK2.out 1))
         refine bodyPost_ret (results_cell_row rfl _ _ gb2 67 #[.slice Ao39 t19.length co39, .int .i64 t22] (0, 0) _ rfl (by (with_reducible repeat (first | refine blk_drewN ?_ _ | refine blk_drew ?_ | refine blk_alloc ?_ _)); refine blk_put (cs := #[.slice Ao39 t19.length co39, .int .i64 0]) ?_ 1 _ rfl; (with_reducible repeat (first | refine blk_drewN ?_ _ | refine blk_drew ?_ | refine blk_alloc ?_ _)); refine blk_put (cs := #[.slice none 0 0, .int .i64 0]) ?_ 0 _ rfl; (with_reducible repeat (first | refine blk_drewN ?_ _ | refine blk_drew ?_ | refine blk_alloc ?_ _)); exact BK2.out) Try.underlying67 rfl (by kernel_rfl)) rfl ?_
         exact ⟨_, by first | rfl | (simp [errW_none, errW_some] <;> rfl) | (simp [*, errW_none, errW_some] <;> rfl), by (with_reducible repeat (first | apply Kd.R_alloc | apply Kd.R_drewN | apply Kd.R_drew)); exact Kd.R_mono (Kd.R_far (p := ⟨gb2, 1, none⟩) (Kd.R_far (p := ⟨gb2, 0, none⟩) (Kd.R_types HO21.out BK2.out (by decide)) (fun _ hk => hk.2) (.slice Ao39 t19.length co39)) (fun _ hk => hk.2) (.int .i64 t22)) (fun _ hk => trivial), by repeat (first | (with_reducible first | exact HB.out | apply below_alloc | apply pw_below_drewN | apply below_drew1 | refine below_set ?_ GE1.out | refine below_set ?_ GE2.out) | exact HB.out)⟩
        ·rw [if_neg c36] at H
         have c36b0 : decide (120 ≤ (l0.length : Int)) = false := decide_eq_false c36
         have c36b1 : decide (120 ≤ l0.length) = false := decide_eq_false (by omega)
         clear c36
         have H' := Aside0.mk H
         clear H
         go_wp2
         go_loopg [9] kj26 (fun kq v9 w' => ∃ (x9_3 : Int), v9 = .int .i64 x9_3 ∧ Aside0 (r10_Create.l0 kq l0 a1 a2 x9_3 a3_0 a3_1 a3_2 = some (r1, r2)) ∧ Aside0 (kq ≤ kj26) ∧ Aside0 (w'.heap[gb1]? = some (.cells #[.int .i64 a3_0, .int .i64 a3_1, .int .i64 a3_2] 27 (0, 0))) ∧ Aside0 (w'.heap[gb2]? = some (.cells #[(.slice none 0 0), .int .i64 0] 67 (0, 0))) ∧ Aside0 (Below w.heap.size w w'))
         case atStart => exact ⟨(0), (by first | rfl | (simp; done) | (simp [*]; done)), H', ⟨Nat.le_refl _⟩, ⟨by (with_reducible repeat (first | refine blk_drewN ?_ _ | refine blk_drew ?_ | refine blk_alloc ?_ _)); exact BK1.out⟩, ⟨by (with_reducible repeat (first | refine blk_drewN ?_ _ | refine blk_drew ?_ | refine blk_alloc ?_ _)); exact BK2.out⟩, ⟨by repeat (first | (with_reducible first | exact HB.out | apply below_alloc | apply pw_below_drewN | apply below_drew1 | refine below_set ?_ GE1.out | refine below_set ?_ GE2.out) | exact HB.out)⟩⟩
         case round =>
          clear H'
          try clear c1
          try clear c2
          try clear p2
          try clear c3
          try clear c4
          try clear c5
          try clear c8
          try clear c9
          try clear c10
          try clear c11
          try clear c14
          try clear c18
          try clear c21
          try clear c21b0
          try clear c25
          try clear c28
          try clear c28b0
          try clear c28b1
          try clear c30
          try clear c34
          try clear c36
          try clear c36b0
          try clear c36b1
          try clear c40
          try clear hcz12_0
          try clear hcz12_1
          try clear hcz12_2
          try clear hcz19_0
          try clear hcz19_1
          try clear hcz26_0
          try clear hcz26_1
          try clear hcz35_0
          try clear hcz35_1
          try clear hcz41_0
          try clear hcz41_1
          try clear hfz12_0
          try clear hfz12_1
          try clear hfz12_2
          try clear hfz19_0
          try clear hfz19_1
          try clear hfz26_0
          try clear hfz26_1
          try clear hfz35_0
          try clear hfz35_1
          try clear hfz41_0
          try clear hfz41_1
          try clear p2
          obtain ⟨x9_3, rfl, HA, HK3, BK1, BK2, HB⟩ := hrel
          cases gk with
          | zero => exact absurd HA.out (by simp [r10_Create.l0])
          | succ k3 =>
           have H := HA.out
           clear HA
           simp only [r10_Create.l0] at H
           by_cases c42 : x9_3 < (l0.length : Int)
           ·rw [if_pos c42] at H
            have c42b0 : decide (x9_3 < (l0.length : Int)) = true := decide_eq_true c42
            clear c42
            by_cases c43 : 0 ≤ x9_3
            ·rw [if_pos c43] at H
             have c43b0 : decide (0 ≤ x9_3) = true := decide_eq_true c43
             clear c43
             by_cases c44 : (Op.bytesLess (((rd_T31 l0 x9_3).f0).toList) a1.toList) = true
             ·rw [if_pos c44] at H
              have c44b0 : (Op.bytesLess (((rd_T31 l0 x9_3).f0).toList) a1.toList) = true := c44
              clear c44
              have H' := Aside0.mk H
              clear H
              have p23 : 0 ≤ (x9_3 : Int) := of_decide_eq_true (by first | (with_reducible assumption) | assumption)
              have q23 : x9_3 < (l0.length : Int) := of_decide_eq_true (by first | (with_reducible assumption) | assumption)
              obtain ⟨ad23, e23, hx23_0, hx23_1, hx23_2, hx23_3, hx23_4, hx23_5, hx23_6, hx23_7, hx23_8, hx23_9, hx23_10, hx23_11⟩ := at_T31 HR0.out x9_3 p23 q23
              cases e23
              replace hx23_0 := (HB.out.cell (World.block_lt_of_cell? w _ hx23_0)).trans hx23_0
              replace hx23_1 := (HB.out.cell (World.block_lt_of_cell? w _ hx23_1)).trans hx23_1
              replace hx23_2 := (HB.out.cell (World.block_lt_of_cell? w _ hx23_2)).trans hx23_2
              replace hx23_3 := (HB.out.cell (World.block_lt_of_cell? w _ hx23_3)).trans hx23_3
              replace hx23_4 := (HB.out.cell (World.block_lt_of_cell? w _ hx23_4)).trans hx23_4
              replace hx23_5 := (HB.out.cell (World.block_lt_of_cell? w _ hx23_5)).trans hx23_5
              replace hx23_6 := (HB.out.cell (World.block_lt_of_cell? w _ hx23_6)).trans hx23_6
              replace hx23_7 := (HB.out.cell (World.block_lt_of_cell? w _ hx23_7)).trans hx23_7
              replace hx23_8 := (HB.out.cell (World.block_lt_of_cell? w _ hx23_8)).trans hx23_8
              replace hx23_9 := (HB.out.cell (World.block_lt_of_cell? w _ hx23_9)).trans hx23_9
              replace hx23_10 := (HB.out.cell (World.block_lt_of_cell? w _ hx23_10)).trans hx23_10
              replace hx23_11 := (HB.out.cell (World.block_lt_of_cell? w _ hx23_11)).trans hx23_11
              replace p23 := eq_true p23
              replace q23 := eq_true q23
              go_wp2
              go_roundg k3
              case measure => have := HJ4.out; have := HJ26.out; have := HK3.out; omega
              case rel => exact ⟨(wrap64 (x9_3 + 1)), (by first | rfl | (simp; done) | (simp [*]; done)), H', ⟨by have := HJ4.out; have := HJ26.out; have := HK3.out; omega⟩, ⟨by (with_reducible repeat (first | refine blk_drewN ?_ _ | refine blk_drew ?_ | refine blk_alloc ?_ _)); exact BK1.out⟩, ⟨by (with_reducible repeat (first | refine blk_drewN ?_ _ | refine blk_drew ?_ | refine blk_alloc ?_ _)); exact BK2.out⟩, ⟨by repeat (first | (with_reducible first | exact HB.out | apply below_alloc | apply pw_below_drewN | apply below_drew1 | refine below_set ?_ GE1.out | refine below_set ?_ GE2.out) | exact HB.out)⟩⟩
             ·rw [if_neg c44] at H
              have c44b0 : (Op.bytesLess (((rd_T31 l0 x9_3).f0).toList) a1.toList) = false := by simpa using c44
              clear c44
              have c45b0 := eq_true (of_decide_eq_true (by first | (with_reducible assumption) | assumption) : 0 ≤ x9_3)
              by_cases c46 : x9_3 ≤ (l0.length : Int)
              ·rw [if_pos c46] at H
               have c46b0 := eq_true c46
               have c46b1 : decide (x9_3 ≤ (l0.length : Int)) = true := decide_eq_true c46
               clear c46
               obtain ⟨y24, hy24⟩ : ∃ y_ : List (S31), y_ = (l0.take (x9_3 : Int).toNat) := ⟨_, rfl⟩
               replace H : ((r10_copied.f y24).bind fun t28 => (if t28.length < 1256584717458 then ((some (t28 ++ [(⟨a1, a2, (⟨a3_0, a3_1, a3_2⟩ : S27), (⟨0, 0, 0⟩ : S27), (⟨0, 0, 0⟩ : S27), 1⟩ : S31)] : List (S31))).bind fun y31 => ((some (l0.drop (x9_3 : Int).toNat : List (S31))).bind fun y34 => (if y31.length + y34.length < 1256584717458 then (some ((y31 ++ y34), 0)) else (none)))) else (none))) = some (r1, r2) := by first | (rw [hy24]; with_reducible exact H) | (have H2_ := (Option.bind_some _ _).symm.trans H; rw [hy24]; with_reducible exact H2_) | (have H2_ := (Option.bind_some _ _).symm.trans H; with_reducible exact H2_) | with_reducible exact H | (rw [hy24]; exact H) | exact H
               have Ny24 := Aside0.mk hy24
               clear hy24
               replace H := Option.bind_eq_some_iff.mp H
               obtain ⟨t28, A470, H⟩ := H
               replace H : (if t28.length < 1256584717458 then ((some (t28 ++ [(⟨a1, a2, (⟨a3_0, a3_1, a3_2⟩ : S27), (⟨0, 0, 0⟩ : S27), (⟨0, 0, 0⟩ : S27), 1⟩ : S31)] : List (S31))).bind fun y31 => ((some (l0.drop (x9_3 : Int).toNat : List (S31))).bind fun y34 => (if y31.length + y34.length < 1256584717458 then (some ((y31 ++ y34), 0)) else (none)))) else (none)) = some (r1, r2) := H
               have A47 := Aside0.mk A470
               clear A470
               by_cases c48 : t28.length < 1256584717458
               ·rw [if_pos c48] at H
                have LMc48 := Aside0.mk c48
                clear c48
                obtain ⟨y31, hy31⟩ : ∃ y_ : List (S31), y_ = (t28 ++ [(⟨a1, a2, (⟨a3_0, a3_1, a3_2⟩ : S27), (⟨0, 0, 0⟩ : S27), (⟨0, 0, 0⟩ : S27), 1⟩ : S31)]) := ⟨_, rfl⟩
                replace H : ((some (l0.drop (x9_3 : Int).toNat : List (S31))).bind fun y34 => (if y31.length + y34.length < 1256584717458 then (some ((y31 ++ y34), 0)) else (none))) = some (r1, r2) := by first | (rw [hy31]; with_reducible exact H) | (have H2_ := (Option.bind_some _ _).symm.trans H; rw [hy31]; with_reducible exact H2_) | (have H2_ := (Option.bind_some _ _).symm.trans H; with_reducible exact H2_) | with_reducible exact H | (rw [hy31]; exact H) | exact H
                have Ny31 := Aside0.mk hy31
                clear hy31
                have c49b0 := eq_true (of_decide_eq_true (by first | (with_reducible assumption) | assumption) : 0 ≤ x9_3)
                have c50b0 := eq_true (of_decide_eq_true (by first | (with_reducible assumption) | assumption) : x9_3 ≤ (l0.length : Int))
                obtain ⟨y34, hy34⟩ : ∃ y_ : List (S31), y_ = (l0.drop (x9_3 : Int).toNat) := ⟨_, rfl⟩
                replace H : (if y31.length + y34.length < 1256584717458 then (some ((y31 ++ y34), 0)) else (none)) = some (r1, r2) := by first | (rw [hy34]; with_reducible exact H) | (have H2_ := (Option.bind_some _ _).symm.trans H; rw [hy34]; with_reducible exact H2_) | (have H2_ := (Option.bind_some _ _).symm.trans H; with_reducible exact H2_) | with_reducible exact H | (rw [hy34]; exact H) | exact H
                have Ny34 := Aside0.mk hy34
                clear hy34
                by_cases c51 : y31.length + y34.length < 1256584717458
                ·rw [if_pos c51] at H
                 have LMc51 := Aside0.mk c51
                 clear c51
                 obtain ⟨y38, hy38⟩ : ∃ y_ : List (S31), y_ = (y31 ++ y34) := ⟨_, rfl⟩
                 replace H : (some (y38, 0)) = some (r1, r2) := by first | (rw [hy38]; with_reducible exact H) | (have H2_ := (Option.bind_some _ _).symm.trans H; rw [hy38]; with_reducible exact H2_) | (have H2_ := (Option.bind_some _ _).symm.trans H; with_reducible exact H2_) | with_reducible exact H | (rw [hy38]; exact H) | exact H
                 have Ny38 := Aside0.mk hy38
                 clear hy38
                 simp only [Option.some.injEq, Prod.mk.injEq] at H
                 obtain ⟨rfl, rfl⟩ := H
                 have p23 : 0 ≤ (x9_3 : Int) := of_decide_eq_true (by first | (with_reducible assumption) | assumption)
                 have q23 : x9_3 < (l0.length : Int) := of_decide_eq_true (by first | (with_reducible assumption) | assumption)
                 obtain ⟨ad23, e23, hx23_0, hx23_1, hx23_2, hx23_3, hx23_4, hx23_5, hx23_6, hx23_7, hx23_8, hx23_9, hx23_10, hx23_11⟩ := at_T31 HR0.out x9_3 p23 q23
                 cases e23
                 replace hx23_0 := (HB.out.cell (World.block_lt_of_cell? w _ hx23_0)).trans hx23_0
                 replace hx23_1 := (HB.out.cell (World.block_lt_of_cell? w _ hx23_1)).trans hx23_1
                 replace hx23_2 := (HB.out.cell (World.block_lt_of_cell? w _ hx23_2)).trans hx23_2
                 replace hx23_3 := (HB.out.cell (World.block_lt_of_cell? w _ hx23_3)).trans hx23_3
                 replace hx23_4 := (HB.out.cell (World.block_lt_of_cell? w _ hx23_4)).trans hx23_4
                 replace hx23_5 := (HB.out.cell (World.block_lt_of_cell? w _ hx23_5)).trans hx23_5
                 replace hx23_6 := (HB.out.cell (World.block_lt_of_cell? w _ hx23_6)).trans hx23_6
                 replace hx23_7 := (HB.out.cell (World.block_lt_of_cell? w _ hx23_7)).trans hx23_7
                 replace hx23_8 := (HB.out.cell (World.block_lt_of_cell? w _ hx23_8)).trans hx23_8
                 replace hx23_9 := (HB.out.cell (World.block_lt_of_cell? w _ hx23_9)).trans hx23_9
                 replace hx23_10 := (HB.out.cell (World.block_lt_of_cell? w _ hx23_10)).trans hx23_10
                 replace hx23_11 := (HB.out.cell (World.block_lt_of_cell? w _ hx23_11)).trans hx23_11
                 replace p23 := eq_true p23
                 replace q23 := eq_true q23
                 have q52 : (x9_3 : Int) ≤ ((l0.length : Int) : Int) := of_decide_eq_true (by first | (with_reducible assumption) | assumption)
                 obtain ⟨i052, hi052, _, hsz52, _⟩ := info_parts info31
                 have hroom52 : l0.length ≤ c0 := HC0.out
                 have hC52 : Kd.C k31 _ (some ad23) l0.length l0 := HR0.out
                 have hcut52 := cut_to (P := Try.prog) 24 31 .i64 Try.underlying24 hi052 (some ad23) l0.length c0 x9_3 (of_decide_eq_true (by first | (with_reducible assumption) | assumption)) q52 hroom52
                 have hr52 := Kd.C_take (m := (x9_3 : Int).toNat) hC52 (by omega)
                 have hy52 : y24.length = (x9_3 : Int).toNat := (by rw [Ny24.out, List.length_take]; omega)
                 rw [← Ny24.out] at hr52
                 rw [← hy52] at hcut52
                 have HR27 := Aside0.mk hr52
                 have HC27 := Aside0.mk (show y24.length ≤ c0 from by omega)
                 clear hr52 hC52 hroom52 hi052 hsz52
                 have KY52 := Aside0.mk hy52
                 clear hy52
                 replace q52 := eq_true q52
                 go_wp2_with (first | ((with_reducible refine gate_callee (f := 124) rfl ?_); refine goesL_ (some 60) rfl rfl Try.func124 (by kernel_rfl) rfl #[.slice (some ad23) y24.length c0] rfl (by (try simp only [List.map_toArray, List.map_cons, List.map_nil]); first | done | rfl | (simp only [List.length_drop, List.length_take]; rfl)) ?_; (with_reducible refine (r10_copied.calls _ _ y24 t28 _ ?side1 ?side2 A47.out).mono ?_); (case side1 => repeat (first | exact (Kd.C_below HR27.out HB.out) | (with_reducible refine Kd.C_alloc ?_ _) | (with_reducible refine Kd.C_drewN ?_ _) | (with_reducible refine Kd.C_drew ?_))); (case side2 => exact HC27.out); rintro e w53 ⟨v29, rfl, ho0, hb⟩; refine ⟨_, rfl, ?_⟩; have n0_ := Aside0.mk (Kd.R_lower ho0 (below_size (by repeat (first | (with_reducible first | exact HB.out | apply below_alloc | apply pw_below_drewN | apply below_drew1 | refine below_set ?_ GE1.out | refine below_set ?_ GE2.out) | exact HB.out)))); have n1_ := Aside0.mk (blk_below (g := gb1) (o := .cells #[.int .i64 a3_0, .int .i64 a3_1, .int .i64 a3_2] 27 (0, 0)) (by (with_reducible repeat (first | refine blk_drewN ?_ _ | refine blk_drew ?_ | refine blk_alloc ?_ _)); exact BK1.out) hb); have n2_ := Aside0.mk (blk_below (g := gb2) (o := .cells #[.slice none 0 0, .int .i64 0] 67 (0, 0)) (by (with_reducible repeat (first | refine blk_drewN ?_ _ | refine blk_drew ?_ | refine blk_alloc ?_ _)); exact BK2.out) hb); have n3_ := Aside0.mk (below_step (by repeat (first | (with_reducible first | exact HB.out | apply below_alloc | apply pw_below_drewN | apply below_drew1 | refine below_set ?_ GE1.out | refine below_set ?_ GE2.out) | exact HB.out)) hb); clear BK1; clear BK2; clear HB; have HO30 := n0_; have BK1 := n1_; have BK2 := n2_; have HB := n3_; clear n0_ n1_ n2_ n3_; (try clear hb); (try clear hb2); (try clear hk); (try clear hi); (try clear ho0); have hnb54 := NB1_2.out; have hnc54 := NB2_1.out; have hcz55_0 : w53.cell? ⟨gb1, 0, none⟩ = some (.int .i64 a3_0) := (blk_cell BK1.out 0).trans rfl; have hcz55_1 : w53.cell? ⟨gb1, 1, none⟩ = some (.int .i64 a3_1) := (blk_cell BK1.out 1).trans rfl; have hcz55_2 : w53.cell? ⟨gb1, 2, none⟩ = some (.int .i64 a3_2) := (blk_cell BK1.out 2).trans rfl; have hfz55_0 := blk_frozen BK1.out 0; have hfz55_1 := blk_frozen BK1.out 1; have hfz55_2 := blk_frozen BK1.out 2) | ((with_reducible refine gate_builtin (b := .append) (xs := #[.tmp 61, .tmp 66]) rfl ?_); at_builtin; refine Kd.R_append k31 (w0 := w) w.heap.size rfl (.tmp 61) (.tmp 66) 24 31 (.agg #[(.string ⟨#[]⟩), (.string ⟨#[]⟩), (.int .i64 0), (.int .i64 0), (.int .i64 0), (.int .i64 0), (.int .i64 0), (.int .i64 0), (.int .i64 0), (.int .i64 0), (.int .i64 0), (.int .i64 0)]) 112 rfl Try.underlying24 info31 rfl (by decide) (by omega) v29 t28 (⟨a1, a2, (⟨a3_0, a3_1, a3_2⟩ : S27), (⟨0, 0, 0⟩ : S27), (⟨0, 0, 0⟩ : S27), 1⟩ : S31) [.string a1, .string a2, .int .i64 a3_0, .int .i64 a3_1, .int .i64 a3_2, .int .i64 0, .int .i64 0, .int .i64 0, .int .i64 0, .int .i64 0, .int .i64 0, .int .i64 1] (fun _ => True) (fun _ => False) rfl rfl ?aP (fun _ hk => hk.elim) ?aF ?aO ?aB ?aS ?aL ?_; (case aP => exact k31_mkM _ _ _ (⟨a1, a2, (⟨a3_0, a3_1, a3_2⟩ : S27), (⟨0, 0, 0⟩ : S27), (⟨0, 0, 0⟩ : S27), 1⟩ : S31)); (case aB => exact (by repeat (first | (with_reducible first | exact HB.out | apply below_alloc | apply pw_below_drewN | apply below_drew1 | refine below_set ?_ GE1.out | refine below_set ?_ GE2.out) | exact HB.out))); (case aF => exact (fun _ _ => trivial)); (case aO => exact (by (with_reducible repeat (first | apply Kd.R_alloc | apply Kd.R_drewN | apply Kd.R_drew)); exact HO30.out)); (case aS => exact (below_size (by repeat (first | (with_reducible first | exact HB.out | apply below_alloc | apply pw_below_drewN | apply below_drew1 | refine below_set ?_ GE1.out | refine below_set ?_ GE2.out) | exact HB.out)))); (case aL => have := LMc48.out; omega); intro v32 w56 ho hb hg hat; rw [← Ny31.out] at ho; have n0_ := Aside0.mk (blk_grown (g := gb1) (o := .cells #[.int .i64 a3_0, .int .i64 a3_1, .int .i64 a3_2] 27 (0, 0)) (by (with_reducible repeat (first | refine blk_drewN ?_ _ | refine blk_drew ?_ | refine blk_alloc ?_ _)); exact BK1.out) hg (Kd.R_ne HO30.out BK1.out (by decide))); have n1_ := Aside0.mk (blk_grown (g := gb2) (o := .cells #[.slice none 0 0, .int .i64 0] 67 (0, 0)) (by (with_reducible repeat (first | refine blk_drewN ?_ _ | refine blk_drew ?_ | refine blk_alloc ?_ _)); exact BK2.out) hg (Kd.R_ne HO30.out BK2.out (by decide))); have n2_ := Aside0.mk (hb); have n3_ := Aside0.mk (ho); clear BK1; clear BK2; clear HB; clear HO30; have BK1 := n0_; have BK2 := n1_; have HB := n2_; have HO33 := n3_; clear n0_ n1_ n2_ n3_; clear ho hb hg hat; have q57 : (x9_3 : Int) ≤ ((l0.length : Int) : Int) := of_decide_eq_true (by first | (with_reducible assumption) | assumption); obtain ⟨i057, hi057, _, hsz57, _⟩ := info_parts info31; have hroom57 : l0.length ≤ c0 := HC0.out; have hC57 : Kd.C k31 _ (some ad23) l0.length l0 := HR0.out; have q057 : (0 : Int) ≤ (x9_3 : Int) := of_decide_eq_true (by first | (with_reducible assumption) | assumption); have hcut57 := cut_from (P := Try.prog) 24 31 .i64 Try.underlying24 hi057 12 hsz57 (some ad23) l0.length c0 x9_3 q057 q57; have hr57 := Kd.C_drop (m := (x9_3 : Int).toNat) (c := c0) hC57 (by omega) hroom57; obtain ⟨A57, hA57⟩ : ∃ A1, A1 = (if c0 = (x9_3 : Int).toNat then (some ad23) else ((some ad23) : Option Addr).map (·.add ((x9_3 : Int).toNat * 12))) := ⟨_, rfl⟩; obtain ⟨c57, hc57⟩ : ∃ c1, c1 = c0 - (x9_3 : Int).toNat := ⟨_, rfl⟩; have hy57 : y34.length = l0.length - (x9_3 : Int).toNat := (by rw [Ny34.out, List.length_drop] <;> omega); rw [show (l0).drop (x9_3 : Int).toNat = y34 from Ny34.out.symm] at hr57; replace hr57 : Kd.C k31 _ A57 y34.length y34 := (by rw [hA57]; exact hr57); rw [← hy57, ← hA57, ← hc57] at hcut57; have HR37 := Aside0.mk hr57; have HC37 := Aside0.mk (show y34.length ≤ c57 from by rw [hy57, hc57]; exact Nat.sub_le_sub_right hroom57 _); clear hr57 hC57 hroom57 hi057 hsz57 hc57; have KY57 := Aside0.mk hy57; have KA57 := Aside0.mk hA57; clear hy57 hA57; replace q57 := eq_true q57) | ((with_reducible refine gate_builtin (b := .append) (xs := #[.tmp 68, .tmp 71]) rfl ?_); at_builtin; refine Kd.R_append_rows k31 (w0 := w) w.heap.size rfl (.tmp 68) (.tmp 71) 24 31 (.agg #[(.string ⟨#[]⟩), (.string ⟨#[]⟩), (.int .i64 0), (.int .i64 0), (.int .i64 0), (.int .i64 0), (.int .i64 0), (.int .i64 0), (.int .i64 0), (.int .i64 0), (.int .i64 0), (.int .i64 0)]) 112 rfl Try.underlying24 info31 rfl (by decide) (by omega) v32 y31 y34 _ _ _ (fun _ => True) (fun _ => False) rfl rfl ?aO ?aR (fun _ _ h => h) (fun _ h => h.elim) ?aF ?aB ?aS ?aL ?_; (case aR => repeat (first | exact (Kd.C_below HR37.out HB.out) | (with_reducible refine Kd.C_alloc ?_ _) | (with_reducible refine Kd.C_drewN ?_ _) | (with_reducible refine Kd.C_drew ?_))); (case aB => exact (by repeat (first | (with_reducible first | exact HB.out | apply below_alloc | apply pw_below_drewN | apply below_drew1 | refine below_set ?_ GE1.out | refine below_set ?_ GE2.out) | exact HB.out))); (case aF => exact (fun _ _ => trivial)); (case aO => exact (by (with_reducible repeat (first | apply Kd.R_alloc | apply Kd.R_drewN | apply Kd.R_drew)); exact HO33.out)); (case aS => exact (below_size (by repeat (first | (with_reducible first | exact HB.out | apply below_alloc | apply pw_below_drewN | apply below_drew1 | refine below_set ?_ GE1.out | refine below_set ?_ GE2.out) | exact HB.out)))); (case aL => have := LMc51.out; omega); intro v39 w58 ho hb hg hat; rw [← Ny38.out] at ho; have n0_ := Aside0.mk (blk_grown (g := gb1) (o := .cells #[.int .i64 a3_0, .int .i64 a3_1, .int .i64 a3_2] 27 (0, 0)) (by (with_reducible repeat (first | refine blk_drewN ?_ _ | refine blk_drew ?_ | refine blk_alloc ?_ _)); exact BK1.out) hg (Kd.R_ne HO33.out BK1.out (by decide))); have n1_ := Aside0.mk (blk_grown (g := gb2) (o := .cells #[.slice none 0 0, .int .i64 0] 67 (0, 0)) (by (with_reducible repeat (first | refine blk_drewN ?_ _ | refine blk_drew ?_ | refine blk_alloc ?_ _)); exact BK2.out) hg (Kd.R_ne HO33.out BK2.out (by decide))); have n2_ := Aside0.mk (hb); have n3_ := Aside0.mk (ho); clear BK1; clear BK2; clear HB; clear HO33; have BK1 := n0_; have BK2 := n1_; have HB := n2_; have HO40 := n3_; clear n0_ n1_ n2_ n3_; clear ho hb hg hat; obtain ⟨Ao59, co59, eo59⟩ := Kd.R_slice HO40.out; subst eo59; have hcz60_0 : w58.cell? ⟨gb2, 0, none⟩ = some (.slice none 0 0) := (blk_cell BK2.out 0).trans rfl; have hcz60_1 : w58.cell? ⟨gb2, 1, none⟩ = some (.int .i64 0) := (blk_cell BK2.out 1).trans rfl; have hfz60_0 := blk_frozen BK2.out 0; have hfz60_1 := blk_frozen BK2.out 1))
                 refine bodyPost_ret (results_cell_row rfl _ _ gb2 67 #[.slice Ao59 y38.length co59, .int .i64 0] (0, 0) _ rfl (by (with_reducible repeat (first | refine blk_drewN ?_ _ | refine blk_drew ?_ | refine blk_alloc ?_ _)); refine blk_put (cs := #[.slice Ao59 y38.length co59, .int .i64 0]) ?_ 1 _ rfl; (with_reducible repeat (first | refine blk_drewN ?_ _ | refine blk_drew ?_ | refine blk_alloc ?_ _)); refine blk_put (cs := #[.slice none 0 0, .int .i64 0]) ?_ 0 _ rfl; (with_reducible repeat (first | refine blk_drewN ?_ _ | refine blk_drew ?_ | refine blk_alloc ?_ _)); exact BK2.out) Try.underlying67 rfl (by kernel_rfl)) rfl ?_
                 exact ⟨_, by first | rfl | (simp [errW_none, errW_some] <;> rfl) | (simp [*, errW_none, errW_some] <;> rfl), by (with_reducible repeat (first | apply Kd.R_alloc | apply Kd.R_drewN | apply Kd.R_drew)); exact Kd.R_mono (Kd.R_far (p := ⟨gb2, 1, none⟩) (Kd.R_far (p := ⟨gb2, 0, none⟩) (Kd.R_types HO40.out BK2.out (by decide)) (fun _ hk => hk.2) (.slice Ao59 y38.length co59)) (fun _ hk => hk.2) (.int .i64 0)) (fun _ hk => trivial), by repeat (first | (with_reducible first | exact HB.out | apply below_alloc | apply pw_below_drewN | apply below_drew1 | refine below_set ?_ GE1.out | refine below_set ?_ GE2.out) | exact HB.out)⟩
                ·rw [if_neg c51] at H
                 exact absurd H (by simp)
               ·rw [if_neg c48] at H
                exact absurd H (by simp)
              ·rw [if_neg c46] at H
               exact absurd H (by simp)
            ·rw [if_neg c43] at H
             exact absurd H (by simp)
           ·rw [if_neg c42] at H
            have c42b0 : decide (x9_3 < (l0.length : Int)) = false := decide_eq_false c42
            clear c42
            by_cases c61 : 0 ≤ x9_3
            ·rw [if_pos c61] at H
             have c61b0 := eq_true c61
             have c61b1 : decide (0 ≤ x9_3) = true := decide_eq_true c61
             clear c61
             by_cases c62 : x9_3 ≤ (l0.length : Int)
             ·rw [if_pos c62] at H
              have c62b0 := eq_true c62
              have c62b1 : decide (x9_3 ≤ (l0.length : Int)) = true := decide_eq_true c62
              clear c62
              obtain ⟨y41, hy41⟩ : ∃ y_ : List (S31), y_ = (l0.take (x9_3 : Int).toNat) := ⟨_, rfl⟩
              replace H : ((r10_copied.f y41).bind fun t45 => (if t45.length < 1256584717458 then ((some (t45 ++ [(⟨a1, a2, (⟨a3_0, a3_1, a3_2⟩ : S27), (⟨0, 0, 0⟩ : S27), (⟨0, 0, 0⟩ : S27), 1⟩ : S31)] : List (S31))).bind fun y48 => ((some (l0.drop (x9_3 : Int).toNat : List (S31))).bind fun y51 => (if y48.length + y51.length < 1256584717458 then (some ((y48 ++ y51), 0)) else (none)))) else (none))) = some (r1, r2) := by first | (rw [hy41]; with_reducible exact H) | (have H2_ := (Option.bind_some _ _).symm.trans H; rw [hy41]; with_reducible exact H2_) | (have H2_ := (Option.bind_some _ _).symm.trans H; with_reducible exact H2_) | with_reducible exact H | (rw [hy41]; exact H) | exact H
              have Ny41 := Aside0.mk hy41
              clear hy41
              replace H := Option.bind_eq_some_iff.mp H
              obtain ⟨t45, A630, H⟩ := H
              replace H : (if t45.length < 1256584717458 then ((some (t45 ++ [(⟨a1, a2, (⟨a3_0, a3_1, a3_2⟩ : S27), (⟨0, 0, 0⟩ : S27), (⟨0, 0, 0⟩ : S27), 1⟩ : S31)] : List (S31))).bind fun y48 => ((some (l0.drop (x9_3 : Int).toNat : List (S31))).bind fun y51 => (if y48.length + y51.length < 1256584717458 then (some ((y48 ++ y51), 0)) else (none)))) else (none)) = some (r1, r2) := H
              have A63 := Aside0.mk A630
              clear A630
              by_cases c64 : t45.length < 1256584717458
              ·rw [if_pos c64] at H
               have LMc64 := Aside0.mk c64
               clear c64
               obtain ⟨y48, hy48⟩ : ∃ y_ : List (S31), y_ = (t45 ++ [(⟨a1, a2, (⟨a3_0, a3_1, a3_2⟩ : S27), (⟨0, 0, 0⟩ : S27), (⟨0, 0, 0⟩ : S27), 1⟩ : S31)]) := ⟨_, rfl⟩
               replace H : ((some (l0.drop (x9_3 : Int).toNat : List (S31))).bind fun y51 => (if y48.length + y51.length < 1256584717458 then (some ((y48 ++ y51), 0)) else (none))) = some (r1, r2) := by first | (rw [hy48]; with_reducible exact H) | (have H2_ := (Option.bind_some _ _).symm.trans H; rw [hy48]; with_reducible exact H2_) | (have H2_ := (Option.bind_some _ _).symm.trans H; with_reducible exact H2_) | with_reducible exact H | (rw [hy48]; exact H) | exact H
               have Ny48 := Aside0.mk hy48
               clear hy48
               have c65b0 := eq_true (of_decide_eq_true (by first | (with_reducible assumption) | assumption) : 0 ≤ x9_3)
               have c66b0 := eq_true (of_decide_eq_true (by first | (with_reducible assumption) | assumption) : x9_3 ≤ (l0.length : Int))
               obtain ⟨y51, hy51⟩ : ∃ y_ : List (S31), y_ = (l0.drop (x9_3 : Int).toNat) := ⟨_, rfl⟩
               replace H : (if y48.length + y51.length < 1256584717458 then (some ((y48 ++ y51), 0)) else (none)) = some (r1, r2) := by first | (rw [hy51]; with_reducible exact H) | (have H2_ := (Option.bind_some _ _).symm.trans H; rw [hy51]; with_reducible exact H2_) | (have H2_ := (Option.bind_some _ _).symm.trans H; with_reducible exact H2_) | with_reducible exact H | (rw [hy51]; exact H) | exact H
               have Ny51 := Aside0.mk hy51
               clear hy51
               by_cases c67 : y48.length + y51.length < 1256584717458
               ·rw [if_pos c67] at H
                have LMc67 := Aside0.mk c67
                clear c67
                obtain ⟨y55, hy55⟩ : ∃ y_ : List (S31), y_ = (y48 ++ y51) := ⟨_, rfl⟩
                replace H : (some (y55, 0)) = some (r1, r2) := by first | (rw [hy55]; with_reducible exact H) | (have H2_ := (Option.bind_some _ _).symm.trans H; rw [hy55]; with_reducible exact H2_) | (have H2_ := (Option.bind_some _ _).symm.trans H; with_reducible exact H2_) | with_reducible exact H | (rw [hy55]; exact H) | exact H
                have Ny55 := Aside0.mk hy55
                clear hy55
                simp only [Option.some.injEq, Prod.mk.injEq] at H
                obtain ⟨rfl, rfl⟩ := H
                have q68 : (x9_3 : Int) ≤ ((l0.length : Int) : Int) := of_decide_eq_true (by first | (with_reducible assumption) | assumption)
                obtain ⟨i068, hi068, _, hsz68, _⟩ := info_parts info31
                have hroom68 : l0.length ≤ c0 := HC0.out
                have hC68 : Kd.C k31 _ A0 l0.length l0 := HR0.out
                have hcut68 := cut_to (P := Try.prog) 24 31 .i64 Try.underlying24 hi068 A0 l0.length c0 x9_3 (of_decide_eq_true (by first | (with_reducible assumption) | assumption)) q68 hroom68
                have hr68 := Kd.C_take (m := (x9_3 : Int).toNat) hC68 (by omega)
                have hy68 : y41.length = (x9_3 : Int).toNat := (by rw [Ny41.out, List.length_take]; omega)
                rw [← Ny41.out] at hr68
                rw [← hy68] at hcut68
                have HR44 := Aside0.mk hr68
                have HC44 := Aside0.mk (show y41.length ≤ c0 from by omega)
                clear hr68 hC68 hroom68 hi068 hsz68
                have KY68 := Aside0.mk hy68
                clear hy68
                replace q68 := eq_true q68
                go_wp2_with (first | ((with_reducible refine gate_callee (f := 124) rfl ?_); refine goesL_ (some 60) rfl rfl Try.func124 (by kernel_rfl) rfl #[.slice A0 y41.length c0] rfl (by (try simp only [List.map_toArray, List.map_cons, List.map_nil]); first | done | rfl | (simp only [List.length_drop, List.length_take]; rfl)) ?_; (with_reducible refine (r10_copied.calls _ _ y41 t45 _ ?side1 ?side2 A63.out).mono ?_); (case side1 => repeat (first | exact (Kd.C_below HR44.out HB.out) | (with_reducible refine Kd.C_alloc ?_ _) | (with_reducible refine Kd.C_drewN ?_ _) | (with_reducible refine Kd.C_drew ?_))); (case side2 => exact HC44.out); rintro e w69 ⟨v46, rfl, ho0, hb⟩; refine ⟨_, rfl, ?_⟩; have n0_ := Aside0.mk (Kd.R_lower ho0 (below_size (by repeat (first | (with_reducible first | exact HB.out | apply below_alloc | apply pw_below_drewN | apply below_drew1 | refine below_set ?_ GE1.out | refine below_set ?_ GE2.out) | exact HB.out)))); have n1_ := Aside0.mk (blk_below (g := gb1) (o := .cells #[.int .i64 a3_0, .int .i64 a3_1, .int .i64 a3_2] 27 (0, 0)) (by (with_reducible repeat (first | refine blk_drewN ?_ _ | refine blk_drew ?_ | refine blk_alloc ?_ _)); exact BK1.out) hb); have n2_ := Aside0.mk (blk_below (g := gb2) (o := .cells #[.slice none 0 0, .int .i64 0] 67 (0, 0)) (by (with_reducible repeat (first | refine blk_drewN ?_ _ | refine blk_drew ?_ | refine blk_alloc ?_ _)); exact BK2.out) hb); have n3_ := Aside0.mk (below_step (by repeat (first | (with_reducible first | exact HB.out | apply below_alloc | apply pw_below_drewN | apply below_drew1 | refine below_set ?_ GE1.out | refine below_set ?_ GE2.out) | exact HB.out)) hb); clear BK1; clear BK2; clear HB; have HO47 := n0_; have BK1 := n1_; have BK2 := n2_; have HB := n3_; clear n0_ n1_ n2_ n3_; (try clear hb); (try clear hb2); (try clear hk); (try clear hi); (try clear ho0); have hnb70 := NB1_2.out; have hnc70 := NB2_1.out; have hcz71_0 : w69.cell? ⟨gb1, 0, none⟩ = some (.int .i64 a3_0) := (blk_cell BK1.out 0).trans rfl; have hcz71_1 : w69.cell? ⟨gb1, 1, none⟩ = some (.int .i64 a3_1) := (blk_cell BK1.out 1).trans rfl; have hcz71_2 : w69.cell? ⟨gb1, 2, none⟩ = some (.int .i64 a3_2) := (blk_cell BK1.out 2).trans rfl; have hfz71_0 := blk_frozen BK1.out 0; have hfz71_1 := blk_frozen BK1.out 1; have hfz71_2 := blk_frozen BK1.out 2) | ((with_reducible refine gate_builtin (b := .append) (xs := #[.tmp 61, .tmp 66]) rfl ?_); at_builtin; refine Kd.R_append k31 (w0 := w) w.heap.size rfl (.tmp 61) (.tmp 66) 24 31 (.agg #[(.string ⟨#[]⟩), (.string ⟨#[]⟩), (.int .i64 0), (.int .i64 0), (.int .i64 0), (.int .i64 0), (.int .i64 0), (.int .i64 0), (.int .i64 0), (.int .i64 0), (.int .i64 0), (.int .i64 0)]) 112 rfl Try.underlying24 info31 rfl (by decide) (by omega) v46 t45 (⟨a1, a2, (⟨a3_0, a3_1, a3_2⟩ : S27), (⟨0, 0, 0⟩ : S27), (⟨0, 0, 0⟩ : S27), 1⟩ : S31) [.string a1, .string a2, .int .i64 a3_0, .int .i64 a3_1, .int .i64 a3_2, .int .i64 0, .int .i64 0, .int .i64 0, .int .i64 0, .int .i64 0, .int .i64 0, .int .i64 1] (fun _ => True) (fun _ => False) rfl rfl ?aP (fun _ hk => hk.elim) ?aF ?aO ?aB ?aS ?aL ?_; (case aP => exact k31_mkM _ _ _ (⟨a1, a2, (⟨a3_0, a3_1, a3_2⟩ : S27), (⟨0, 0, 0⟩ : S27), (⟨0, 0, 0⟩ : S27), 1⟩ : S31)); (case aB => exact (by repeat (first | (with_reducible first | exact HB.out | apply below_alloc | apply pw_below_drewN | apply below_drew1 | refine below_set ?_ GE1.out | refine below_set ?_ GE2.out) | exact HB.out))); (case aF => exact (fun _ _ => trivial)); (case aO => exact (by (with_reducible repeat (first | apply Kd.R_alloc | apply Kd.R_drewN | apply Kd.R_drew)); exact HO47.out)); (case aS => exact (below_size (by repeat (first | (with_reducible first | exact HB.out | apply below_alloc | apply pw_below_drewN | apply below_drew1 | refine below_set ?_ GE1.out | refine below_set ?_ GE2.out) | exact HB.out)))); (case aL => have := LMc64.out; omega); intro v49 w72 ho hb hg hat; rw [← Ny48.out] at ho; have n0_ := Aside0.mk (blk_grown (g := gb1) (o := .cells #[.int .i64 a3_0, .int .i64 a3_1, .int .i64 a3_2] 27 (0, 0)) (by (with_reducible repeat (first | refine blk_drewN ?_ _ | refine blk_drew ?_ | refine blk_alloc ?_ _)); exact BK1.out) hg (Kd.R_ne HO47.out BK1.out (by decide))); have n1_ := Aside0.mk (blk_grown (g := gb2) (o := .cells #[.slice none 0 0, .int .i64 0] 67 (0, 0)) (by (with_reducible repeat (first | refine blk_drewN ?_ _ | refine blk_drew ?_ | refine blk_alloc ?_ _)); exact BK2.out) hg (Kd.R_ne HO47.out BK2.out (by decide))); have n2_ := Aside0.mk (hb); have n3_ := Aside0.mk (ho); clear BK1; clear BK2; clear HB; clear HO47; have BK1 := n0_; have BK2 := n1_; have HB := n2_; have HO50 := n3_; clear n0_ n1_ n2_ n3_; clear ho hb hg hat; have q73 : (x9_3 : Int) ≤ ((l0.length : Int) : Int) := of_decide_eq_true (by first | (with_reducible assumption) | assumption); obtain ⟨i073, hi073, _, hsz73, _⟩ := info_parts info31; have hroom73 : l0.length ≤ c0 := HC0.out; have hC73 : Kd.C k31 _ A0 l0.length l0 := HR0.out; have q073 : (0 : Int) ≤ (x9_3 : Int) := of_decide_eq_true (by first | (with_reducible assumption) | assumption); have hcut73 := cut_from (P := Try.prog) 24 31 .i64 Try.underlying24 hi073 12 hsz73 A0 l0.length c0 x9_3 q073 q73; have hr73 := Kd.C_drop (m := (x9_3 : Int).toNat) (c := c0) hC73 (by omega) hroom73; obtain ⟨A73, hA73⟩ : ∃ A1, A1 = (if c0 = (x9_3 : Int).toNat then A0 else (A0 : Option Addr).map (·.add ((x9_3 : Int).toNat * 12))) := ⟨_, rfl⟩; obtain ⟨c73, hc73⟩ : ∃ c1, c1 = c0 - (x9_3 : Int).toNat := ⟨_, rfl⟩; have hy73 : y51.length = l0.length - (x9_3 : Int).toNat := (by rw [Ny51.out, List.length_drop] <;> omega); rw [show (l0).drop (x9_3 : Int).toNat = y51 from Ny51.out.symm] at hr73; replace hr73 : Kd.C k31 _ A73 y51.length y51 := (by rw [hA73]; exact hr73); rw [← hy73, ← hA73, ← hc73] at hcut73; have HR54 := Aside0.mk hr73; have HC54 := Aside0.mk (show y51.length ≤ c73 from by rw [hy73, hc73]; exact Nat.sub_le_sub_right hroom73 _); clear hr73 hC73 hroom73 hi073 hsz73 hc73; have KY73 := Aside0.mk hy73; have KA73 := Aside0.mk hA73; clear hy73 hA73; replace q73 := eq_true q73) | ((with_reducible refine gate_builtin (b := .append) (xs := #[.tmp 68, .tmp 71]) rfl ?_); at_builtin; refine Kd.R_append_rows k31 (w0 := w) w.heap.size rfl (.tmp 68) (.tmp 71) 24 31 (.agg #[(.string ⟨#[]⟩), (.string ⟨#[]⟩), (.int .i64 0), (.int .i64 0), (.int .i64 0), (.int .i64 0), (.int .i64 0), (.int .i64 0), (.int .i64 0), (.int .i64 0), (.int .i64 0), (.int .i64 0)]) 112 rfl Try.underlying24 info31 rfl (by decide) (by omega) v49 y48 y51 _ _ _ (fun _ => True) (fun _ => False) rfl rfl ?aO ?aR (fun _ _ h => h) (fun _ h => h.elim) ?aF ?aB ?aS ?aL ?_; (case aR => repeat (first | exact (Kd.C_below HR54.out HB.out) | (with_reducible refine Kd.C_alloc ?_ _) | (with_reducible refine Kd.C_drewN ?_ _) | (with_reducible refine Kd.C_drew ?_))); (case aB => exact (by repeat (first | (with_reducible first | exact HB.out | apply below_alloc | apply pw_below_drewN | apply below_drew1 | refine below_set ?_ GE1.out | refine below_set ?_ GE2.out) | exact HB.out))); (case aF => exact (fun _ _ => trivial)); (case aO => exact (by (with_reducible repeat (first | apply Kd.R_alloc | apply Kd.R_drewN | apply Kd.R_drew)); exact HO50.out)); (case aS => exact (below_size (by repeat (first | (with_reducible first | exact HB.out | apply below_alloc | apply pw_below_drewN | apply below_drew1 | refine below_set ?_ GE1.out | refine below_set ?_ GE2.out) | exact HB.out)))); (case aL => have := LMc67.out; omega); intro v56 w74 ho hb hg hat; rw [← Ny55.out] at ho; have n0_ := Aside0.mk (blk_grown (g := gb1) (o := .cells #[.int .i64 a3_0, .int .i64 a3_1, .int .i64 a3_2] 27 (0, 0)) (by (with_reducible repeat (first | refine blk_drewN ?_ _ | refine blk_drew ?_ | refine blk_alloc ?_ _)); exact BK1.out) hg (Kd.R_ne HO50.out BK1.out (by decide))); have n1_ := Aside0.mk (blk_grown (g := gb2) (o := .cells #[.slice none 0 0, .int .i64 0] 67 (0, 0)) (by (with_reducible repeat (first | refine blk_drewN ?_ _ | refine blk_drew ?_ | refine blk_alloc ?_ _)); exact BK2.out) hg (Kd.R_ne HO50.out BK2.out (by decide))); have n2_ := Aside0.mk (hb); have n3_ := Aside0.mk (ho); clear BK1; clear BK2; clear HB; clear HO50; have BK1 := n0_; have BK2 := n1_; have HB := n2_; have HO57 := n3_; clear n0_ n1_ n2_ n3_; clear ho hb hg hat; obtain ⟨Ao75, co75, eo75⟩ := Kd.R_slice HO57.out; subst eo75; have hcz76_0 : w74.cell? ⟨gb2, 0, none⟩ = some (.slice none 0 0) := (blk_cell BK2.out 0).trans rfl; have hcz76_1 : w74.cell? ⟨gb2, 1, none⟩ = some (.int .i64 0) := (blk_cell BK2.out 1).trans rfl; have hfz76_0 := blk_frozen BK2.out 0; have hfz76_1 := blk_frozen BK2.out 1))
                refine bodyPost_ret (results_cell_row rfl _ _ gb2 67 #[.slice Ao75 y55.length co75, .int .i64 0] (0, 0) _ rfl (by (with_reducible repeat (first | refine blk_drewN ?_ _ | refine blk_drew ?_ | refine blk_alloc ?_ _)); refine blk_put (cs := #[.slice Ao75 y55.length co75, .int .i64 0]) ?_ 1 _ rfl; (with_reducible repeat (first | refine blk_drewN ?_ _ | refine blk_drew ?_ | refine blk_alloc ?_ _)); refine blk_put (cs := #[.slice none 0 0, .int .i64 0]) ?_ 0 _ rfl; (with_reducible repeat (first | refine blk_drewN ?_ _ | refine blk_drew ?_ | refine blk_alloc ?_ _)); exact BK2.out) Try.underlying67 rfl (by kernel_rfl)) rfl ?_
                exact ⟨_, by first | rfl | (simp [errW_none, errW_some] <;> rfl) | (simp [*, errW_none, errW_some] <;> rfl), by (with_reducible repeat (first | apply Kd.R_alloc | apply Kd.R_drewN | apply Kd.R_drew)); exact Kd.R_mono (Kd.R_far (p := ⟨gb2, 1, none⟩) (Kd.R_far (p := ⟨gb2, 0, none⟩) (Kd.R_types HO57.out BK2.out (by decide)) (fun _ hk => hk.2) (.slice Ao75 y55.length co75)) (fun _ hk => hk.2) (.int .i64 0)) (fun _ hk => trivial), by repeat (first | (with_reducible first | exact HB.out | apply below_alloc | apply pw_below_drewN | apply below_drew1 | refine below_set ?_ GE1.out | refine below_set ?_ GE2.out) | exact HB.out)⟩
               ·rw [if_neg c67] at H
                exact absurd H (by simp)
              ·rw [if_neg c64] at H
               exact absurd H (by simp)
             ·rw [if_neg c62] at H
              exact absurd H (by simp)
            ·rw [if_neg c61] at H
             exact absurd H (by simp)
end Go.Proofs.Ytcgefpklljclgaa.Print

namespace Go.Proofs.Ytcgefpklljclgaa.Print
open Go.RowKit Go.Proofs.YtcgefpklljclgaaW.PrintWords Go.Proofs.YtcgefpklljclgaaW.PrintLast Go.Proofs.YtcgefpklljclgaaW.PrintMore
attribute [local go_sem] max2_int min2_int max_two min_two max_three min_three max_four min_four   -- for this text's walks alone
set_option linter.unusedVariables false
set_option linter.unusedSimpArgs false
mutual
def law12_Make.l0 : Nat → List Int → List (S31) → Int → Option ((List (S31)))
 | 0, _, _, _ => none
 | k + 1, x0, x3, x4 => if (wrap64 (x4 + 2)) < (x0.length : Int) then (law12_Make.j1 k x0 x3 x4 (decide ((x3.length : Int) < 24))) else (law12_Make.j1 k x0 x3 x4 false)
def law12_Make.j1 : Nat → List Int → List (S31) → Int → Bool → Option ((List (S31)))
 | 0, _, _, _, _ => none
 | k + 1, x0, x3, x4, x21 => if x21 = true then (if 0 ≤ x4 then (if x4 < (x0.length : Int) then (if (x3.length : Int) > 0 then (law12_Make.j2 k x0 x3 x4 (wrap64 (rd x0 x4)) (⟨#[]⟩ : ByteArray) (decide ((Int.tmod (wrap64 (rd x0 x4)) 3) > 0))) else (law12_Make.j2 k x0 x3 x4 (wrap64 (rd x0 x4)) (⟨#[]⟩ : ByteArray) false)) else (none)) else (none)) else (some x3)
def law12_Make.j2 : Nat → List Int → List (S31) → Int → Int → ByteArray → Bool → Option ((List (S31)))
 | 0, _, _, _, _, _, _ => none
 | k + 1, x0, x3, x4, x5, x6, x36 => if x36 = true then (if (x3.length : Int) = 0 then (none) else (if 0 ≤ (Int.tmod (wrap64 (Int.tdiv x5 3)) (x3.length : Int)) then (if (Int.tmod (wrap64 (Int.tdiv x5 3)) (x3.length : Int)) < (x3.length : Int) then (law12_Make.j3 k x0 x3 x4 ((rd_T31 x3 (Int.tmod (wrap64 (Int.tdiv x5 3)) (x3.length : Int))).f0)) else (none)) else (none))) else (law12_Make.j3 k x0 x3 x4 x6)
def law12_Make.j3 : Nat → List Int → List (S31) → Int → ByteArray → Option ((List (S31)))
 | 0, _, _, _, _ => none
 | k + 1, x0, x3, x4, x6 => if 0 ≤ (wrap64 (x4 + 1)) then (if (wrap64 (x4 + 1)) < (x0.length : Int) then ((r10_Create.f k x3 (strOfNums (([(wrap64 (97 + (Int.tmod (wrap64 ((x3.length : Int) * 5)) 24))) % 256] : List Int))) x6 (wrap64 (20 + (wrap64 (rd x0 (wrap64 (x4 + 1)))))) (wrap64 (20 + (wrap64 (rd x0 (wrap64 (x4 + 1)))))) (wrap64 (20 + (wrap64 (rd x0 (wrap64 (x4 + 1))))))).bind fun bt7 => (if bt7.2 = 0 then (if 0 ≤ (wrap64 (x4 + 2)) then (if (wrap64 (x4 + 2)) < (x0.length : Int) then (if (bt7.1.length : Int) = 0 then (none) else (if 0 ≤ (Int.tmod (wrap64 (Int.tdiv (wrap64 (rd x0 (wrap64 (x4 + 2)))) 16)) (bt7.1.length : Int)) then (if (Int.tmod (wrap64 (Int.tdiv (wrap64 (rd x0 (wrap64 (x4 + 2)))) 16)) (bt7.1.length : Int)) < (bt7.1.length : Int) then ((r10_Admit.f k bt7.1 ((rd_T31 bt7.1 (Int.tmod (wrap64 (Int.tdiv (wrap64 (rd x0 (wrap64 (x4 + 2)))) 16)) (bt7.1.length : Int))).f0) (Int.tmod (wrap64 (rd x0 (wrap64 (x4 + 2)))) 16) (wrap64 (Int.tdiv (Int.tmod (wrap64 (rd x0 (wrap64 (x4 + 2)))) 16) 2)) (Int.tmod (Int.tmod (wrap64 (rd x0 (wrap64 (x4 + 2)))) 16) 3)).bind fun bt15 => (if bt15.2 = 0 then (law12_Make.l0 k x0 bt15.1 (wrap64 (x4 + 3))) else (law12_Make.l0 k x0 bt7.1 (wrap64 (x4 + 3))))) else (none)) else (none))) else (none)) else (none)) else (law12_Make.l0 k x0 x3 (wrap64 (x4 + 3))))) else (none)) else (none)
end
def law12_Make.f (k : Nat) (l0 : List Int) : Option ((List (S31))) := law12_Make.l0 k l0 ([] : List (S31)) 0
theorem law12_Make.mono_l : ∀ k, (∀ y0 y1 y2, LeO (law12_Make.l0 k y0 y1 y2) (law12_Make.l0 (k + 1) y0 y1 y2)) ∧ (∀ y0 y1 y2 y3, LeO (law12_Make.j1 k y0 y1 y2 y3) (law12_Make.j1 (k + 1) y0 y1 y2 y3)) ∧ (∀ y0 y1 y2 y3 y4 y5, LeO (law12_Make.j2 k y0 y1 y2 y3 y4 y5) (law12_Make.j2 (k + 1) y0 y1 y2 y3 y4 y5)) ∧ (∀ y0 y1 y2 y3, LeO (law12_Make.j3 k y0 y1 y2 y3) (law12_Make.j3 (k + 1) y0 y1 y2 y3))
 | 0 => ⟨fun _ _ _ r h => by simp [law12_Make.l0] at h, fun _ _ _ _ r h => by simp [law12_Make.j1] at h, fun _ _ _ _ _ _ r h => by simp [law12_Make.j2] at h, fun _ _ _ _ r h => by simp [law12_Make.j3] at h⟩
 | k + 1 => by
  obtain ⟨ih0, ih1, ih2, ih3⟩ := law12_Make.mono_l k
  refine ⟨?_, ?_, ?_, ?_⟩
  ·intro y0 y1 y2
   unfold law12_Make.l0
   repeat' first
   | (with_reducible exact ih0 _ _ _)
   | (with_reducible exact ih1 _ _ _ _)
   | (with_reducible exact ih2 _ _ _ _ _ _)
   | (with_reducible exact ih3 _ _ _ _)
   | (with_reducible exact r10_Admit.mono _ _ _ _ _ _)
   | (with_reducible exact r10_Create.mono _ _ _ _ _ _ _)
   | (with_reducible exact LeO.refl _)
   | (with_reducible exact LeO.none _)
   | (with_reducible refine LeO.ite ?_ ?_)
   | (with_reducible refine LeO.bind ?_ (fun _ => ?_))
   | exact ih0 _ _ _
   | exact ih1 _ _ _ _
   | exact ih2 _ _ _ _ _ _
   | exact ih3 _ _ _ _
   | exact r10_Admit.mono _ _ _ _ _ _
   | exact r10_Create.mono _ _ _ _ _ _ _
   | exact LeO.none _
   | refine LeO.ite ?_ ?_
   | refine LeO.bind ?_ (fun _ => ?_)
  ·intro y0 y1 y2 y3
   unfold law12_Make.j1
   repeat' first
   | (with_reducible exact ih0 _ _ _)
   | (with_reducible exact ih1 _ _ _ _)
   | (with_reducible exact ih2 _ _ _ _ _ _)
   | (with_reducible exact ih3 _ _ _ _)
   | (with_reducible exact r10_Admit.mono _ _ _ _ _ _)
   | (with_reducible exact r10_Create.mono _ _ _ _ _ _ _)
   | (with_reducible exact LeO.refl _)
   | (with_reducible exact LeO.none _)
   | (with_reducible refine LeO.ite ?_ ?_)
   | (with_reducible refine LeO.bind ?_ (fun _ => ?_))
   | exact ih0 _ _ _
   | exact ih1 _ _ _ _
   | exact ih2 _ _ _ _ _ _
   | exact ih3 _ _ _ _
   | exact r10_Admit.mono _ _ _ _ _ _
   | exact r10_Create.mono _ _ _ _ _ _ _
   | exact LeO.none _
   | refine LeO.ite ?_ ?_
   | refine LeO.bind ?_ (fun _ => ?_)
  ·intro y0 y1 y2 y3 y4 y5
   unfold law12_Make.j2
   repeat' first
   | (with_reducible exact ih0 _ _ _)
   | (with_reducible exact ih1 _ _ _ _)
   | (with_reducible exact ih2 _ _ _ _ _ _)
   | (with_reducible exact ih3 _ _ _ _)
   | (with_reducible exact r10_Admit.mono _ _ _ _ _ _)
   | (with_reducible exact r10_Create.mono _ _ _ _ _ _ _)
   | (with_reducible exact LeO.refl _)
   | (with_reducible exact LeO.none _)
   | (with_reducible refine LeO.ite ?_ ?_)
   | (with_reducible refine LeO.bind ?_ (fun _ => ?_))
   | exact ih0 _ _ _
   | exact ih1 _ _ _ _
   | exact ih2 _ _ _ _ _ _
   | exact ih3 _ _ _ _
   | exact r10_Admit.mono _ _ _ _ _ _
   | exact r10_Create.mono _ _ _ _ _ _ _
   | exact LeO.none _
   | refine LeO.ite ?_ ?_
   | refine LeO.bind ?_ (fun _ => ?_)
  ·intro y0 y1 y2 y3
   unfold law12_Make.j3
   repeat' first
   | (with_reducible exact ih0 _ _ _)
   | (with_reducible exact ih1 _ _ _ _)
   | (with_reducible exact ih2 _ _ _ _ _ _)
   | (with_reducible exact ih3 _ _ _ _)
   | (with_reducible exact r10_Admit.mono _ _ _ _ _ _)
   | (with_reducible exact r10_Create.mono _ _ _ _ _ _ _)
   | (with_reducible exact LeO.refl _)
   | (with_reducible exact LeO.none _)
   | (with_reducible refine LeO.ite ?_ ?_)
   | (with_reducible refine LeO.bind ?_ (fun _ => ?_))
   | exact ih0 _ _ _
   | exact ih1 _ _ _ _
   | exact ih2 _ _ _ _ _ _
   | exact ih3 _ _ _ _
   | exact r10_Admit.mono _ _ _ _ _ _
   | exact r10_Create.mono _ _ _ _ _ _ _
   | exact LeO.none _
   | refine LeO.ite ?_ ?_
   | refine LeO.bind ?_ (fun _ => ?_)
theorem law12_Make.mono : ∀ a0 k, LeO (law12_Make.f k a0) (law12_Make.f (k + 1) a0) := by
 intro a0 k
 obtain ⟨ih0, ih1, ih2, ih3⟩ := law12_Make.mono_l k
 unfold law12_Make.f
 repeat' first
   | (with_reducible exact ih0 _ _ _)
   | (with_reducible exact ih1 _ _ _ _)
   | (with_reducible exact ih2 _ _ _ _ _ _)
   | (with_reducible exact ih3 _ _ _ _)
   | (with_reducible exact r10_Admit.mono _ _ _ _ _ _)
   | (with_reducible exact r10_Create.mono _ _ _ _ _ _ _)
   | (with_reducible exact LeO.refl _)
   | (with_reducible exact LeO.none _)
   | (with_reducible refine LeO.ite ?_ ?_)
   | (with_reducible refine LeO.bind ?_ (fun _ => ?_))
   | exact ih0 _ _ _
   | exact ih1 _ _ _ _
   | exact ih2 _ _ _ _ _ _
   | exact ih3 _ _ _ _
   | exact r10_Admit.mono _ _ _ _ _ _
   | exact r10_Create.mono _ _ _ _ _ _ _
   | exact LeO.none _
   | refine LeO.ite ?_ ?_
   | refine LeO.bind ?_ (fun _ => ?_)
set_option maxHeartbeats 8000000 in
set_option maxRecDepth 100000 in
theorem law12_Make.calls (k : Nat) (A0 : Option Addr) (c0 : Nat) (l0 : List Int) (r : List (S31)) (w : World) (hr0 : Kd.C (Kd.int .u8) w A0 l0.length l0) (hc0 : l0.length ≤ c0) (h : law12_Make.f k l0 = some r) :
  Calls Try.prog 32 #[.slice A0 l0.length c0] w fun e w' => ∃ v0_ : Value, e = .returned (v0_) ∧ Kd.R k31 31 w' w.heap.size (fun _ => True) v0_ r ∧ Below w.heap.size w w' := by
 have hu27 := Try.underlying27
 have hu67 := Try.underlying67
 have HR0 := Aside0.mk hr0
 have HC0 := Aside0.mk hc0
 clear hr0 hc0
 have HB := Aside0.mk (Below.refl w.heap.size w)
 have H : (law12_Make.l0 k l0 ([] : List (S31)) 0) = some r := h
 clear h
 have H' := Aside0.mk H
 clear H
 go_enter Try.func32, Try.ntmps32
 go_wp2
 go_loopg [3, 4] k (fun kq v3 v4 w' => ∃ (x3_1 : List (S31)) (x4_1 : Int), v4 = .int .i64 x4_1 ∧ Aside0 (law12_Make.l0 kq l0 x3_1 x4_1 = some r) ∧ Aside0 (kq ≤ k) ∧ Aside0 (Kd.R k31 31 w' w.heap.size (fun _ => True) v3 x3_1) ∧ Aside0 (Below w.heap.size w w'))
 case atStart => exact ⟨(([] : List (S31))), (0), (by first | rfl | (simp; done) | (simp [*]; done)), H', ⟨Nat.le_refl _⟩, ⟨by first | exact Kd.R_nil _ _ _ _ _ | exact Kd.N_nil _ _ _ _ _ | exact Kd.V_nil _ _ _ _ _ | exact Kd.Q_nil _ _ _ _ _ | exact Kd.S_nil _ _ _ _ _⟩, ⟨by repeat (first | (with_reducible first | exact HB.out | apply below_alloc | apply pw_below_drewN | apply below_drew1) | exact HB.out)⟩⟩
 case round =>
  clear H'
  obtain ⟨x3_1, x4_1, rfl, HA, HK1, HO_3, HB⟩ := hrel
  cases gk with
  | zero => exact absurd HA.out (by simp [law12_Make.l0])
  | succ k1 =>
   have H := HA.out
   clear HA
   simp only [law12_Make.l0] at H
   have HC2 := Aside0.mk H
   clear H
   go_upto_region 3 with (fail)
   go_cut [21] (fun v21 wc => ∃ (kq : Nat) (x21_1 : Bool), v21 = .bool x21_1 ∧ Aside0 (law12_Make.j1 kq l0 x3_1 x4_1 x21_1 = some r) ∧ Aside0 (kq ≤ k1) ∧ Aside0 (Kd.R k31 31 wc w.heap.size (fun _ => True) u3 x3_1) ∧ Aside0 (Below w.heap.size w wc))
   case first =>
    have H := HC2.out
    clear HC2
    by_cases c3 : (wrap64 (x4_1 + 2)) < (l0.length : Int)
    ·rw [if_pos c3] at H
     have c3b0 : decide ((wrap64 (x4_1 + 2)) < (l0.length : Int)) = true := decide_eq_true c3
     clear c3
     (first | rw [c3b0] | (simp only [i64_w, i32_w]; rw [c3b0]) | skip)
     have H' := Aside0.mk H
     clear H
     obtain ⟨Ao4, co4, eo4⟩ := Kd.R_slice HO_3.out
     subst eo4
     go_wp2
     go_meet
     case rel => exact ⟨_, (decide ((x3_1.length : Int) < 24)), (by first | rfl | (simp; done) | (simp [*]; done)), H', ⟨by have := HK1.out; first | omega | exact Nat.le_refl _⟩, ⟨by (with_reducible repeat (first | apply Kd.R_alloc | apply Kd.R_drewN | apply Kd.R_drew)); exact HO_3.out⟩, ⟨by repeat (first | (with_reducible first | exact HB.out | apply below_alloc | apply pw_below_drewN | apply below_drew1) | exact HB.out)⟩⟩
    ·rw [if_neg c3] at H
     have c3b0 : decide ((wrap64 (x4_1 + 2)) < (l0.length : Int)) = false := decide_eq_false c3
     clear c3
     (first | rw [c3b0] | (simp only [i64_w, i32_w]; rw [c3b0]) | skip)
     have H' := Aside0.mk H
     clear H
     go_wp2
     go_meet
     case rel => exact ⟨_, (false), (by first | rfl | (simp; done) | (simp [*]; done)), H', ⟨by have := HK1.out; first | omega | exact Nat.le_refl _⟩, ⟨by (with_reducible repeat (first | apply Kd.R_alloc | apply Kd.R_drewN | apply Kd.R_drew)); exact HO_3.out⟩, ⟨by repeat (first | (with_reducible first | exact HB.out | apply below_alloc | apply pw_below_drewN | apply below_drew1) | exact HB.out)⟩⟩
   case rest =>
    clear HC2
    try clear p2
    try clear c3
    try clear c3b0
    obtain ⟨kq, x21_1, rfl, HA, HJ1, HO_3, HB⟩ := hcut
    cases kq with
    | zero => exact absurd HA.out (by simp [law12_Make.j1])
    | succ kj1 =>
     have H := HA.out
     clear HA
     simp only [law12_Make.j1] at H
     by_cases c5 : x21_1 = true
     ·subst c5
      have H1 : (if 0 ≤ x4_1 then (if x4_1 < (l0.length : Int) then (if (x3_1.length : Int) > 0 then (law12_Make.j2 kj1 l0 x3_1 x4_1 (wrap64 (rd l0 x4_1)) (⟨#[]⟩ : ByteArray) (decide ((Int.tmod (wrap64 (rd l0 x4_1)) 3) > 0))) else (law12_Make.j2 kj1 l0 x3_1 x4_1 (wrap64 (rd l0 x4_1)) (⟨#[]⟩ : ByteArray) false)) else (none)) else (none)) = some r := by rw [if_pos rfl] at H; exact H
      clear H
      have H := H1
      clear H1
      by_cases c6 : 0 ≤ x4_1
      ·rw [if_pos c6] at H
       have c6b0 : decide (0 ≤ x4_1) = true := decide_eq_true c6
       clear c6
       by_cases c7 : x4_1 < (l0.length : Int)
       ·rw [if_pos c7] at H
        have c7b0 : decide (x4_1 < (l0.length : Int)) = true := decide_eq_true c7
        clear c7
        have HC8 := Aside0.mk H
        clear H
        have p1 : 0 ≤ (x4_1 : Int) := of_decide_eq_true (by first | (with_reducible assumption) | assumption)
        have q1 : x4_1 < (l0.length : Int) := of_decide_eq_true (by first | (with_reducible assumption) | assumption)
        obtain ⟨ad1, e1, hx1_0⟩ := Kd.at_int HR0.out x4_1 p1 q1
        cases e1
        replace hx1_0 := (HB.out.cell (World.block_lt_of_cell? w _ hx1_0)).trans hx1_0
        replace p1 := eq_true p1
        replace q1 := eq_true q1
        go_upto_region 7 with (fail)
        go_cut [36] (fun v36 wc => ∃ (kq : Nat) (x36_7 : Bool), v36 = .bool x36_7 ∧ Aside0 (law12_Make.j2 kq l0 x3_1 x4_1 (wrap64 (rd l0 x4_1)) (⟨#[]⟩ : ByteArray) x36_7 = some r) ∧ Aside0 (kq ≤ kj1) ∧ Aside0 (Kd.R k31 31 wc w.heap.size (fun _ => True) u3 x3_1) ∧ Aside0 (Below w.heap.size w wc))
        case first =>
         have H := HC8.out
         clear HC8
         by_cases c9 : (x3_1.length : Int) > 0
         ·rw [if_pos c9] at H
          have c9b0 : decide (0 < (x3_1.length : Int)) = true := decide_eq_true c9
          have c9b1 : decide (0 < x3_1.length) = true := decide_eq_true (by omega)
          clear c9
          (first | rw [c9b0] | (simp only [i64_w, i32_w]; rw [c9b0]) | skip)
          have H' := Aside0.mk H
          clear H
          obtain ⟨Ao10, co10, eo10⟩ := Kd.R_slice HO_3.out
          subst eo10
          go_wp2
          go_meet
          case rel => exact ⟨_, (decide ((Int.tmod (wrap64 (rd l0 x4_1)) 3) > 0)), (by first | rfl | (simp; done) | (simp [*]; done)), H', ⟨by have := HK1.out; have := HJ1.out; first | omega | exact Nat.le_refl _⟩, ⟨by (with_reducible repeat (first | apply Kd.R_alloc | apply Kd.R_drewN | apply Kd.R_drew)); exact HO_3.out⟩, ⟨by repeat (first | (with_reducible first | exact HB.out | apply below_alloc | apply pw_below_drewN | apply below_drew1) | exact HB.out)⟩⟩
         ·rw [if_neg c9] at H
          have c9b0 : decide (0 < (x3_1.length : Int)) = false := decide_eq_false c9
          have c9b1 : decide (0 < x3_1.length) = false := decide_eq_false (by omega)
          clear c9
          (first | rw [c9b0] | (simp only [i64_w, i32_w]; rw [c9b0]) | skip)
          have H' := Aside0.mk H
          clear H
          obtain ⟨Ao11, co11, eo11⟩ := Kd.R_slice HO_3.out
          subst eo11
          go_wp2
          go_meet
          case rel => exact ⟨_, (false), (by first | rfl | (simp; done) | (simp [*]; done)), H', ⟨by have := HK1.out; have := HJ1.out; first | omega | exact Nat.le_refl _⟩, ⟨by (with_reducible repeat (first | apply Kd.R_alloc | apply Kd.R_drewN | apply Kd.R_drew)); exact HO_3.out⟩, ⟨by repeat (first | (with_reducible first | exact HB.out | apply below_alloc | apply pw_below_drewN | apply below_drew1) | exact HB.out)⟩⟩
        case rest =>
         clear HC8
         try clear p1
         try clear q1
         try clear hx1
         try clear p2
         try clear c3
         try clear c3b0
         try clear c5
         try clear c6
         try clear c6b0
         try clear p6
         try clear c7
         try clear c7b0
         try clear c9
         try clear c9b0
         try clear c9b1
         try clear hx1_0
         try clear p1
         try clear p2
         try clear q1
         obtain ⟨kq, x36_7, rfl, HA, HJ7, HO_3, HB⟩ := hcut
         cases kq with
         | zero => exact absurd HA.out (by simp [law12_Make.j2])
         | succ kj7 =>
          have H := HA.out
          clear HA
          simp only [law12_Make.j2] at H
          have HC12 := Aside0.mk H
          clear H
          go_upto_if 36 with (fail)
          go_cut [6] (fun v6 wc => ∃ (kq : Nat) (x6_11 : ByteArray), v6 = .string x6_11 ∧ Aside0 (law12_Make.j3 kq l0 x3_1 x4_1 x6_11 = some r) ∧ Aside0 (kq ≤ kj7) ∧ Aside0 (Kd.R k31 31 wc w.heap.size (fun _ => True) u3 x3_1) ∧ Aside0 (Below w.heap.size w wc))
          case first =>
           have H := HC12.out
           clear HC12
           by_cases c13 : x36_7 = true
           ·subst c13
            have H1 : (if (x3_1.length : Int) = 0 then (none) else (if 0 ≤ (Int.tmod (wrap64 (Int.tdiv (wrap64 (rd l0 x4_1)) 3)) (x3_1.length : Int)) then (if (Int.tmod (wrap64 (Int.tdiv (wrap64 (rd l0 x4_1)) 3)) (x3_1.length : Int)) < (x3_1.length : Int) then (law12_Make.j3 kj7 l0 x3_1 x4_1 ((rd_T31 x3_1 (Int.tmod (wrap64 (Int.tdiv (wrap64 (rd l0 x4_1)) 3)) (x3_1.length : Int))).f0)) else (none)) else (none))) = some r := by rw [if_pos rfl] at H; exact H
            clear H
            have H := H1
            clear H1
            by_cases c14 : (x3_1.length : Int) = 0
            ·rw [if_pos c14] at H
             exact absurd H (by simp)
            ·rw [if_neg c14] at H
             have c14b0 : ((x3_1.length : Int) == 0) = false := beq_eq_false_iff_ne.mpr c14
             have c14b1 : ((x3_1.length : Int) != 0) = true := bne_iff_ne.mpr c14
             have c14b2 : ¬ (x3_1 = []) := fun h_ => c14 (by rw [h_]; rfl)
             (first | rw [c14b0] | (simp only [i64_w, i32_w]; rw [c14b0]) | skip)
             obtain ⟨ji15, hji15⟩ : ∃ j_ : Int, (Int.tmod (wrap64 (Int.tdiv (wrap64 (rd l0 x4_1)) 3)) (x3_1.length : Int)) = j_ := ⟨_, rfl⟩
             replace H : (if 0 ≤ (ji15) then (if (ji15) < (x3_1.length : Int) then (law12_Make.j3 kj7 l0 x3_1 x4_1 ((rd_T31 x3_1 (ji15)).f0)) else (none)) else (none)) = some r := by first | (rw [hji15] at H; exact H) | (simp only [hji15] at H ⊢; exact H)
             by_cases c16 : 0 ≤ (ji15)
             ·rw [if_pos c16] at H
              have c16b0 : decide (0 ≤ (ji15)) = true := decide_eq_true c16
              clear c16
              by_cases c17 : (ji15) < (x3_1.length : Int)
              ·rw [if_pos c17] at H
               have c17b0 : decide ((ji15) < (x3_1.length : Int)) = true := decide_eq_true c17
               clear c17
               have H' := Aside0.mk H
               clear H
               obtain ⟨Ao18, co18, eo18⟩ := Kd.R_slice HO_3.out
               subst eo18
               have p2 : 0 ≤ ((ji15) : Int) := of_decide_eq_true (by first | (with_reducible assumption) | assumption)
               have q2 : (ji15) < (x3_1.length : Int) := of_decide_eq_true (by first | (with_reducible assumption) | assumption)
               obtain ⟨ad2, e2, hx2_0, hx2_1, hx2_2, hx2_3, hx2_4, hx2_5, hx2_6, hx2_7, hx2_8, hx2_9, hx2_10, hx2_11⟩ := at_T31 (Kd.R_reads' HO_3.out).2.2 (ji15) p2 q2
               cases e2
               replace p2 := eq_true p2
               replace q2 := eq_true q2
               go_wp2
               go_meet
               case rel => exact ⟨_, ((rd_T31 x3_1 (ji15)).f0), (by first | rfl | (simp; done) | (simp only [← hji15] <;> (first | rfl | simp)) | (simp [*]; done)), H', ⟨by have := HK1.out; have := HJ1.out; have := HJ7.out; first | omega | exact Nat.le_refl _⟩, ⟨by (with_reducible repeat (first | apply Kd.R_alloc | apply Kd.R_drewN | apply Kd.R_drew)); exact HO_3.out⟩, ⟨by repeat (first | (with_reducible first | exact HB.out | apply below_alloc | apply pw_below_drewN | apply below_drew1) | exact HB.out)⟩⟩
              ·rw [if_neg c17] at H
               exact absurd H (by simp)
             ·rw [if_neg c16] at H
              exact absurd H (by simp)
           ·replace c13 := Bool.eq_false_iff.mpr c13
            subst c13
            have H1 : (law12_Make.j3 kj7 l0 x3_1 x4_1 (⟨#[]⟩ : ByteArray)) = some r := by rw [if_neg (show ¬ (false = true) by decide)] at H; exact H
            clear H
            have H := H1
            clear H1
            have H' := Aside0.mk H
            clear H
            go_wp2
            go_meet
            case rel => exact ⟨_, ((⟨#[]⟩ : ByteArray)), (by first | rfl | (simp; done) | (simp [*]; done)), H', ⟨by have := HK1.out; have := HJ1.out; have := HJ7.out; first | omega | exact Nat.le_refl _⟩, ⟨by (with_reducible repeat (first | apply Kd.R_alloc | apply Kd.R_drewN | apply Kd.R_drew)); exact HO_3.out⟩, ⟨by repeat (first | (with_reducible first | exact HB.out | apply below_alloc | apply pw_below_drewN | apply below_drew1) | exact HB.out)⟩⟩
          case rest =>
           clear HC12
           try clear c1
           try clear p1
           try clear q1
           try clear hx1
           try clear p2
           try clear q2
           try clear hx2
           try clear c3
           try clear c3b0
           try clear c5
           try clear c6
           try clear c6b0
           try clear p6
           try clear c7
           try clear c7b0
           try clear c9
           try clear c9b0
           try clear c9b1
           try clear c13
           try clear c14
           try clear c14b0
           try clear c14b1
           try clear c14b2
           try clear c16
           try clear c16b0
           try clear c17
           try clear c17b0
           try clear hx1_0
           try clear hx2_0
           try clear hx2_1
           try clear hx2_10
           try clear hx2_11
           try clear hx2_2
           try clear hx2_3
           try clear hx2_4
           try clear hx2_5
           try clear hx2_6
           try clear hx2_7
           try clear hx2_8
           try clear hx2_9
           try clear p1
           try clear p2
           try clear p6
           try clear q1
           try clear q2
           obtain ⟨kq, x6_11, rfl, HA, HJ11, HO_3, HB⟩ := hcut
           cases kq with
           | zero => exact absurd HA.out (by simp [law12_Make.j3])
           | succ kj11 =>
            have H := HA.out
            clear HA
            simp only [law12_Make.j3] at H
            obtain ⟨ji19, hji19⟩ : ∃ j_ : Int, (wrap64 (x4_1 + 1)) = j_ := ⟨_, rfl⟩
            replace H : (if 0 ≤ (ji19) then (if (ji19) < (l0.length : Int) then ((r10_Create.f kj11 x3_1 (strOfNums (([(wrap64 (97 + (Int.tmod (wrap64 ((x3_1.length : Int) * 5)) 24))) % 256] : List Int))) x6_11 (wrap64 (20 + (wrap64 (rd l0 (ji19))))) (wrap64 (20 + (wrap64 (rd l0 (ji19))))) (wrap64 (20 + (wrap64 (rd l0 (ji19)))))).bind fun bt7 => (if bt7.2 = 0 then (if 0 ≤ (wrap64 (x4_1 + 2)) then (if (wrap64 (x4_1 + 2)) < (l0.length : Int) then (if (bt7.1.length : Int) = 0 then (none) else (if 0 ≤ (Int.tmod (wrap64 (Int.tdiv (wrap64 (rd l0 (wrap64 (x4_1 + 2)))) 16)) (bt7.1.length : Int)) then (if (Int.tmod (wrap64 (Int.tdiv (wrap64 (rd l0 (wrap64 (x4_1 + 2)))) 16)) (bt7.1.length : Int)) < (bt7.1.length : Int) then ((r10_Admit.f kj11 bt7.1 ((rd_T31 bt7.1 (Int.tmod (wrap64 (Int.tdiv (wrap64 (rd l0 (wrap64 (x4_1 + 2)))) 16)) (bt7.1.length : Int))).f0) (Int.tmod (wrap64 (rd l0 (wrap64 (x4_1 + 2)))) 16) (wrap64 (Int.tdiv (Int.tmod (wrap64 (rd l0 (wrap64 (x4_1 + 2)))) 16) 2)) (Int.tmod (Int.tmod (wrap64 (rd l0 (wrap64 (x4_1 + 2)))) 16) 3)).bind fun bt15 => (if bt15.2 = 0 then (law12_Make.l0 kj11 l0 bt15.1 (wrap64 (x4_1 + 3))) else (law12_Make.l0 kj11 l0 bt7.1 (wrap64 (x4_1 + 3))))) else (none)) else (none))) else (none)) else (none)) else (law12_Make.l0 kj11 l0 x3_1 (wrap64 (x4_1 + 3))))) else (none)) else (none)) = some r := by first | (rw [hji19] at H; exact H) | (simp only [hji19] at H ⊢; exact H)
            have hji19w : (IntKind.i64.wrap (x4_1 + 1)) = ji19 := (i64_w _).trans hji19
            by_cases c20 : 0 ≤ (ji19)
            ·rw [if_pos c20] at H
             have c20b0 : decide (0 ≤ (ji19)) = true := decide_eq_true c20
             clear c20
             by_cases c21 : (ji19) < (l0.length : Int)
             ·rw [if_pos c21] at H
              have c21b0 : decide ((ji19) < (l0.length : Int)) = true := decide_eq_true c21
              clear c21
              obtain ⟨y4, hy4⟩ : ∃ y_ : List Int, y_ = (([(wrap64 (97 + (Int.tmod (wrap64 ((x3_1.length : Int) * 5)) 24))) % 256] : List Int)) := ⟨_, rfl⟩
              replace H : ((r10_Create.f kj11 x3_1 (strOfNums y4) x6_11 (wrap64 (20 + (wrap64 (rd l0 (ji19))))) (wrap64 (20 + (wrap64 (rd l0 (ji19))))) (wrap64 (20 + (wrap64 (rd l0 (ji19)))))).bind fun bt7 => (if bt7.2 = 0 then (if 0 ≤ (wrap64 (x4_1 + 2)) then (if (wrap64 (x4_1 + 2)) < (l0.length : Int) then (if (bt7.1.length : Int) = 0 then (none) else (if 0 ≤ (Int.tmod (wrap64 (Int.tdiv (wrap64 (rd l0 (wrap64 (x4_1 + 2)))) 16)) (bt7.1.length : Int)) then (if (Int.tmod (wrap64 (Int.tdiv (wrap64 (rd l0 (wrap64 (x4_1 + 2)))) 16)) (bt7.1.length : Int)) < (bt7.1.length : Int) then ((r10_Admit.f kj11 bt7.1 ((rd_T31 bt7.1 (Int.tmod (wrap64 (Int.tdiv (wrap64 (rd l0 (wrap64 (x4_1 + 2)))) 16)) (bt7.1.length : Int))).f0) (Int.tmod (wrap64 (rd l0 (wrap64 (x4_1 + 2)))) 16) (wrap64 (Int.tdiv (Int.tmod (wrap64 (rd l0 (wrap64 (x4_1 + 2)))) 16) 2)) (Int.tmod (Int.tmod (wrap64 (rd l0 (wrap64 (x4_1 + 2)))) 16) 3)).bind fun bt15 => (if bt15.2 = 0 then (law12_Make.l0 kj11 l0 bt15.1 (wrap64 (x4_1 + 3))) else (law12_Make.l0 kj11 l0 bt7.1 (wrap64 (x4_1 + 3))))) else (none)) else (none))) else (none)) else (none)) else (law12_Make.l0 kj11 l0 x3_1 (wrap64 (x4_1 + 3))))) = some r := by first | (rw [hy4]; with_reducible exact H) | (have H2_ := (Option.bind_some _ _).symm.trans H; rw [hy4]; with_reducible exact H2_) | (have H2_ := (Option.bind_some _ _).symm.trans H; with_reducible exact H2_) | with_reducible exact H | (rw [hy4]; exact H) | exact H
              have Ny4 := Aside0.mk hy4
              clear hy4
              replace H := Option.bind_eq_some_iff.mp H
              obtain ⟨⟨t7, t10⟩, A220, H⟩ := H
              replace H : (if t10 = 0 then (if 0 ≤ (wrap64 (x4_1 + 2)) then (if (wrap64 (x4_1 + 2)) < (l0.length : Int) then (if (t7.length : Int) = 0 then (none) else (if 0 ≤ (Int.tmod (wrap64 (Int.tdiv (wrap64 (rd l0 (wrap64 (x4_1 + 2)))) 16)) (t7.length : Int)) then (if (Int.tmod (wrap64 (Int.tdiv (wrap64 (rd l0 (wrap64 (x4_1 + 2)))) 16)) (t7.length : Int)) < (t7.length : Int) then ((r10_Admit.f kj11 t7 ((rd_T31 t7 (Int.tmod (wrap64 (Int.tdiv (wrap64 (rd l0 (wrap64 (x4_1 + 2)))) 16)) (t7.length : Int))).f0) (Int.tmod (wrap64 (rd l0 (wrap64 (x4_1 + 2)))) 16) (wrap64 (Int.tdiv (Int.tmod (wrap64 (rd l0 (wrap64 (x4_1 + 2)))) 16) 2)) (Int.tmod (Int.tmod (wrap64 (rd l0 (wrap64 (x4_1 + 2)))) 16) 3)).bind fun bt15 => (if bt15.2 = 0 then (law12_Make.l0 kj11 l0 bt15.1 (wrap64 (x4_1 + 3))) else (law12_Make.l0 kj11 l0 t7 (wrap64 (x4_1 + 3))))) else (none)) else (none))) else (none)) else (none)) else (law12_Make.l0 kj11 l0 x3_1 (wrap64 (x4_1 + 3)))) = some r := H
              have A22 := Aside0.mk A220
              clear A220
              by_cases c23 : t10 = 0
              ·rw [if_pos c23] at H
               have c23b0 : (t10 == 0) = true := beq_iff_eq.mpr c23
               have c23b1 : (t10 != 0) = false := bne_eq_false_iff_eq.mpr c23
               clear c23
               obtain ⟨ji24, hji24⟩ : ∃ j_ : Int, (wrap64 (x4_1 + 2)) = j_ := ⟨_, rfl⟩
               replace H : (if 0 ≤ (ji24) then (if (ji24) < (l0.length : Int) then (if (t7.length : Int) = 0 then (none) else (if 0 ≤ (Int.tmod (wrap64 (Int.tdiv (wrap64 (rd l0 (ji24))) 16)) (t7.length : Int)) then (if (Int.tmod (wrap64 (Int.tdiv (wrap64 (rd l0 (ji24))) 16)) (t7.length : Int)) < (t7.length : Int) then ((r10_Admit.f kj11 t7 ((rd_T31 t7 (Int.tmod (wrap64 (Int.tdiv (wrap64 (rd l0 (ji24))) 16)) (t7.length : Int))).f0) (Int.tmod (wrap64 (rd l0 (ji24))) 16) (wrap64 (Int.tdiv (Int.tmod (wrap64 (rd l0 (ji24))) 16) 2)) (Int.tmod (Int.tmod (wrap64 (rd l0 (ji24))) 16) 3)).bind fun bt15 => (if bt15.2 = 0 then (law12_Make.l0 kj11 l0 bt15.1 (wrap64 (x4_1 + 3))) else (law12_Make.l0 kj11 l0 t7 (wrap64 (x4_1 + 3))))) else (none)) else (none))) else (none)) else (none)) = some r := by first | (rw [hji24] at H; exact H) | (simp only [hji24] at H ⊢; exact H)
               (try rw [hji24] at A22)
               have hji24w : (IntKind.i64.wrap (x4_1 + 2)) = ji24 := (i64_w _).trans hji24
               by_cases c25 : 0 ≤ (ji24)
               ·rw [if_pos c25] at H
                have c25b0 : decide (0 ≤ (ji24)) = true := decide_eq_true c25
                clear c25
                by_cases c26 : (ji24) < (l0.length : Int)
                ·rw [if_pos c26] at H
                 have c26b0 : decide ((ji24) < (l0.length : Int)) = true := decide_eq_true c26
                 clear c26
                 by_cases c27 : (t7.length : Int) = 0
                 ·rw [if_pos c27] at H
                  exact absurd H (by simp)
                 ·rw [if_neg c27] at H
                  have c27b0 : ((t7.length : Int) == 0) = false := beq_eq_false_iff_ne.mpr c27
                  have c27b1 : ((t7.length : Int) != 0) = true := bne_iff_ne.mpr c27
                  have c27b2 : ¬ (t7 = []) := fun h_ => c27 (by rw [h_]; rfl)
                  obtain ⟨ji28, hji28⟩ : ∃ j_ : Int, (Int.tmod (wrap64 (Int.tdiv (wrap64 (rd l0 (ji24))) 16)) (t7.length : Int)) = j_ := ⟨_, rfl⟩
                  replace H : (if 0 ≤ (ji28) then (if (ji28) < (t7.length : Int) then ((r10_Admit.f kj11 t7 ((rd_T31 t7 (ji28)).f0) (Int.tmod (wrap64 (rd l0 (ji24))) 16) (wrap64 (Int.tdiv (Int.tmod (wrap64 (rd l0 (ji24))) 16) 2)) (Int.tmod (Int.tmod (wrap64 (rd l0 (ji24))) 16) 3)).bind fun bt15 => (if bt15.2 = 0 then (law12_Make.l0 kj11 l0 bt15.1 (wrap64 (x4_1 + 3))) else (law12_Make.l0 kj11 l0 t7 (wrap64 (x4_1 + 3))))) else (none)) else (none)) = some r := by first | (rw [hji28] at H; exact H) | (simp only [hji28] at H ⊢; exact H)
                  (try rw [hji28] at A22)
                  by_cases c29 : 0 ≤ (ji28)
                  ·rw [if_pos c29] at H
                   have c29b0 : decide (0 ≤ (ji28)) = true := decide_eq_true c29
                   clear c29
                   by_cases c30 : (ji28) < (t7.length : Int)
                   ·rw [if_pos c30] at H
                    have c30b0 : decide ((ji28) < (t7.length : Int)) = true := decide_eq_true c30
                    clear c30
                    replace H := Option.bind_eq_some_iff.mp H
                    obtain ⟨⟨t15, t18⟩, A310, H⟩ := H
                    replace H : (if t18 = 0 then (law12_Make.l0 kj11 l0 t15 (wrap64 (x4_1 + 3))) else (law12_Make.l0 kj11 l0 t7 (wrap64 (x4_1 + 3)))) = some r := H
                    have A31 := Aside0.mk A310
                    clear A310
                    by_cases c32 : t18 = 0
                    ·rw [if_pos c32] at H
                     have c32b0 : (t18 == 0) = true := beq_iff_eq.mpr c32
                     have c32b1 : (t18 != 0) = false := bne_eq_false_iff_eq.mpr c32
                     clear c32
                     have H' := Aside0.mk H
                     clear H
                     have p3 : 0 ≤ ((ji19) : Int) := of_decide_eq_true (by first | (with_reducible assumption) | assumption)
                     have q3 : (ji19) < (l0.length : Int) := of_decide_eq_true (by first | (with_reducible assumption) | assumption)
                     obtain ⟨ad3, e3, hx3_0⟩ := Kd.at_int HR0.out (ji19) p3 q3
                     obtain rfl : ad1 = ad3 := (by injection e3)
                     replace hx3_0 := (HB.out.cell (World.block_lt_of_cell? w _ hx3_0)).trans hx3_0
                     replace p3 := eq_true p3
                     replace q3 := eq_true q3
                     obtain ⟨Ao33, co33, eo33⟩ := Kd.R_slice HO_3.out
                     subst eo33
                     go_wp2_with (first | ((with_reducible refine gate_dst (N := 60) rfl ?_); (try (refine gate_guard (by rfl) ?_; dsimp only)); refine Kd.R_lit (Kd.int .u8) _ 5 ?hg (N := 60) ?hd (xs := ([(wrap64 (97 + (Int.tmod (wrap64 ((x3_1.length : Int) * 5)) 24))) % 256] : List Int)) (inner := [.int .u8 ((wrap64 (97 + (Int.tmod (wrap64 ((x3_1.length : Int) * 5)) 24))) % 256)]) (ok := fun _ => True) (okp := fun _ => True) ?hr ?hp (fun _ hk => hk) trivial (Below.refl _ _) (Nat.le_refl _) (by simp) ?_; (case hd => rfl); (case hg => rfl); (case hr => first | (go_simp; done) | (go_simp; rfl)); (case hp => exact (Reps.one (show Kd.M (Kd.int .u8) _ _ _ ((wrap64 (97 + (Int.tmod (wrap64 ((x3_1.length : Int) * 5)) 24))) % 256) [.int .u8 ((wrap64 (97 + (Int.tmod (wrap64 ((x3_1.length : Int) * 5)) 24))) % 256)] from rfl) (Reps.none _ _))); intro v5 w34 ho35 hb hg_ hnew_; clear hg_ hnew_; (first | rw [← Ny4.out] at ho35 | (simp only [Int.reduceToNat] at ho35; rw [← Ny4.out] at ho35)); have n0_ := Aside0.mk (Kd.R_below (by (with_reducible repeat (first | apply Kd.R_alloc | apply Kd.R_drewN | apply Kd.R_drew)); exact HO_3.out) hb); have n1_ := Aside0.mk (Kd.R_lower ho35 (below_size (by repeat (first | (with_reducible first | exact HB.out | apply below_alloc | apply pw_below_drewN | apply below_drew1) | exact HB.out)))); have n2_ := Aside0.mk (below_step (by repeat (first | (with_reducible first | exact HB.out | apply below_alloc | apply pw_below_drewN | apply below_drew1) | exact HB.out)) hb); clear HO_3; clear HB; have HO_3 := n0_; have HO6 := n1_; have HB := n2_; clear n0_ n1_ n2_; clear hb ho35; have hcv36 := own_string (P := Try.prog) Try.underlying22 Try.underlying5 Try.underlying9 (Kd.own_of_R HO6.out)) | ((with_reducible refine gate_callee (f := 83) rfl ?_); refine goesL_ (some 67) rfl rfl Try.func83 (by kernel_rfl) rfl #[.slice Ao33 x3_1.length co33, .string (strOfNums y4), .string x6_11, .agg #[.int .i64 (wrap64 (20 + (wrap64 (rd l0 (ji19))))), .int .i64 (wrap64 (20 + (wrap64 (rd l0 (ji19))))), .int .i64 (wrap64 (20 + (wrap64 (rd l0 (ji19)))))]] rfl (by (try simp only [List.map_toArray, List.map_cons, List.map_nil]); first | done | (simp only [hji19]; rfl) | rfl | (simp only [List.length_drop, List.length_take]; rfl)) ?_; (with_reducible refine (r10_Create.calls kj11 _ _ x3_1 (strOfNums y4) x6_11 (wrap64 (20 + (wrap64 (rd l0 (ji19))))) (wrap64 (20 + (wrap64 (rd l0 (ji19))))) (wrap64 (20 + (wrap64 (rd l0 (ji19))))) t7 t10 _ ?side1 ?side2 A22.out).mono ?_); (case side1 => repeat (first | exact (Kd.R_reads' HO_3.out).2.2 | (with_reducible refine Kd.C_alloc ?_ _) | (with_reducible refine Kd.C_drewN ?_ _) | (with_reducible refine Kd.C_drew ?_))); (case side2 => exact (Kd.R_reads' HO_3.out).2.1); rintro e w37 ⟨v8, rfl, ho0, hb⟩; refine ⟨_, rfl, ?_⟩; have n0_ := Aside0.mk (Kd.R_elder' (by (with_reducible repeat (first | apply Kd.R_alloc | apply Kd.R_drewN | apply Kd.R_drew)); exact HO_3.out) (Kd.R_base ho0) hb); have n1_ := Aside0.mk (Kd.R_below (by (with_reducible repeat (first | apply Kd.R_alloc | apply Kd.R_drewN | apply Kd.R_drew)); exact HO6.out) hb); have n2_ := Aside0.mk (Kd.R_lower (Kd.R_new' ho0 (Kd.R_lt (by (with_reducible repeat (first | apply Kd.R_alloc | apply Kd.R_drewN | apply Kd.R_drew)); exact HO_3.out))) (below_size (by repeat (first | (with_reducible first | exact HB.out | apply below_alloc | apply pw_below_drewN | apply below_drew1) | exact HB.out)))); have n3_ := Aside0.mk (below_step (by repeat (first | (with_reducible first | exact HB.out | apply below_alloc | apply pw_below_drewN | apply below_drew1) | exact HB.out)) hb); clear HO_3; clear HO6; clear HB; have HO_3 := n0_; have HO6 := n1_; have HO9 := n2_; have HB := n3_; clear n0_ n1_ n2_ n3_; (try clear hb); (try clear hb2); (try clear hk); (try clear hi); (try clear ho0)) | ((with_reducible refine gate_dst (N := 8) rfl ?_); (try (refine gate_guard (by rfl) ?_; dsimp only)); refine box_event ?hg (N := 8) ?hd (cs := #[.slice none 0 0, .int .i64 0]) (t := 67) ?hr ?_; (case hd => rfl); (case hg => rfl); (case hr => first | (go_simp; done) | (go_simp; rfl)); intro gb11 hg w38 hbox hb; have n0_ := Aside0.mk (Kd.R_below (by (with_reducible repeat (first | apply Kd.R_alloc | apply Kd.R_drewN | apply Kd.R_drew)); exact HO_3.out) hb); have n1_ := Aside0.mk (Kd.R_below (by (with_reducible repeat (first | apply Kd.R_alloc | apply Kd.R_drewN | apply Kd.R_drew)); exact HO6.out) hb); have n2_ := Aside0.mk (Kd.R_below (by (with_reducible repeat (first | apply Kd.R_alloc | apply Kd.R_drewN | apply Kd.R_drew)); exact HO9.out) hb); have n3_ := Aside0.mk (below_step (by repeat (first | (with_reducible first | exact HB.out | apply below_alloc | apply pw_below_drewN | apply below_drew1) | exact HB.out)) hb); have n4_ := Aside0.mk (hbox); have n5_ := Aside0.mk ((by rw [hg]; exact (below_size (by repeat (first | (with_reducible first | exact HB.out | apply below_alloc | apply pw_below_drewN | apply below_drew1) | exact HB.out))) : w.heap.size ≤ gb11)); have n6_ := Aside0.mk ((by rw [hg]; exact (below_size (by repeat (first | (with_reducible first | exact HB.out | apply below_alloc | apply pw_below_drewN | apply below_drew1) | exact HB.out))) : w.heap.size ≤ gb11)); clear HO_3; clear HO6; clear HO9; clear HB; have HO_3 := n0_; have HO6 := n1_; have HO9 := n2_; have HB := n3_; have BK11 := n4_; have GW11 := n5_; have GE11 := n6_; clear n0_ n1_ n2_ n3_ n4_ n5_ n6_; clear hb hbox hg; obtain ⟨Ao39, co39, eo39⟩ := Kd.R_slice HO9.out; subst eo39; have hcz40_0 : w38.cell? ⟨gb11, 0, none⟩ = some (.slice none 0 0) := (blk_cell BK11.out 0).trans rfl; have hcz40_1 : w38.cell? ⟨gb11, 1, none⟩ = some (.int .i64 0) := (blk_cell BK11.out 1).trans rfl; have hfz40_0 := blk_frozen BK11.out 0; have hfz40_1 := blk_frozen BK11.out 1; have p12 : 0 ≤ ((ji24) : Int) := of_decide_eq_true (by first | (with_reducible assumption) | assumption); have q12 : (ji24) < (l0.length : Int) := of_decide_eq_true (by first | (with_reducible assumption) | assumption); obtain ⟨ad12, e12, hx12_0⟩ := Kd.at_int HR0.out (ji24) p12 q12; obtain rfl : ad1 = ad12 := (by injection e12); have hn12_0 : ad1.block ≠ gb11 := Nat.ne_of_lt (Nat.lt_of_lt_of_le (by have := World.block_lt_of_cell? _ _ hx12_0; first | rwa [add_block] at this | exact this) GW11.out); have hn12_1 : ad1.block ≠ gb11 := Nat.ne_of_lt (Nat.lt_of_lt_of_le (by have := World.block_lt_of_cell? _ _ hx12_0; first | rwa [add_block] at this | exact this) GW11.out); replace hx12_0 := (HB.out.cell (World.block_lt_of_cell? w _ hx12_0)).trans hx12_0; replace hx12_0 := (cell_far (p := ⟨gb11, 0, none⟩) (by first | (rw [add_block]; exact hn12_0) | (show (Addr.add _ _).block ≠ _; rw [add_block]; exact hn12_0) | exact hn12_0) (.slice Ao39 t7.length co39)).trans hx12_0; replace hx12_0 := (cell_far (p := ⟨gb11, 1, none⟩) (by first | (rw [add_block]; exact hn12_1) | (show (Addr.add _ _).block ≠ _; rw [add_block]; exact hn12_1) | exact hn12_1) (.int .i64 t10)).trans hx12_0; clear hn12_0; clear hn12_1; replace p12 := eq_true p12; replace q12 := eq_true q12; have p13 : 0 ≤ ((ji24) : Int) := of_decide_eq_true (by first | (with_reducible assumption) | assumption); have q13 : (ji24) < (l0.length : Int) := of_decide_eq_true (by first | (with_reducible assumption) | assumption); obtain ⟨ad13, e13, hx13_0⟩ := Kd.at_int HR0.out (ji24) p13 q13; obtain rfl : ad1 = ad13 := (by injection e13); have hn13_0 : ad1.block ≠ gb11 := Nat.ne_of_lt (Nat.lt_of_lt_of_le (by have := World.block_lt_of_cell? _ _ hx13_0; first | rwa [add_block] at this | exact this) GW11.out); have hn13_1 : ad1.block ≠ gb11 := Nat.ne_of_lt (Nat.lt_of_lt_of_le (by have := World.block_lt_of_cell? _ _ hx13_0; first | rwa [add_block] at this | exact this) GW11.out); replace hx13_0 := (HB.out.cell (World.block_lt_of_cell? w _ hx13_0)).trans hx13_0; replace hx13_0 := (cell_far (p := ⟨gb11, 0, none⟩) (by first | (rw [add_block]; exact hn13_0) | (show (Addr.add _ _).block ≠ _; rw [add_block]; exact hn13_0) | exact hn13_0) (.slice Ao39 t7.length co39)).trans hx13_0; replace hx13_0 := (cell_far (p := ⟨gb11, 1, none⟩) (by first | (rw [add_block]; exact hn13_1) | (show (Addr.add _ _).block ≠ _; rw [add_block]; exact hn13_1) | exact hn13_1) (.int .i64 t10)).trans hx13_0; clear hn13_0; clear hn13_1; replace p13 := eq_true p13; replace q13 := eq_true q13; have p14 : 0 ≤ ((ji28) : Int) := of_decide_eq_true (by first | (with_reducible assumption) | assumption); have q14 : (ji28) < (t7.length : Int) := of_decide_eq_true (by first | (with_reducible assumption) | assumption); obtain ⟨ad14, e14, hx14_0, hx14_1, hx14_2, hx14_3, hx14_4, hx14_5, hx14_6, hx14_7, hx14_8, hx14_9, hx14_10, hx14_11⟩ := at_T31 (Kd.R_reads' HO9.out).2.2 (ji28) p14 q14; cases e14; have hn14_0 : ad14.block ≠ gb11 := Kd.own_blk (Kd.R_ne HO9.out BK11.out (by decide)); have hn14_1 : ad14.block ≠ gb11 := Kd.own_blk (Kd.R_ne HO9.out BK11.out (by decide)); replace hx14_0 := (cell_far (p := ⟨gb11, 0, none⟩) (by first | (rw [add_block]; exact hn14_0) | (show (Addr.add _ _).block ≠ _; rw [add_block]; exact hn14_0) | exact hn14_0) (.slice (some ad14) t7.length co39)).trans hx14_0; replace hx14_1 := (cell_far (p := ⟨gb11, 0, none⟩) (by first | (rw [add_block]; exact hn14_0) | (show (Addr.add _ _).block ≠ _; rw [add_block]; exact hn14_0) | exact hn14_0) (.slice (some ad14) t7.length co39)).trans hx14_1; replace hx14_2 := (cell_far (p := ⟨gb11, 0, none⟩) (by first | (rw [add_block]; exact hn14_0) | (show (Addr.add _ _).block ≠ _; rw [add_block]; exact hn14_0) | exact hn14_0) (.slice (some ad14) t7.length co39)).trans hx14_2; replace hx14_3 := (cell_far (p := ⟨gb11, 0, none⟩) (by first | (rw [add_block]; exact hn14_0) | (show (Addr.add _ _).block ≠ _; rw [add_block]; exact hn14_0) | exact hn14_0) (.slice (some ad14) t7.length co39)).trans hx14_3; replace hx14_4 := (cell_far (p := ⟨gb11, 0, none⟩) (by first | (rw [add_block]; exact hn14_0) | (show (Addr.add _ _).block ≠ _; rw [add_block]; exact hn14_0) | exact hn14_0) (.slice (some ad14) t7.length co39)).trans hx14_4; replace hx14_5 := (cell_far (p := ⟨gb11, 0, none⟩) (by first | (rw [add_block]; exact hn14_0) | (show (Addr.add _ _).block ≠ _; rw [add_block]; exact hn14_0) | exact hn14_0) (.slice (some ad14) t7.length co39)).trans hx14_5; replace hx14_6 := (cell_far (p := ⟨gb11, 0, none⟩) (by first | (rw [add_block]; exact hn14_0) | (show (Addr.add _ _).block ≠ _; rw [add_block]; exact hn14_0) | exact hn14_0) (.slice (some ad14) t7.length co39)).trans hx14_6; replace hx14_7 := (cell_far (p := ⟨gb11, 0, none⟩) (by first | (rw [add_block]; exact hn14_0) | (show (Addr.add _ _).block ≠ _; rw [add_block]; exact hn14_0) | exact hn14_0) (.slice (some ad14) t7.length co39)).trans hx14_7; replace hx14_8 := (cell_far (p := ⟨gb11, 0, none⟩) (by first | (rw [add_block]; exact hn14_0) | (show (Addr.add _ _).block ≠ _; rw [add_block]; exact hn14_0) | exact hn14_0) (.slice (some ad14) t7.length co39)).trans hx14_8; replace hx14_9 := (cell_far (p := ⟨gb11, 0, none⟩) (by first | (rw [add_block]; exact hn14_0) | (show (Addr.add _ _).block ≠ _; rw [add_block]; exact hn14_0) | exact hn14_0) (.slice (some ad14) t7.length co39)).trans hx14_9; replace hx14_10 := (cell_far (p := ⟨gb11, 0, none⟩) (by first | (rw [add_block]; exact hn14_0) | (show (Addr.add _ _).block ≠ _; rw [add_block]; exact hn14_0) | exact hn14_0) (.slice (some ad14) t7.length co39)).trans hx14_10; replace hx14_11 := (cell_far (p := ⟨gb11, 0, none⟩) (by first | (rw [add_block]; exact hn14_0) | (show (Addr.add _ _).block ≠ _; rw [add_block]; exact hn14_0) | exact hn14_0) (.slice (some ad14) t7.length co39)).trans hx14_11; replace hx14_0 := (cell_far (p := ⟨gb11, 1, none⟩) (by first | (rw [add_block]; exact hn14_1) | (show (Addr.add _ _).block ≠ _; rw [add_block]; exact hn14_1) | exact hn14_1) (.int .i64 t10)).trans hx14_0; replace hx14_1 := (cell_far (p := ⟨gb11, 1, none⟩) (by first | (rw [add_block]; exact hn14_1) | (show (Addr.add _ _).block ≠ _; rw [add_block]; exact hn14_1) | exact hn14_1) (.int .i64 t10)).trans hx14_1; replace hx14_2 := (cell_far (p := ⟨gb11, 1, none⟩) (by first | (rw [add_block]; exact hn14_1) | (show (Addr.add _ _).block ≠ _; rw [add_block]; exact hn14_1) | exact hn14_1) (.int .i64 t10)).trans hx14_2; replace hx14_3 := (cell_far (p := ⟨gb11, 1, none⟩) (by first | (rw [add_block]; exact hn14_1) | (show (Addr.add _ _).block ≠ _; rw [add_block]; exact hn14_1) | exact hn14_1) (.int .i64 t10)).trans hx14_3; replace hx14_4 := (cell_far (p := ⟨gb11, 1, none⟩) (by first | (rw [add_block]; exact hn14_1) | (show (Addr.add _ _).block ≠ _; rw [add_block]; exact hn14_1) | exact hn14_1) (.int .i64 t10)).trans hx14_4; replace hx14_5 := (cell_far (p := ⟨gb11, 1, none⟩) (by first | (rw [add_block]; exact hn14_1) | (show (Addr.add _ _).block ≠ _; rw [add_block]; exact hn14_1) | exact hn14_1) (.int .i64 t10)).trans hx14_5; replace hx14_6 := (cell_far (p := ⟨gb11, 1, none⟩) (by first | (rw [add_block]; exact hn14_1) | (show (Addr.add _ _).block ≠ _; rw [add_block]; exact hn14_1) | exact hn14_1) (.int .i64 t10)).trans hx14_6; replace hx14_7 := (cell_far (p := ⟨gb11, 1, none⟩) (by first | (rw [add_block]; exact hn14_1) | (show (Addr.add _ _).block ≠ _; rw [add_block]; exact hn14_1) | exact hn14_1) (.int .i64 t10)).trans hx14_7; replace hx14_8 := (cell_far (p := ⟨gb11, 1, none⟩) (by first | (rw [add_block]; exact hn14_1) | (show (Addr.add _ _).block ≠ _; rw [add_block]; exact hn14_1) | exact hn14_1) (.int .i64 t10)).trans hx14_8; replace hx14_9 := (cell_far (p := ⟨gb11, 1, none⟩) (by first | (rw [add_block]; exact hn14_1) | (show (Addr.add _ _).block ≠ _; rw [add_block]; exact hn14_1) | exact hn14_1) (.int .i64 t10)).trans hx14_9; replace hx14_10 := (cell_far (p := ⟨gb11, 1, none⟩) (by first | (rw [add_block]; exact hn14_1) | (show (Addr.add _ _).block ≠ _; rw [add_block]; exact hn14_1) | exact hn14_1) (.int .i64 t10)).trans hx14_10; replace hx14_11 := (cell_far (p := ⟨gb11, 1, none⟩) (by first | (rw [add_block]; exact hn14_1) | (show (Addr.add _ _).block ≠ _; rw [add_block]; exact hn14_1) | exact hn14_1) (.int .i64 t10)).trans hx14_11; clear hn14_0; clear hn14_1; replace p14 := eq_true p14; replace q14 := eq_true q14) | ((with_reducible refine gate_callee (f := 66) rfl ?_); refine goesL_ (some 102) rfl rfl Try.func66 (by kernel_rfl) rfl #[.slice (some ad14) t7.length co39, .string ((rd_T31 t7 (ji28)).f0), .agg #[.int .i64 (Int.tmod (wrap64 (rd l0 (ji24))) 16), .int .i64 (wrap64 (Int.tdiv (Int.tmod (wrap64 (rd l0 (ji24))) 16) 2)), .int .i64 (Int.tmod (Int.tmod (wrap64 (rd l0 (ji24))) 16) 3)]] rfl (by (try simp only [List.map_toArray, List.map_cons, List.map_nil]); first | done | (simp only [hji24, hji28]; rfl) | rfl | (simp only [List.length_drop, List.length_take]; rfl)) ?_; (with_reducible refine (r10_Admit.calls kj11 _ _ t7 ((rd_T31 t7 (ji28)).f0) (Int.tmod (wrap64 (rd l0 (ji24))) 16) (wrap64 (Int.tdiv (Int.tmod (wrap64 (rd l0 (ji24))) 16) 2)) (Int.tmod (Int.tmod (wrap64 (rd l0 (ji24))) 16) 3) t15 t18 _ ?side1 ?side2 A31.out).mono ?_); (case side1 => refine (Kd.R_reads' (e := 31) (base := w.heap.size) (ok := fun k_ => (True ∧ some k_ ≠ (.slice Ao33 x3_1.length co33 : Value).ownBlock)) (n := t7.length) (c := co39) ?_).2.2; exact (by (with_reducible repeat (first | apply Kd.R_alloc | apply Kd.R_drewN | apply Kd.R_drew)); exact (Kd.R_mono (Kd.R_far (p := ⟨gb11, 1, none⟩) (Kd.R_far (p := ⟨gb11, 0, none⟩) (Kd.R_types HO9.out BK11.out (by decide)) (fun _ hk => hk.2) (.slice (some ad14) t7.length co39)) (fun _ hk => hk.2) (.int .i64 t10)) (fun _ h_ => h_.1)))); (case side2 => exact (Kd.R_reads' HO9.out).2.1); rintro e w41 ⟨v16, rfl, ho0, hb⟩; refine ⟨_, rfl, ?_⟩; have n0_ := Aside0.mk (Kd.R_elder' (by (with_reducible repeat (first | apply Kd.R_alloc | apply Kd.R_drewN | apply Kd.R_drew)); exact (Kd.R_mono (Kd.R_far (p := ⟨gb11, 1, none⟩) (Kd.R_far (p := ⟨gb11, 0, none⟩) (Kd.R_types HO_3.out BK11.out (by decide)) (fun _ hk => hk.2) (.slice (some ad14) t7.length co39)) (fun _ hk => hk.2) (.int .i64 t10)) (fun _ h_ => h_.1))) (Kd.R_base ho0) hb); have n1_ := Aside0.mk (Kd.R_below (by (with_reducible repeat (first | apply Kd.R_alloc | apply Kd.R_drewN | apply Kd.R_drew)); exact (Kd.R_mono (Kd.R_far (p := ⟨gb11, 1, none⟩) (Kd.R_far (p := ⟨gb11, 0, none⟩) (Kd.R_types HO6.out BK11.out (by decide)) (fun _ hk => hk.2) (.slice (some ad14) t7.length co39)) (fun _ hk => hk.2) (.int .i64 t10)) (fun _ h_ => h_.1))) hb); have n2_ := Aside0.mk (Kd.R_elder' (by (with_reducible repeat (first | apply Kd.R_alloc | apply Kd.R_drewN | apply Kd.R_drew)); exact (Kd.R_mono (Kd.R_far (p := ⟨gb11, 1, none⟩) (Kd.R_far (p := ⟨gb11, 0, none⟩) (Kd.R_types HO9.out BK11.out (by decide)) (fun _ hk => hk.2) (.slice (some ad14) t7.length co39)) (fun _ hk => hk.2) (.int .i64 t10)) (fun _ h_ => h_.1))) (Kd.R_base ho0) hb); have n3_ := Aside0.mk (Kd.R_lower (Kd.R_new' (Kd.R_new' ho0 (Kd.R_lt (by (with_reducible repeat (first | apply Kd.R_alloc | apply Kd.R_drewN | apply Kd.R_drew)); exact (Kd.R_mono (Kd.R_far (p := ⟨gb11, 1, none⟩) (Kd.R_far (p := ⟨gb11, 0, none⟩) (Kd.R_types HO_3.out BK11.out (by decide)) (fun _ hk => hk.2) (.slice (some ad14) t7.length co39)) (fun _ hk => hk.2) (.int .i64 t10)) (fun _ h_ => h_.1))))) (Kd.R_lt (by (with_reducible repeat (first | apply Kd.R_alloc | apply Kd.R_drewN | apply Kd.R_drew)); exact (Kd.R_mono (Kd.R_far (p := ⟨gb11, 1, none⟩) (Kd.R_far (p := ⟨gb11, 0, none⟩) (Kd.R_types HO9.out BK11.out (by decide)) (fun _ hk => hk.2) (.slice (some ad14) t7.length co39)) (fun _ hk => hk.2) (.int .i64 t10)) (fun _ h_ => h_.1))))) (below_size (by repeat (first | (with_reducible first | exact HB.out | apply below_alloc | apply pw_below_drewN | apply below_drew1 | refine below_set ?_ GE11.out) | exact HB.out)))); have n4_ := Aside0.mk (blk_below (g := gb11) (o := .cells #[.slice (some ad14) t7.length co39, .int .i64 t10] 67 (0, 0)) (by (with_reducible repeat (first | refine blk_drewN ?_ _ | refine blk_drew ?_ | refine blk_alloc ?_ _)); refine blk_put (cs := #[.slice (some ad14) t7.length co39, .int .i64 0]) ?_ 1 _ rfl; (with_reducible repeat (first | refine blk_drewN ?_ _ | refine blk_drew ?_ | refine blk_alloc ?_ _)); refine blk_put (cs := #[.slice none 0 0, .int .i64 0]) ?_ 0 _ rfl; (with_reducible repeat (first | refine blk_drewN ?_ _ | refine blk_drew ?_ | refine blk_alloc ?_ _)); exact BK11.out) hb); have n5_ := Aside0.mk (below_step (by repeat (first | (with_reducible first | exact HB.out | apply below_alloc | apply pw_below_drewN | apply below_drew1 | refine below_set ?_ GE11.out) | exact HB.out)) hb); clear HO_3; clear HO6; clear HO9; clear BK11; clear HB; have HO_3 := n0_; have HO6 := n1_; have HO9 := n2_; have HO17 := n3_; have BK11 := n4_; have HB := n5_; clear n0_ n1_ n2_ n3_ n4_ n5_; (try clear hb); (try clear hb2); (try clear hk); (try clear hi); (try clear ho0)) | ((with_reducible refine gate_dst (N := 11) rfl ?_); (try (refine gate_guard (by rfl) ?_; dsimp only)); refine box_event ?hg (N := 11) ?hd (cs := #[.slice none 0 0, .int .i64 0]) (t := 67) ?hr ?_; (case hd => rfl); (case hg => rfl); (case hr => first | (go_simp; done) | (go_simp; rfl)); intro gb19 hg w42 hbox hb; have n0_ := Aside0.mk (Kd.R_below (by (with_reducible repeat (first | apply Kd.R_alloc | apply Kd.R_drewN | apply Kd.R_drew)); exact HO_3.out) hb); have n1_ := Aside0.mk (Kd.R_below (by (with_reducible repeat (first | apply Kd.R_alloc | apply Kd.R_drewN | apply Kd.R_drew)); exact HO6.out) hb); have n2_ := Aside0.mk (Kd.R_below (by (with_reducible repeat (first | apply Kd.R_alloc | apply Kd.R_drewN | apply Kd.R_drew)); exact HO9.out) hb); have n3_ := Aside0.mk (Kd.R_below (by (with_reducible repeat (first | apply Kd.R_alloc | apply Kd.R_drewN | apply Kd.R_drew)); exact HO17.out) hb); have n4_ := Aside0.mk (blk_below (g := gb11) (o := .cells #[.slice (some ad14) t7.length co39, .int .i64 t10] 67 (0, 0)) (by (with_reducible repeat (first | refine blk_drewN ?_ _ | refine blk_drew ?_ | refine blk_alloc ?_ _)); exact BK11.out) hb); have n5_ := Aside0.mk (below_step (by repeat (first | (with_reducible first | exact HB.out | apply below_alloc | apply pw_below_drewN | apply below_drew1 | refine below_set ?_ GE11.out) | exact HB.out)) hb); have n6_ := Aside0.mk (hbox); have n7_ := Aside0.mk ((by rw [hg]; exact (below_size (by repeat (first | (with_reducible first | exact HB.out | apply below_alloc | apply pw_below_drewN | apply below_drew1 | refine below_set ?_ GE11.out) | exact HB.out))) : w.heap.size ≤ gb19)); have n8_ := Aside0.mk ((by rw [hg]; exact (below_size (by repeat (first | (with_reducible first | exact HB.out | apply below_alloc | apply pw_below_drewN | apply below_drew1 | refine below_set ?_ GE11.out) | exact HB.out))) : w.heap.size ≤ gb19)); have n9_ := Aside0.mk ((by rw [hg]; exact Nat.ne_of_lt (blk_lt (g := gb11) (o := .cells #[.slice (some ad14) t7.length co39, .int .i64 t10] 67 (0, 0)) (by (with_reducible repeat (first | refine blk_drewN ?_ _ | refine blk_drew ?_ | refine blk_alloc ?_ _)); exact BK11.out)) : gb11 ≠ gb19)); have n10_ := Aside0.mk ((by rw [hg]; exact Nat.ne_of_gt (blk_lt (g := gb11) (o := .cells #[.slice (some ad14) t7.length co39, .int .i64 t10] 67 (0, 0)) (by (with_reducible repeat (first | refine blk_drewN ?_ _ | refine blk_drew ?_ | refine blk_alloc ?_ _)); exact BK11.out)) : gb19 ≠ gb11)); clear HO_3; clear HO6; clear HO9; clear HO17; clear BK11; clear HB; have HO_3 := n0_; have HO6 := n1_; have HO9 := n2_; have HO17 := n3_; have BK11 := n4_; have HB := n5_; have BK19 := n6_; have GW19 := n7_; have GE19 := n8_; have NB11_19 := n9_; have NB19_11 := n10_; clear n0_ n1_ n2_ n3_ n4_ n5_ n6_ n7_ n8_ n9_ n10_; clear hb hbox hg; obtain ⟨Ao43, co43, eo43⟩ := Kd.R_slice HO17.out; subst eo43; have hnb44 := NB19_11.out; have hnc44 := NB11_19.out; have hcz45_0 : w42.cell? ⟨gb19, 0, none⟩ = some (.slice none 0 0) := (blk_cell BK19.out 0).trans rfl; have hcz45_1 : w42.cell? ⟨gb19, 1, none⟩ = some (.int .i64 0) := (blk_cell BK19.out 1).trans rfl; have hfz45_0 := blk_frozen BK19.out 0; have hfz45_1 := blk_frozen BK19.out 1))
                     go_roundg kj11
                     case measure => have := HK1.out; have := HJ1.out; have := HJ7.out; have := HJ11.out; omega
                     case rel => exact ⟨(t15), (wrap64 (x4_1 + 3)), (by first | rfl | (simp; done) | (simp [*]; done)), H', ⟨by have := HK1.out; have := HJ1.out; have := HJ7.out; have := HJ11.out; omega⟩, ⟨by (with_reducible repeat (first | apply Kd.R_alloc | apply Kd.R_drewN | apply Kd.R_drew)); exact Kd.R_mono (Kd.R_far (p := ⟨gb19, 1, none⟩) (Kd.R_far (p := ⟨gb19, 0, none⟩) (Kd.R_types HO17.out BK19.out (by decide)) (fun _ hk => hk.2) (.slice Ao43 t15.length co43)) (fun _ hk => hk.2) (.int .i64 t18)) (fun _ hk => trivial)⟩, ⟨by repeat (first | (with_reducible first | exact HB.out | apply below_alloc | apply pw_below_drewN | apply below_drew1 | refine below_set ?_ GE11.out | refine below_set ?_ GE19.out) | exact HB.out)⟩⟩
                    ·rw [if_neg c32] at H
                     have c32b0 : (t18 == 0) = false := beq_eq_false_iff_ne.mpr c32
                     have c32b1 : (t18 != 0) = true := bne_iff_ne.mpr c32
                     have H' := Aside0.mk H
                     clear H
                     have p3 : 0 ≤ ((ji19) : Int) := of_decide_eq_true (by first | (with_reducible assumption) | assumption)
                     have q3 : (ji19) < (l0.length : Int) := of_decide_eq_true (by first | (with_reducible assumption) | assumption)
                     obtain ⟨ad3, e3, hx3_0⟩ := Kd.at_int HR0.out (ji19) p3 q3
                     obtain rfl : ad1 = ad3 := (by injection e3)
                     replace hx3_0 := (HB.out.cell (World.block_lt_of_cell? w _ hx3_0)).trans hx3_0
                     replace p3 := eq_true p3
                     replace q3 := eq_true q3
                     obtain ⟨Ao46, co46, eo46⟩ := Kd.R_slice HO_3.out
                     subst eo46
                     go_wp2_with (first | ((with_reducible refine gate_dst (N := 60) rfl ?_); (try (refine gate_guard (by rfl) ?_; dsimp only)); refine Kd.R_lit (Kd.int .u8) _ 5 ?hg (N := 60) ?hd (xs := ([(wrap64 (97 + (Int.tmod (wrap64 ((x3_1.length : Int) * 5)) 24))) % 256] : List Int)) (inner := [.int .u8 ((wrap64 (97 + (Int.tmod (wrap64 ((x3_1.length : Int) * 5)) 24))) % 256)]) (ok := fun _ => True) (okp := fun _ => True) ?hr ?hp (fun _ hk => hk) trivial (Below.refl _ _) (Nat.le_refl _) (by simp) ?_; (case hd => rfl); (case hg => rfl); (case hr => first | (go_simp; done) | (go_simp; rfl)); (case hp => exact (Reps.one (show Kd.M (Kd.int .u8) _ _ _ ((wrap64 (97 + (Int.tmod (wrap64 ((x3_1.length : Int) * 5)) 24))) % 256) [.int .u8 ((wrap64 (97 + (Int.tmod (wrap64 ((x3_1.length : Int) * 5)) 24))) % 256)] from rfl) (Reps.none _ _))); intro v5 w47 ho48 hb hg_ hnew_; clear hg_ hnew_; (first | rw [← Ny4.out] at ho48 | (simp only [Int.reduceToNat] at ho48; rw [← Ny4.out] at ho48)); have n0_ := Aside0.mk (Kd.R_below (by (with_reducible repeat (first | apply Kd.R_alloc | apply Kd.R_drewN | apply Kd.R_drew)); exact HO_3.out) hb); have n1_ := Aside0.mk (Kd.R_lower ho48 (below_size (by repeat (first | (with_reducible first | exact HB.out | apply below_alloc | apply pw_below_drewN | apply below_drew1) | exact HB.out)))); have n2_ := Aside0.mk (below_step (by repeat (first | (with_reducible first | exact HB.out | apply below_alloc | apply pw_below_drewN | apply below_drew1) | exact HB.out)) hb); clear HO_3; clear HB; have HO_3 := n0_; have HO6 := n1_; have HB := n2_; clear n0_ n1_ n2_; clear hb ho48; have hcv49 := own_string (P := Try.prog) Try.underlying22 Try.underlying5 Try.underlying9 (Kd.own_of_R HO6.out)) | ((with_reducible refine gate_callee (f := 83) rfl ?_); refine goesL_ (some 67) rfl rfl Try.func83 (by kernel_rfl) rfl #[.slice Ao46 x3_1.length co46, .string (strOfNums y4), .string x6_11, .agg #[.int .i64 (wrap64 (20 + (wrap64 (rd l0 (ji19))))), .int .i64 (wrap64 (20 + (wrap64 (rd l0 (ji19))))), .int .i64 (wrap64 (20 + (wrap64 (rd l0 (ji19)))))]] rfl (by (try simp only [List.map_toArray, List.map_cons, List.map_nil]); first | done | (simp only [hji19]; rfl) | rfl | (simp only [List.length_drop, List.length_take]; rfl)) ?_; (with_reducible refine (r10_Create.calls kj11 _ _ x3_1 (strOfNums y4) x6_11 (wrap64 (20 + (wrap64 (rd l0 (ji19))))) (wrap64 (20 + (wrap64 (rd l0 (ji19))))) (wrap64 (20 + (wrap64 (rd l0 (ji19))))) t7 t10 _ ?side1 ?side2 A22.out).mono ?_); (case side1 => repeat (first | exact (Kd.R_reads' HO_3.out).2.2 | (with_reducible refine Kd.C_alloc ?_ _) | (with_reducible refine Kd.C_drewN ?_ _) | (with_reducible refine Kd.C_drew ?_))); (case side2 => exact (Kd.R_reads' HO_3.out).2.1); rintro e w50 ⟨v8, rfl, ho0, hb⟩; refine ⟨_, rfl, ?_⟩; have n0_ := Aside0.mk (Kd.R_elder' (by (with_reducible repeat (first | apply Kd.R_alloc | apply Kd.R_drewN | apply Kd.R_drew)); exact HO_3.out) (Kd.R_base ho0) hb); have n1_ := Aside0.mk (Kd.R_below (by (with_reducible repeat (first | apply Kd.R_alloc | apply Kd.R_drewN | apply Kd.R_drew)); exact HO6.out) hb); have n2_ := Aside0.mk (Kd.R_lower (Kd.R_new' ho0 (Kd.R_lt (by (with_reducible repeat (first | apply Kd.R_alloc | apply Kd.R_drewN | apply Kd.R_drew)); exact HO_3.out))) (below_size (by repeat (first | (with_reducible first | exact HB.out | apply below_alloc | apply pw_below_drewN | apply below_drew1) | exact HB.out)))); have n3_ := Aside0.mk (below_step (by repeat (first | (with_reducible first | exact HB.out | apply below_alloc | apply pw_below_drewN | apply below_drew1) | exact HB.out)) hb); clear HO_3; clear HO6; clear HB; have HO_3 := n0_; have HO6 := n1_; have HO9 := n2_; have HB := n3_; clear n0_ n1_ n2_ n3_; (try clear hb); (try clear hb2); (try clear hk); (try clear hi); (try clear ho0)) | ((with_reducible refine gate_dst (N := 8) rfl ?_); (try (refine gate_guard (by rfl) ?_; dsimp only)); refine box_event ?hg (N := 8) ?hd (cs := #[.slice none 0 0, .int .i64 0]) (t := 67) ?hr ?_; (case hd => rfl); (case hg => rfl); (case hr => first | (go_simp; done) | (go_simp; rfl)); intro gb11 hg w51 hbox hb; have n0_ := Aside0.mk (Kd.R_below (by (with_reducible repeat (first | apply Kd.R_alloc | apply Kd.R_drewN | apply Kd.R_drew)); exact HO_3.out) hb); have n1_ := Aside0.mk (Kd.R_below (by (with_reducible repeat (first | apply Kd.R_alloc | apply Kd.R_drewN | apply Kd.R_drew)); exact HO6.out) hb); have n2_ := Aside0.mk (Kd.R_below (by (with_reducible repeat (first | apply Kd.R_alloc | apply Kd.R_drewN | apply Kd.R_drew)); exact HO9.out) hb); have n3_ := Aside0.mk (below_step (by repeat (first | (with_reducible first | exact HB.out | apply below_alloc | apply pw_below_drewN | apply below_drew1) | exact HB.out)) hb); have n4_ := Aside0.mk (hbox); have n5_ := Aside0.mk ((by rw [hg]; exact (below_size (by repeat (first | (with_reducible first | exact HB.out | apply below_alloc | apply pw_below_drewN | apply below_drew1) | exact HB.out))) : w.heap.size ≤ gb11)); have n6_ := Aside0.mk ((by rw [hg]; exact (below_size (by repeat (first | (with_reducible first | exact HB.out | apply below_alloc | apply pw_below_drewN | apply below_drew1) | exact HB.out))) : w.heap.size ≤ gb11)); clear HO_3; clear HO6; clear HO9; clear HB; have HO_3 := n0_; have HO6 := n1_; have HO9 := n2_; have HB := n3_; have BK11 := n4_; have GW11 := n5_; have GE11 := n6_; clear n0_ n1_ n2_ n3_ n4_ n5_ n6_; clear hb hbox hg; obtain ⟨Ao52, co52, eo52⟩ := Kd.R_slice HO9.out; subst eo52; have hcz53_0 : w51.cell? ⟨gb11, 0, none⟩ = some (.slice none 0 0) := (blk_cell BK11.out 0).trans rfl; have hcz53_1 : w51.cell? ⟨gb11, 1, none⟩ = some (.int .i64 0) := (blk_cell BK11.out 1).trans rfl; have hfz53_0 := blk_frozen BK11.out 0; have hfz53_1 := blk_frozen BK11.out 1; have p12 : 0 ≤ ((ji24) : Int) := of_decide_eq_true (by first | (with_reducible assumption) | assumption); have q12 : (ji24) < (l0.length : Int) := of_decide_eq_true (by first | (with_reducible assumption) | assumption); obtain ⟨ad12, e12, hx12_0⟩ := Kd.at_int HR0.out (ji24) p12 q12; obtain rfl : ad1 = ad12 := (by injection e12); have hn12_0 : ad1.block ≠ gb11 := Nat.ne_of_lt (Nat.lt_of_lt_of_le (by have := World.block_lt_of_cell? _ _ hx12_0; first | rwa [add_block] at this | exact this) GW11.out); have hn12_1 : ad1.block ≠ gb11 := Nat.ne_of_lt (Nat.lt_of_lt_of_le (by have := World.block_lt_of_cell? _ _ hx12_0; first | rwa [add_block] at this | exact this) GW11.out); replace hx12_0 := (HB.out.cell (World.block_lt_of_cell? w _ hx12_0)).trans hx12_0; replace hx12_0 := (cell_far (p := ⟨gb11, 0, none⟩) (by first | (rw [add_block]; exact hn12_0) | (show (Addr.add _ _).block ≠ _; rw [add_block]; exact hn12_0) | exact hn12_0) (.slice Ao52 t7.length co52)).trans hx12_0; replace hx12_0 := (cell_far (p := ⟨gb11, 1, none⟩) (by first | (rw [add_block]; exact hn12_1) | (show (Addr.add _ _).block ≠ _; rw [add_block]; exact hn12_1) | exact hn12_1) (.int .i64 t10)).trans hx12_0; clear hn12_0; clear hn12_1; replace p12 := eq_true p12; replace q12 := eq_true q12; have p13 : 0 ≤ ((ji24) : Int) := of_decide_eq_true (by first | (with_reducible assumption) | assumption); have q13 : (ji24) < (l0.length : Int) := of_decide_eq_true (by first | (with_reducible assumption) | assumption); obtain ⟨ad13, e13, hx13_0⟩ := Kd.at_int HR0.out (ji24) p13 q13; obtain rfl : ad1 = ad13 := (by injection e13); have hn13_0 : ad1.block ≠ gb11 := Nat.ne_of_lt (Nat.lt_of_lt_of_le (by have := World.block_lt_of_cell? _ _ hx13_0; first | rwa [add_block] at this | exact this) GW11.out); have hn13_1 : ad1.block ≠ gb11 := Nat.ne_of_lt (Nat.lt_of_lt_of_le (by have := World.block_lt_of_cell? _ _ hx13_0; first | rwa [add_block] at this | exact this) GW11.out); replace hx13_0 := (HB.out.cell (World.block_lt_of_cell? w _ hx13_0)).trans hx13_0; replace hx13_0 := (cell_far (p := ⟨gb11, 0, none⟩) (by first | (rw [add_block]; exact hn13_0) | (show (Addr.add _ _).block ≠ _; rw [add_block]; exact hn13_0) | exact hn13_0) (.slice Ao52 t7.length co52)).trans hx13_0; replace hx13_0 := (cell_far (p := ⟨gb11, 1, none⟩) (by first | (rw [add_block]; exact hn13_1) | (show (Addr.add _ _).block ≠ _; rw [add_block]; exact hn13_1) | exact hn13_1) (.int .i64 t10)).trans hx13_0; clear hn13_0; clear hn13_1; replace p13 := eq_true p13; replace q13 := eq_true q13; have p14 : 0 ≤ ((ji28) : Int) := of_decide_eq_true (by first | (with_reducible assumption) | assumption); have q14 : (ji28) < (t7.length : Int) := of_decide_eq_true (by first | (with_reducible assumption) | assumption); obtain ⟨ad14, e14, hx14_0, hx14_1, hx14_2, hx14_3, hx14_4, hx14_5, hx14_6, hx14_7, hx14_8, hx14_9, hx14_10, hx14_11⟩ := at_T31 (Kd.R_reads' HO9.out).2.2 (ji28) p14 q14; cases e14; have hn14_0 : ad14.block ≠ gb11 := Kd.own_blk (Kd.R_ne HO9.out BK11.out (by decide)); have hn14_1 : ad14.block ≠ gb11 := Kd.own_blk (Kd.R_ne HO9.out BK11.out (by decide)); replace hx14_0 := (cell_far (p := ⟨gb11, 0, none⟩) (by first | (rw [add_block]; exact hn14_0) | (show (Addr.add _ _).block ≠ _; rw [add_block]; exact hn14_0) | exact hn14_0) (.slice (some ad14) t7.length co52)).trans hx14_0; replace hx14_1 := (cell_far (p := ⟨gb11, 0, none⟩) (by first | (rw [add_block]; exact hn14_0) | (show (Addr.add _ _).block ≠ _; rw [add_block]; exact hn14_0) | exact hn14_0) (.slice (some ad14) t7.length co52)).trans hx14_1; replace hx14_2 := (cell_far (p := ⟨gb11, 0, none⟩) (by first | (rw [add_block]; exact hn14_0) | (show (Addr.add _ _).block ≠ _; rw [add_block]; exact hn14_0) | exact hn14_0) (.slice (some ad14) t7.length co52)).trans hx14_2; replace hx14_3 := (cell_far (p := ⟨gb11, 0, none⟩) (by first | (rw [add_block]; exact hn14_0) | (show (Addr.add _ _).block ≠ _; rw [add_block]; exact hn14_0) | exact hn14_0) (.slice (some ad14) t7.length co52)).trans hx14_3; replace hx14_4 := (cell_far (p := ⟨gb11, 0, none⟩) (by first | (rw [add_block]; exact hn14_0) | (show (Addr.add _ _).block ≠ _; rw [add_block]; exact hn14_0) | exact hn14_0) (.slice (some ad14) t7.length co52)).trans hx14_4; replace hx14_5 := (cell_far (p := ⟨gb11, 0, none⟩) (by first | (rw [add_block]; exact hn14_0) | (show (Addr.add _ _).block ≠ _; rw [add_block]; exact hn14_0) | exact hn14_0) (.slice (some ad14) t7.length co52)).trans hx14_5; replace hx14_6 := (cell_far (p := ⟨gb11, 0, none⟩) (by first | (rw [add_block]; exact hn14_0) | (show (Addr.add _ _).block ≠ _; rw [add_block]; exact hn14_0) | exact hn14_0) (.slice (some ad14) t7.length co52)).trans hx14_6; replace hx14_7 := (cell_far (p := ⟨gb11, 0, none⟩) (by first | (rw [add_block]; exact hn14_0) | (show (Addr.add _ _).block ≠ _; rw [add_block]; exact hn14_0) | exact hn14_0) (.slice (some ad14) t7.length co52)).trans hx14_7; replace hx14_8 := (cell_far (p := ⟨gb11, 0, none⟩) (by first | (rw [add_block]; exact hn14_0) | (show (Addr.add _ _).block ≠ _; rw [add_block]; exact hn14_0) | exact hn14_0) (.slice (some ad14) t7.length co52)).trans hx14_8; replace hx14_9 := (cell_far (p := ⟨gb11, 0, none⟩) (by first | (rw [add_block]; exact hn14_0) | (show (Addr.add _ _).block ≠ _; rw [add_block]; exact hn14_0) | exact hn14_0) (.slice (some ad14) t7.length co52)).trans hx14_9; replace hx14_10 := (cell_far (p := ⟨gb11, 0, none⟩) (by first | (rw [add_block]; exact hn14_0) | (show (Addr.add _ _).block ≠ _; rw [add_block]; exact hn14_0) | exact hn14_0) (.slice (some ad14) t7.length co52)).trans hx14_10; replace hx14_11 := (cell_far (p := ⟨gb11, 0, none⟩) (by first | (rw [add_block]; exact hn14_0) | (show (Addr.add _ _).block ≠ _; rw [add_block]; exact hn14_0) | exact hn14_0) (.slice (some ad14) t7.length co52)).trans hx14_11; replace hx14_0 := (cell_far (p := ⟨gb11, 1, none⟩) (by first | (rw [add_block]; exact hn14_1) | (show (Addr.add _ _).block ≠ _; rw [add_block]; exact hn14_1) | exact hn14_1) (.int .i64 t10)).trans hx14_0; replace hx14_1 := (cell_far (p := ⟨gb11, 1, none⟩) (by first | (rw [add_block]; exact hn14_1) | (show (Addr.add _ _).block ≠ _; rw [add_block]; exact hn14_1) | exact hn14_1) (.int .i64 t10)).trans hx14_1; replace hx14_2 := (cell_far (p := ⟨gb11, 1, none⟩) (by first | (rw [add_block]; exact hn14_1) | (show (Addr.add _ _).block ≠ _; rw [add_block]; exact hn14_1) | exact hn14_1) (.int .i64 t10)).trans hx14_2; replace hx14_3 := (cell_far (p := ⟨gb11, 1, none⟩) (by first | (rw [add_block]; exact hn14_1) | (show (Addr.add _ _).block ≠ _; rw [add_block]; exact hn14_1) | exact hn14_1) (.int .i64 t10)).trans hx14_3; replace hx14_4 := (cell_far (p := ⟨gb11, 1, none⟩) (by first | (rw [add_block]; exact hn14_1) | (show (Addr.add _ _).block ≠ _; rw [add_block]; exact hn14_1) | exact hn14_1) (.int .i64 t10)).trans hx14_4; replace hx14_5 := (cell_far (p := ⟨gb11, 1, none⟩) (by first | (rw [add_block]; exact hn14_1) | (show (Addr.add _ _).block ≠ _; rw [add_block]; exact hn14_1) | exact hn14_1) (.int .i64 t10)).trans hx14_5; replace hx14_6 := (cell_far (p := ⟨gb11, 1, none⟩) (by first | (rw [add_block]; exact hn14_1) | (show (Addr.add _ _).block ≠ _; rw [add_block]; exact hn14_1) | exact hn14_1) (.int .i64 t10)).trans hx14_6; replace hx14_7 := (cell_far (p := ⟨gb11, 1, none⟩) (by first | (rw [add_block]; exact hn14_1) | (show (Addr.add _ _).block ≠ _; rw [add_block]; exact hn14_1) | exact hn14_1) (.int .i64 t10)).trans hx14_7; replace hx14_8 := (cell_far (p := ⟨gb11, 1, none⟩) (by first | (rw [add_block]; exact hn14_1) | (show (Addr.add _ _).block ≠ _; rw [add_block]; exact hn14_1) | exact hn14_1) (.int .i64 t10)).trans hx14_8; replace hx14_9 := (cell_far (p := ⟨gb11, 1, none⟩) (by first | (rw [add_block]; exact hn14_1) | (show (Addr.add _ _).block ≠ _; rw [add_block]; exact hn14_1) | exact hn14_1) (.int .i64 t10)).trans hx14_9; replace hx14_10 := (cell_far (p := ⟨gb11, 1, none⟩) (by first | (rw [add_block]; exact hn14_1) | (show (Addr.add _ _).block ≠ _; rw [add_block]; exact hn14_1) | exact hn14_1) (.int .i64 t10)).trans hx14_10; replace hx14_11 := (cell_far (p := ⟨gb11, 1, none⟩) (by first | (rw [add_block]; exact hn14_1) | (show (Addr.add _ _).block ≠ _; rw [add_block]; exact hn14_1) | exact hn14_1) (.int .i64 t10)).trans hx14_11; clear hn14_0; clear hn14_1; replace p14 := eq_true p14; replace q14 := eq_true q14) | ((with_reducible refine gate_callee (f := 66) rfl ?_); refine goesL_ (some 102) rfl rfl Try.func66 (by kernel_rfl) rfl #[.slice (some ad14) t7.length co52, .string ((rd_T31 t7 (ji28)).f0), .agg #[.int .i64 (Int.tmod (wrap64 (rd l0 (ji24))) 16), .int .i64 (wrap64 (Int.tdiv (Int.tmod (wrap64 (rd l0 (ji24))) 16) 2)), .int .i64 (Int.tmod (Int.tmod (wrap64 (rd l0 (ji24))) 16) 3)]] rfl (by (try simp only [List.map_toArray, List.map_cons, List.map_nil]); first | done | (simp only [hji24, hji28]; rfl) | rfl | (simp only [List.length_drop, List.length_take]; rfl)) ?_; (with_reducible refine (r10_Admit.calls kj11 _ _ t7 ((rd_T31 t7 (ji28)).f0) (Int.tmod (wrap64 (rd l0 (ji24))) 16) (wrap64 (Int.tdiv (Int.tmod (wrap64 (rd l0 (ji24))) 16) 2)) (Int.tmod (Int.tmod (wrap64 (rd l0 (ji24))) 16) 3) t15 t18 _ ?side1 ?side2 A31.out).mono ?_); (case side1 => refine (Kd.R_reads' (e := 31) (base := w.heap.size) (ok := fun k_ => (True ∧ some k_ ≠ (.slice Ao46 x3_1.length co46 : Value).ownBlock)) (n := t7.length) (c := co52) ?_).2.2; exact (by (with_reducible repeat (first | apply Kd.R_alloc | apply Kd.R_drewN | apply Kd.R_drew)); exact (Kd.R_mono (Kd.R_far (p := ⟨gb11, 1, none⟩) (Kd.R_far (p := ⟨gb11, 0, none⟩) (Kd.R_types HO9.out BK11.out (by decide)) (fun _ hk => hk.2) (.slice (some ad14) t7.length co52)) (fun _ hk => hk.2) (.int .i64 t10)) (fun _ h_ => h_.1)))); (case side2 => exact (Kd.R_reads' HO9.out).2.1); rintro e w54 ⟨v16, rfl, ho0, hb⟩; refine ⟨_, rfl, ?_⟩; have n0_ := Aside0.mk (Kd.R_elder' (by (with_reducible repeat (first | apply Kd.R_alloc | apply Kd.R_drewN | apply Kd.R_drew)); exact (Kd.R_mono (Kd.R_far (p := ⟨gb11, 1, none⟩) (Kd.R_far (p := ⟨gb11, 0, none⟩) (Kd.R_types HO_3.out BK11.out (by decide)) (fun _ hk => hk.2) (.slice (some ad14) t7.length co52)) (fun _ hk => hk.2) (.int .i64 t10)) (fun _ h_ => h_.1))) (Kd.R_base ho0) hb); have n1_ := Aside0.mk (Kd.R_below (by (with_reducible repeat (first | apply Kd.R_alloc | apply Kd.R_drewN | apply Kd.R_drew)); exact (Kd.R_mono (Kd.R_far (p := ⟨gb11, 1, none⟩) (Kd.R_far (p := ⟨gb11, 0, none⟩) (Kd.R_types HO6.out BK11.out (by decide)) (fun _ hk => hk.2) (.slice (some ad14) t7.length co52)) (fun _ hk => hk.2) (.int .i64 t10)) (fun _ h_ => h_.1))) hb); have n2_ := Aside0.mk (Kd.R_elder' (by (with_reducible repeat (first | apply Kd.R_alloc | apply Kd.R_drewN | apply Kd.R_drew)); exact (Kd.R_mono (Kd.R_far (p := ⟨gb11, 1, none⟩) (Kd.R_far (p := ⟨gb11, 0, none⟩) (Kd.R_types HO9.out BK11.out (by decide)) (fun _ hk => hk.2) (.slice (some ad14) t7.length co52)) (fun _ hk => hk.2) (.int .i64 t10)) (fun _ h_ => h_.1))) (Kd.R_base ho0) hb); have n3_ := Aside0.mk (Kd.R_lower (Kd.R_new' (Kd.R_new' ho0 (Kd.R_lt (by (with_reducible repeat (first | apply Kd.R_alloc | apply Kd.R_drewN | apply Kd.R_drew)); exact (Kd.R_mono (Kd.R_far (p := ⟨gb11, 1, none⟩) (Kd.R_far (p := ⟨gb11, 0, none⟩) (Kd.R_types HO_3.out BK11.out (by decide)) (fun _ hk => hk.2) (.slice (some ad14) t7.length co52)) (fun _ hk => hk.2) (.int .i64 t10)) (fun _ h_ => h_.1))))) (Kd.R_lt (by (with_reducible repeat (first | apply Kd.R_alloc | apply Kd.R_drewN | apply Kd.R_drew)); exact (Kd.R_mono (Kd.R_far (p := ⟨gb11, 1, none⟩) (Kd.R_far (p := ⟨gb11, 0, none⟩) (Kd.R_types HO9.out BK11.out (by decide)) (fun _ hk => hk.2) (.slice (some ad14) t7.length co52)) (fun _ hk => hk.2) (.int .i64 t10)) (fun _ h_ => h_.1))))) (below_size (by repeat (first | (with_reducible first | exact HB.out | apply below_alloc | apply pw_below_drewN | apply below_drew1 | refine below_set ?_ GE11.out) | exact HB.out)))); have n4_ := Aside0.mk (blk_below (g := gb11) (o := .cells #[.slice (some ad14) t7.length co52, .int .i64 t10] 67 (0, 0)) (by (with_reducible repeat (first | refine blk_drewN ?_ _ | refine blk_drew ?_ | refine blk_alloc ?_ _)); refine blk_put (cs := #[.slice (some ad14) t7.length co52, .int .i64 0]) ?_ 1 _ rfl; (with_reducible repeat (first | refine blk_drewN ?_ _ | refine blk_drew ?_ | refine blk_alloc ?_ _)); refine blk_put (cs := #[.slice none 0 0, .int .i64 0]) ?_ 0 _ rfl; (with_reducible repeat (first | refine blk_drewN ?_ _ | refine blk_drew ?_ | refine blk_alloc ?_ _)); exact BK11.out) hb); have n5_ := Aside0.mk (below_step (by repeat (first | (with_reducible first | exact HB.out | apply below_alloc | apply pw_below_drewN | apply below_drew1 | refine below_set ?_ GE11.out) | exact HB.out)) hb); clear HO_3; clear HO6; clear HO9; clear BK11; clear HB; have HO_3 := n0_; have HO6 := n1_; have HO9 := n2_; have HO17 := n3_; have BK11 := n4_; have HB := n5_; clear n0_ n1_ n2_ n3_ n4_ n5_; (try clear hb); (try clear hb2); (try clear hk); (try clear hi); (try clear ho0)) | ((with_reducible refine gate_dst (N := 11) rfl ?_); (try (refine gate_guard (by rfl) ?_; dsimp only)); refine box_event ?hg (N := 11) ?hd (cs := #[.slice none 0 0, .int .i64 0]) (t := 67) ?hr ?_; (case hd => rfl); (case hg => rfl); (case hr => first | (go_simp; done) | (go_simp; rfl)); intro gb19 hg w55 hbox hb; have n0_ := Aside0.mk (Kd.R_below (by (with_reducible repeat (first | apply Kd.R_alloc | apply Kd.R_drewN | apply Kd.R_drew)); exact HO_3.out) hb); have n1_ := Aside0.mk (Kd.R_below (by (with_reducible repeat (first | apply Kd.R_alloc | apply Kd.R_drewN | apply Kd.R_drew)); exact HO6.out) hb); have n2_ := Aside0.mk (Kd.R_below (by (with_reducible repeat (first | apply Kd.R_alloc | apply Kd.R_drewN | apply Kd.R_drew)); exact HO9.out) hb); have n3_ := Aside0.mk (Kd.R_below (by (with_reducible repeat (first | apply Kd.R_alloc | apply Kd.R_drewN | apply Kd.R_drew)); exact HO17.out) hb); have n4_ := Aside0.mk (blk_below (g := gb11) (o := .cells #[.slice (some ad14) t7.length co52, .int .i64 t10] 67 (0, 0)) (by (with_reducible repeat (first | refine blk_drewN ?_ _ | refine blk_drew ?_ | refine blk_alloc ?_ _)); exact BK11.out) hb); have n5_ := Aside0.mk (below_step (by repeat (first | (with_reducible first | exact HB.out | apply below_alloc | apply pw_below_drewN | apply below_drew1 | refine below_set ?_ GE11.out) | exact HB.out)) hb); have n6_ := Aside0.mk (hbox); have n7_ := Aside0.mk ((by rw [hg]; exact (below_size (by repeat (first | (with_reducible first | exact HB.out | apply below_alloc | apply pw_below_drewN | apply below_drew1 | refine below_set ?_ GE11.out) | exact HB.out))) : w.heap.size ≤ gb19)); have n8_ := Aside0.mk ((by rw [hg]; exact (below_size (by repeat (first | (with_reducible first | exact HB.out | apply below_alloc | apply pw_below_drewN | apply below_drew1 | refine below_set ?_ GE11.out) | exact HB.out))) : w.heap.size ≤ gb19)); have n9_ := Aside0.mk ((by rw [hg]; exact Nat.ne_of_lt (blk_lt (g := gb11) (o := .cells #[.slice (some ad14) t7.length co52, .int .i64 t10] 67 (0, 0)) (by (with_reducible repeat (first | refine blk_drewN ?_ _ | refine blk_drew ?_ | refine blk_alloc ?_ _)); exact BK11.out)) : gb11 ≠ gb19)); have n10_ := Aside0.mk ((by rw [hg]; exact Nat.ne_of_gt (blk_lt (g := gb11) (o := .cells #[.slice (some ad14) t7.length co52, .int .i64 t10] 67 (0, 0)) (by (with_reducible repeat (first | refine blk_drewN ?_ _ | refine blk_drew ?_ | refine blk_alloc ?_ _)); exact BK11.out)) : gb19 ≠ gb11)); clear HO_3; clear HO6; clear HO9; clear HO17; clear BK11; clear HB; have HO_3 := n0_; have HO6 := n1_; have HO9 := n2_; have HO17 := n3_; have BK11 := n4_; have HB := n5_; have BK19 := n6_; have GW19 := n7_; have GE19 := n8_; have NB11_19 := n9_; have NB19_11 := n10_; clear n0_ n1_ n2_ n3_ n4_ n5_ n6_ n7_ n8_ n9_ n10_; clear hb hbox hg; obtain ⟨Ao56, co56, eo56⟩ := Kd.R_slice HO17.out; subst eo56; have hnb57 := NB19_11.out; have hnc57 := NB11_19.out; have hcz58_0 : w55.cell? ⟨gb19, 0, none⟩ = some (.slice none 0 0) := (blk_cell BK19.out 0).trans rfl; have hcz58_1 : w55.cell? ⟨gb19, 1, none⟩ = some (.int .i64 0) := (blk_cell BK19.out 1).trans rfl; have hfz58_0 := blk_frozen BK19.out 0; have hfz58_1 := blk_frozen BK19.out 1))
                     go_roundg kj11
                     case measure => have := HK1.out; have := HJ1.out; have := HJ7.out; have := HJ11.out; omega
                     case rel => exact ⟨(t7), (wrap64 (x4_1 + 3)), (by first | rfl | (simp; done) | (simp [*]; done)), H', ⟨by have := HK1.out; have := HJ1.out; have := HJ7.out; have := HJ11.out; omega⟩, ⟨by (with_reducible repeat (first | apply Kd.R_alloc | apply Kd.R_drewN | apply Kd.R_drew)); exact Kd.R_mono (Kd.R_far (p := ⟨gb19, 1, none⟩) (Kd.R_far (p := ⟨gb19, 0, none⟩) (Kd.R_types HO9.out BK19.out (by decide)) (fun _ hk => hk.2) (.slice Ao56 t15.length co56)) (fun _ hk => hk.2) (.int .i64 t18)) (fun _ hk => trivial)⟩, ⟨by repeat (first | (with_reducible first | exact HB.out | apply below_alloc | apply pw_below_drewN | apply below_drew1 | refine below_set ?_ GE11.out | refine below_set ?_ GE19.out) | exact HB.out)⟩⟩
                   ·rw [if_neg c30] at H
                    exact absurd H (by simp)
                  ·rw [if_neg c29] at H
                   exact absurd H (by simp)
                ·rw [if_neg c26] at H
                 exact absurd H (by simp)
               ·rw [if_neg c25] at H
                exact absurd H (by simp)
              ·rw [if_neg c23] at H
               have c23b0 : (t10 == 0) = false := beq_eq_false_iff_ne.mpr c23
               have c23b1 : (t10 != 0) = true := bne_iff_ne.mpr c23
               have H' := Aside0.mk H
               clear H
               have p3 : 0 ≤ ((ji19) : Int) := of_decide_eq_true (by first | (with_reducible assumption) | assumption)
               have q3 : (ji19) < (l0.length : Int) := of_decide_eq_true (by first | (with_reducible assumption) | assumption)
               obtain ⟨ad3, e3, hx3_0⟩ := Kd.at_int HR0.out (ji19) p3 q3
               obtain rfl : ad1 = ad3 := (by injection e3)
               replace hx3_0 := (HB.out.cell (World.block_lt_of_cell? w _ hx3_0)).trans hx3_0
               replace p3 := eq_true p3
               replace q3 := eq_true q3
               obtain ⟨Ao59, co59, eo59⟩ := Kd.R_slice HO_3.out
               subst eo59
               go_wp2_with (first | ((with_reducible refine gate_dst (N := 60) rfl ?_); (try (refine gate_guard (by rfl) ?_; dsimp only)); refine Kd.R_lit (Kd.int .u8) _ 5 ?hg (N := 60) ?hd (xs := ([(wrap64 (97 + (Int.tmod (wrap64 ((x3_1.length : Int) * 5)) 24))) % 256] : List Int)) (inner := [.int .u8 ((wrap64 (97 + (Int.tmod (wrap64 ((x3_1.length : Int) * 5)) 24))) % 256)]) (ok := fun _ => True) (okp := fun _ => True) ?hr ?hp (fun _ hk => hk) trivial (Below.refl _ _) (Nat.le_refl _) (by simp) ?_; (case hd => rfl); (case hg => rfl); (case hr => first | (go_simp; done) | (go_simp; rfl)); (case hp => exact (Reps.one (show Kd.M (Kd.int .u8) _ _ _ ((wrap64 (97 + (Int.tmod (wrap64 ((x3_1.length : Int) * 5)) 24))) % 256) [.int .u8 ((wrap64 (97 + (Int.tmod (wrap64 ((x3_1.length : Int) * 5)) 24))) % 256)] from rfl) (Reps.none _ _))); intro v5 w60 ho61 hb hg_ hnew_; clear hg_ hnew_; (first | rw [← Ny4.out] at ho61 | (simp only [Int.reduceToNat] at ho61; rw [← Ny4.out] at ho61)); have n0_ := Aside0.mk (Kd.R_below (by (with_reducible repeat (first | apply Kd.R_alloc | apply Kd.R_drewN | apply Kd.R_drew)); exact HO_3.out) hb); have n1_ := Aside0.mk (Kd.R_lower ho61 (below_size (by repeat (first | (with_reducible first | exact HB.out | apply below_alloc | apply pw_below_drewN | apply below_drew1) | exact HB.out)))); have n2_ := Aside0.mk (below_step (by repeat (first | (with_reducible first | exact HB.out | apply below_alloc | apply pw_below_drewN | apply below_drew1) | exact HB.out)) hb); clear HO_3; clear HB; have HO_3 := n0_; have HO6 := n1_; have HB := n2_; clear n0_ n1_ n2_; clear hb ho61; have hcv62 := own_string (P := Try.prog) Try.underlying22 Try.underlying5 Try.underlying9 (Kd.own_of_R HO6.out)) | ((with_reducible refine gate_callee (f := 83) rfl ?_); refine goesL_ (some 67) rfl rfl Try.func83 (by kernel_rfl) rfl #[.slice Ao59 x3_1.length co59, .string (strOfNums y4), .string x6_11, .agg #[.int .i64 (wrap64 (20 + (wrap64 (rd l0 (ji19))))), .int .i64 (wrap64 (20 + (wrap64 (rd l0 (ji19))))), .int .i64 (wrap64 (20 + (wrap64 (rd l0 (ji19)))))]] rfl (by (try simp only [List.map_toArray, List.map_cons, List.map_nil]); first | done | (simp only [hji19]; rfl) | rfl | (simp only [List.length_drop, List.length_take]; rfl)) ?_; (with_reducible refine (r10_Create.calls kj11 _ _ x3_1 (strOfNums y4) x6_11 (wrap64 (20 + (wrap64 (rd l0 (ji19))))) (wrap64 (20 + (wrap64 (rd l0 (ji19))))) (wrap64 (20 + (wrap64 (rd l0 (ji19))))) t7 t10 _ ?side1 ?side2 A22.out).mono ?_); (case side1 => repeat (first | exact (Kd.R_reads' HO_3.out).2.2 | (with_reducible refine Kd.C_alloc ?_ _) | (with_reducible refine Kd.C_drewN ?_ _) | (with_reducible refine Kd.C_drew ?_))); (case side2 => exact (Kd.R_reads' HO_3.out).2.1); rintro e w63 ⟨v8, rfl, ho0, hb⟩; refine ⟨_, rfl, ?_⟩; have n0_ := Aside0.mk (Kd.R_elder' (by (with_reducible repeat (first | apply Kd.R_alloc | apply Kd.R_drewN | apply Kd.R_drew)); exact HO_3.out) (Kd.R_base ho0) hb); have n1_ := Aside0.mk (Kd.R_below (by (with_reducible repeat (first | apply Kd.R_alloc | apply Kd.R_drewN | apply Kd.R_drew)); exact HO6.out) hb); have n2_ := Aside0.mk (Kd.R_lower (Kd.R_new' ho0 (Kd.R_lt (by (with_reducible repeat (first | apply Kd.R_alloc | apply Kd.R_drewN | apply Kd.R_drew)); exact HO_3.out))) (below_size (by repeat (first | (with_reducible first | exact HB.out | apply below_alloc | apply pw_below_drewN | apply below_drew1) | exact HB.out)))); have n3_ := Aside0.mk (below_step (by repeat (first | (with_reducible first | exact HB.out | apply below_alloc | apply pw_below_drewN | apply below_drew1) | exact HB.out)) hb); clear HO_3; clear HO6; clear HB; have HO_3 := n0_; have HO6 := n1_; have HO9 := n2_; have HB := n3_; clear n0_ n1_ n2_ n3_; (try clear hb); (try clear hb2); (try clear hk); (try clear hi); (try clear ho0)) | ((with_reducible refine gate_dst (N := 8) rfl ?_); (try (refine gate_guard (by rfl) ?_; dsimp only)); refine box_event ?hg (N := 8) ?hd (cs := #[.slice none 0 0, .int .i64 0]) (t := 67) ?hr ?_; (case hd => rfl); (case hg => rfl); (case hr => first | (go_simp; done) | (go_simp; rfl)); intro gb11 hg w64 hbox hb; have n0_ := Aside0.mk (Kd.R_below (by (with_reducible repeat (first | apply Kd.R_alloc | apply Kd.R_drewN | apply Kd.R_drew)); exact HO_3.out) hb); have n1_ := Aside0.mk (Kd.R_below (by (with_reducible repeat (first | apply Kd.R_alloc | apply Kd.R_drewN | apply Kd.R_drew)); exact HO6.out) hb); have n2_ := Aside0.mk (Kd.R_below (by (with_reducible repeat (first | apply Kd.R_alloc | apply Kd.R_drewN | apply Kd.R_drew)); exact HO9.out) hb); have n3_ := Aside0.mk (below_step (by repeat (first | (with_reducible first | exact HB.out | apply below_alloc | apply pw_below_drewN | apply below_drew1) | exact HB.out)) hb); have n4_ := Aside0.mk (hbox); have n5_ := Aside0.mk ((by rw [hg]; exact (below_size (by repeat (first | (with_reducible first | exact HB.out | apply below_alloc | apply pw_below_drewN | apply below_drew1) | exact HB.out))) : w.heap.size ≤ gb11)); have n6_ := Aside0.mk ((by rw [hg]; exact (below_size (by repeat (first | (with_reducible first | exact HB.out | apply below_alloc | apply pw_below_drewN | apply below_drew1) | exact HB.out))) : w.heap.size ≤ gb11)); clear HO_3; clear HO6; clear HO9; clear HB; have HO_3 := n0_; have HO6 := n1_; have HO9 := n2_; have HB := n3_; have BK11 := n4_; have GW11 := n5_; have GE11 := n6_; clear n0_ n1_ n2_ n3_ n4_ n5_ n6_; clear hb hbox hg; obtain ⟨Ao65, co65, eo65⟩ := Kd.R_slice HO9.out; subst eo65; have hcz66_0 : w64.cell? ⟨gb11, 0, none⟩ = some (.slice none 0 0) := (blk_cell BK11.out 0).trans rfl; have hcz66_1 : w64.cell? ⟨gb11, 1, none⟩ = some (.int .i64 0) := (blk_cell BK11.out 1).trans rfl; have hfz66_0 := blk_frozen BK11.out 0; have hfz66_1 := blk_frozen BK11.out 1))
               go_roundg kj11
               case measure => have := HK1.out; have := HJ1.out; have := HJ7.out; have := HJ11.out; omega
               case rel => exact ⟨(x3_1), (wrap64 (x4_1 + 3)), (by first | rfl | (simp; done) | (simp [*]; done)), H', ⟨by have := HK1.out; have := HJ1.out; have := HJ7.out; have := HJ11.out; omega⟩, ⟨by (with_reducible repeat (first | apply Kd.R_alloc | apply Kd.R_drewN | apply Kd.R_drew)); exact Kd.R_mono (Kd.R_far (p := ⟨gb11, 1, none⟩) (Kd.R_far (p := ⟨gb11, 0, none⟩) (Kd.R_types HO_3.out BK11.out (by decide)) (fun _ hk => hk.2) (.slice Ao65 t7.length co65)) (fun _ hk => hk.2) (.int .i64 t10)) (fun _ hk => trivial)⟩, ⟨by repeat (first | (with_reducible first | exact HB.out | apply below_alloc | apply pw_below_drewN | apply below_drew1 | refine below_set ?_ GE11.out) | exact HB.out)⟩⟩
             ·rw [if_neg c21] at H
              exact absurd H (by simp)
            ·rw [if_neg c20] at H
             exact absurd H (by simp)
       ·rw [if_neg c7] at H
        exact absurd H (by simp)
      ·rw [if_neg c6] at H
       exact absurd H (by simp)
     ·replace c5 := Bool.eq_false_iff.mpr c5
      subst c5
      have H1 : (some x3_1) = some r := by rw [if_neg (show ¬ (false = true) by decide)] at H; exact H
      clear H
      have H := H1
      clear H1
      obtain rfl := Option.some.inj H
      go_wp2
      go_ret
      exact ⟨_, by first | rfl | (simp [errW_none, errW_some] <;> rfl) | (simp [*, errW_none, errW_some] <;> rfl), by (with_reducible repeat (first | apply Kd.R_alloc | apply Kd.R_drewN | apply Kd.R_drew)); exact HO_3.out, by repeat (first | (with_reducible first | exact HB.out | apply below_alloc | apply pw_below_drewN | apply below_drew1) | exact HB.out)⟩
end Go.Proofs.Ytcgefpklljclgaa.Print
