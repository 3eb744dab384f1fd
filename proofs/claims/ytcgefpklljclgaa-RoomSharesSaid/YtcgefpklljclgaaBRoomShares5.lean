/- A part of the proof of RoomShares: the machine's side by the kit's print, contracts and lemmas by this session. -/
import Derived.Shelf.Abstract
import Derived.WalkSpells
import Derived.Test.YtcgefpklljclgaaRows
import Derived.WalkKit
import Derived.ProofKit
import Derived.OpenShut
import Derived.JoinedOf
import Derived.SizedLaws
import Derived.ChangeSlices
import Derived.Test.YtcgefpklljclgaaBRoomShares1
import Derived.Test.YtcgefpklljclgaaBRoomShares2
import Derived.Test.YtcgefpklljclgaaBRoomShares4
namespace Go.Proofs.Ytcgefpklljclgaa.Print
open Go.RowKit Go.Proofs.YtcgefpklljclgaaW.PrintWords Go.Proofs.YtcgefpklljclgaaW.PrintLast Go.Proofs.YtcgefpklljclgaaW.PrintMore
attribute [local go_sem] max2_int min2_int max_two min_two max_three min_three max_four min_four   -- for this text's walks alone
set_option linter.unusedVariables false
set_option linter.unusedSimpArgs false
/-! ### vec_May: function 115 -/
def vec_May.f (a0_0 : Int) (a0_1 : Int) (a0_2 : Int) : Option (Bool) := (vec_Le.f 0 0 0 a0_0 a0_1 a0_2).bind fun t2 => (if t2 = true then ((vec_Most.f).bind fun bt3 => ((vec_Le.f a0_0 a0_1 a0_2 bt3.1 bt3.2.1 bt3.2.2).bind fun t6 => (some t6))) else (some false))
def vec_May.T1 : Bool × List (List Nat × List Nat) := (true, [([], []), ([], []), ([0, 1], [0, 1]), ([2, 2], [2]), ([3], [3]), ([3, 3], [3]), ([4, 5, 5, 3], [3, 4, 5]), ([3, 6], [3, 6]), ([7, 6, 0, 1, 2, 3, 4, 5, 6, 7], [7])])
def vec_May.B1 : List Nat := [0, 0, 3, 7, 15, 15, 63, 127, 255]
theorem vec_May.tab1 : rtab .any (opsOf Try.f115 1) = vec_May.T1 := by kernel_rfl
theorem vec_May.bits1 : waitsOk vec_May.T1.2 vec_May.B1 = true := by kernel_rfl
set_option maxHeartbeats 8000000 in
set_option maxRecDepth 100000 in
theorem vec_May.calls (a0_0 : Int) (a0_1 : Int) (a0_2 : Int) (r : Bool) (w : World) (h : vec_May.f a0_0 a0_1 a0_2 = some r) :
  Calls Try.prog 115 #[.agg #[.int .i64 a0_0, .int .i64 a0_1, .int .i64 a0_2]] w fun e w' => e = .returned (.bool r) ∧ Below w.heap.size w w' := by
 have hu27 := Try.underlying27
 have HB := Aside0.mk (Below.refl w.heap.size w)
 have H : ((vec_Le.f 0 0 0 a0_0 a0_1 a0_2).bind fun t2 => (if t2 = true then ((vec_Most.f).bind fun bt3 => ((vec_Le.f a0_0 a0_1 a0_2 bt3.1 bt3.2.1 bt3.2.2).bind fun t6 => (some t6))) else (some false))) = some r := h
 clear h
 replace H := Option.bind_eq_some_iff.mp H
 obtain ⟨t2, A20, H⟩ := H
 replace H : (if t2 = true then ((vec_Most.f).bind fun bt3 => ((vec_Le.f a0_0 a0_1 a0_2 bt3.1 bt3.2.1 bt3.2.2).bind fun t6 => (some t6))) else (some false)) = some r := H
 have A2 := Aside0.mk A20
 clear A20
 by_cases c3 : t2 = true
 ·subst c3
  have H1 : ((vec_Most.f).bind fun bt3 => ((vec_Le.f a0_0 a0_1 a0_2 bt3.1 bt3.2.1 bt3.2.2).bind fun t6 => (some t6))) = some r := by rw [if_pos rfl] at H; exact H
  clear H
  have H := H1
  clear H1
  replace H := Option.bind_eq_some_iff.mp H
  obtain ⟨⟨t3, t4, t5⟩, A40, H⟩ := H
  replace H : ((vec_Le.f a0_0 a0_1 a0_2 t3 t4 t5).bind fun t6 => (some t6)) = some r := H
  have A4 := Aside0.mk A40
  clear A40
  replace H := Option.bind_eq_some_iff.mp H
  obtain ⟨t6, A50, H⟩ := H
  replace H : (some t6) = some r := H
  have A5 := Aside0.mk A50
  clear A50
  obtain rfl := Option.some.inj H
  go_enter Try.func115, Try.ntmps115
  try go_wp2_with (first | ((with_reducible refine gate_dst (N := 1) rfl ?_); refine box_event ?hg (N := 1) ?hd (cs := #[.int .i64 a0_0, .int .i64 a0_1, .int .i64 a0_2]) (t := 27) ?hr ?_; (case hd => rfl); (case hg => rfl); (case hr => first | (go_simp; done) | (go_simp; rfl)); intro gb1 hg w6 hbox hb; have n0_ := Aside0.mk (below_step (by repeat (first | (with_reducible first | exact HB.out | apply below_alloc | apply pw_below_drewN | apply below_drew1) | exact HB.out)) hb); have n1_ := Aside0.mk (hbox); have n2_ := Aside0.mk ((by rw [hg]; exact (below_size (by repeat (first | (with_reducible first | exact HB.out | apply below_alloc | apply pw_below_drewN | apply below_drew1) | exact HB.out))) : w.heap.size ≤ gb1)); have n3_ := Aside0.mk ((by rw [hg]; exact (below_size (by repeat (first | (with_reducible first | exact HB.out | apply below_alloc | apply pw_below_drewN | apply below_drew1) | exact HB.out))) : w.heap.size ≤ gb1)); clear HB; have HB := n0_; have BK1 := n1_; have GW1 := n2_; have GE1 := n3_; clear n0_ n1_ n2_ n3_; clear hb hbox hg))
  have n0_ := Aside0.mk (blk_drew BK1.out)
  have n1_ := Aside0.mk (below_drew1 HB.out)
  clear BK1
  clear HB
  have BK1 := n0_
  have HB := n1_
  clear n0_ n1_
  refine start_ (n := 9) (S := fun w' => w'.cell? ⟨gb1, 0, none⟩ = some (.int .i64 a0_0) ∧ w'.cell? ⟨gb1, 1, none⟩ = some (.int .i64 a0_1) ∧ w'.cell? ⟨gb1, 2, none⟩ = some (.int .i64 a0_2)) (ds := []) #[false, false, false, false, false, false, false, false, false] (by kernel_rfl) rfl rfl ⟨(blk_cell BK1.out 0).trans rfl, (blk_cell BK1.out 1).trans rfl, (blk_cell BK1.out 2).trans rfl⟩ (fun hHeld => ?_); refine with_tabW vec_May.tab1 vec_May.bits1 (fun HT_ HW_ => ?_)
  generalize w6.drew = w7 at BK1 HB hHeld ⊢
  refine pure_ (i := 0) (N := some 3) (v := ?_) (a' := ?_) #[true, false, false, false, false, false, false, false, false] rfl rfl (any_of HT_.out (by kernel_rfl)) (fun _ _ _ h => h) (Or.inl ⟨by rfl, ?_⟩) ?_ ?_
  rotate_left
  ·intro w'
   go_simp
   with_reducible rfl
  rotate_left
  ·simp only [Act.put, List.setIfInBounds_toArray, List.set_cons_zero, List.set_cons_succ, i64_w, i32_w]
   rfl
  refine take_ (i := 1) (N := some 4) (v := ?_) (a' := ?_) #[true, true, false, false, false, false, false, false, false] rfl rfl (take_ofW HT_.out HW_.out (by kernel_rfl)) (fun _ _ _ h => h) (Or.inl ⟨by rfl, ?_⟩) hHeld ?_ ?_
  rotate_left
  ·rintro w' ⟨s0, s1, s2⟩
   go_simp
   with_reducible rfl
  rotate_left
  ·simp only [Act.put, List.setIfInBounds_toArray, List.set_cons_zero, List.set_cons_succ, i64_w, i32_w]
   rfl
  refine one_ (i := 2) (N := some 5) #[true, true, true, false, false, false, false, false, false] rfl rfl (one_of HT_.out (by kernel_rfl)) (by decide) (fun K hK => ?_)
  refine goes_ Try.func118 (by kernel_rfl) rfl #[.agg #[.int .i64 0, .int .i64 0, .int .i64 0], .agg #[.int .i64 a0_0, .int .i64 a0_1, .int .i64 a0_2]] (by rfl) rfl rfl (by (try simp only [List.map_toArray, List.map_cons, List.map_nil]); first | done | rfl | (simp only [List.length_drop, List.length_take]; rfl)) ?_
  with_reducible refine (vec_Le.calls 0 0 0 a0_0 a0_1 a0_2 true _ A2.out).mono ?_
  rintro e w8 ⟨rfl, hb⟩
  refine ⟨_, rfl, ?_⟩
  have n0_ := Aside0.mk (blk_below (g := gb1) (o := .cells #[.int .i64 a0_0, .int .i64 a0_1, .int .i64 a0_2] 27 (0, 0)) (by (with_reducible repeat (first | refine blk_drewN ?_ _ | refine blk_drew ?_ | refine blk_alloc ?_ _)); exact BK1.out) hb)
  have n1_ := Aside0.mk (below_step (by repeat (first | (with_reducible first | exact HB.out | apply below_alloc | apply pw_below_drewN | apply below_drew1 | refine below_set ?_ GE1.out) | exact HB.out)) hb)
  clear BK1
  clear HB
  have BK1 := n0_
  have HB := n1_
  clear n0_ n1_
  (try clear hb)
  (try clear hb2)
  (try clear hk)
  (try clear hi)
  refine hK.out _ _ ⟨(blk_cell BK1.out 0).trans rfl, (blk_cell BK1.out 1).trans rfl, (blk_cell BK1.out 2).trans rfl⟩ (fun hHeld => ?_)
  clear hK K
  refine norm_ (a' := ?_) ?_ ?_
  rotate_left
  ·show Act.put _ (some 5) _ = _
   simp only [Act.put, List.setIfInBounds_toArray, List.set_cons_zero, List.set_cons_succ, i64_w, i32_w]
   rfl
  refine pure_ (i := 3) (N := some 6) (v := ?_) (a' := ?_) #[true, true, true, true, false, false, false, false, false] rfl rfl (any_of HT_.out (by kernel_rfl)) (fun _ _ _ h => h) (Or.inl ⟨by rfl, ?_⟩) ?_ ?_
  rotate_left
  ·intro w'
   go_simp
   with_reducible rfl
  rotate_left
  ·simp only [Act.put, List.setIfInBounds_toArray, List.set_cons_zero, List.set_cons_succ, i64_w, i32_w]
   rfl
  refine take_ (i := 4) (N := some 7) (v := ?_) (a' := ?_) #[true, true, true, true, true, false, false, false, false] rfl rfl (take_ofW HT_.out HW_.out (by kernel_rfl)) (fun _ _ _ h => h) (Or.inl ⟨by rfl, ?_⟩) hHeld ?_ ?_
  rotate_left
  ·rintro w' ⟨s0, s1, s2⟩
   go_simp
   with_reducible rfl
  rotate_left
  ·simp only [Act.put, List.setIfInBounds_toArray, List.set_cons_zero, List.set_cons_succ, i64_w, i32_w]
   rfl
  refine one_ (i := 5) (N := some 8) #[true, true, true, true, true, true, false, false, false] rfl rfl (one_of HT_.out (by kernel_rfl)) (by decide) (fun K hK => ?_)
  refine goes_ Try.func157 (by kernel_rfl) rfl #[] (by rfl) rfl rfl (by (try simp only [List.map_toArray, List.map_cons, List.map_nil]); first | done | rfl | (simp only [List.length_drop, List.length_take]; rfl)) ?_
  with_reducible refine (vec_Most.calls  t3 t4 t5 _ A4.out).mono ?_
  rintro e w9 ⟨rfl, hb⟩
  refine ⟨_, rfl, ?_⟩
  have n0_ := Aside0.mk (blk_below (g := gb1) (o := .cells #[.int .i64 a0_0, .int .i64 a0_1, .int .i64 a0_2] 27 (0, 0)) (by (with_reducible repeat (first | refine blk_drewN ?_ _ | refine blk_drew ?_ | refine blk_alloc ?_ _)); exact BK1.out) hb)
  have n1_ := Aside0.mk (below_step (by repeat (first | (with_reducible first | exact HB.out | apply below_alloc | apply pw_below_drewN | apply below_drew1 | refine below_set ?_ GE1.out) | exact HB.out)) hb)
  clear BK1
  clear HB
  have BK1 := n0_
  have HB := n1_
  clear n0_ n1_
  (try clear hb)
  (try clear hb2)
  (try clear hk)
  (try clear hi)
  refine hK.out _ _ ⟨(blk_cell BK1.out 0).trans rfl, (blk_cell BK1.out 1).trans rfl, (blk_cell BK1.out 2).trans rfl⟩ (fun hHeld => ?_)
  clear hK K
  refine norm_ (a' := ?_) ?_ ?_
  rotate_left
  ·show Act.put _ (some 8) _ = _
   simp only [Act.put, List.setIfInBounds_toArray, List.set_cons_zero, List.set_cons_succ, i64_w, i32_w]
   rfl
  refine one_ (i := 6) (N := some 9) #[true, true, true, true, true, true, true, false, false] rfl rfl (one_of HT_.out (by kernel_rfl)) (by decide) (fun K hK => ?_)
  refine goes_ Try.func118 (by kernel_rfl) rfl #[.agg #[.int .i64 a0_0, .int .i64 a0_1, .int .i64 a0_2], .agg #[.int .i64 t3, .int .i64 t4, .int .i64 t5]] (by rfl) rfl rfl (by (try simp only [List.map_toArray, List.map_cons, List.map_nil]); first | done | rfl | (simp only [List.length_drop, List.length_take]; rfl)) ?_
  with_reducible refine (vec_Le.calls a0_0 a0_1 a0_2 t3 t4 t5 t6 _ A5.out).mono ?_
  rintro e w10 ⟨rfl, hb⟩
  refine ⟨_, rfl, ?_⟩
  have n0_ := Aside0.mk (blk_below (g := gb1) (o := .cells #[.int .i64 a0_0, .int .i64 a0_1, .int .i64 a0_2] 27 (0, 0)) (by (with_reducible repeat (first | refine blk_drewN ?_ _ | refine blk_drew ?_ | refine blk_alloc ?_ _)); exact BK1.out) hb)
  have n1_ := Aside0.mk (below_step (by repeat (first | (with_reducible first | exact HB.out | apply below_alloc | apply pw_below_drewN | apply below_drew1 | refine below_set ?_ GE1.out) | exact HB.out)) hb)
  clear BK1
  clear HB
  have BK1 := n0_
  have HB := n1_
  clear n0_ n1_
  (try clear hb)
  (try clear hb2)
  (try clear hk)
  (try clear hi)
  refine hK.out _ _ ⟨(blk_cell BK1.out 0).trans rfl, (blk_cell BK1.out 1).trans rfl, (blk_cell BK1.out 2).trans rfl⟩ (fun hHeld => ?_)
  clear hK K
  refine norm_ (a' := ?_) ?_ ?_
  rotate_left
  ·show Act.put _ (some 9) _ = _
   simp only [Act.put, List.setIfInBounds_toArray, List.set_cons_zero, List.set_cons_succ, i64_w, i32_w]
   rfl
  refine pure_ (i := 7) (N := some 10) (v := ?_) (a' := ?_) #[true, true, true, true, true, true, true, true, false] rfl rfl (any_of HT_.out (by kernel_rfl)) (fun _ _ _ h => h) (Or.inl ⟨by rfl, ?_⟩) ?_ ?_
  rotate_left
  ·intro w'
   go_simp
   with_reducible rfl
  rotate_left
  ·simp only [Act.put, List.setIfInBounds_toArray, List.set_cons_zero, List.set_cons_succ, i64_w, i32_w]
   rfl
  refine pure_ (i := 8) (N := some 2) (v := ?_) (a' := ?_) #[true, true, true, true, true, true, true, true, true] rfl rfl (any_of HT_.out (by kernel_rfl)) (fun _ _ _ h => h) (Or.inl ⟨by rfl, ?_⟩) ?_ ?_
  rotate_left
  ·intro w'
   go_simp
   with_reducible rfl
  rotate_left
  ·simp only [Act.put, List.setIfInBounds_toArray, List.set_cons_zero, List.set_cons_succ, i64_w, i32_w]
   rfl
  refine done_ (done_of HT_.out (by kernel_rfl)) ?_
  try go_wp2
  go_ret
  exact ⟨by first | rfl | (simp [errW_none, errW_some] <;> rfl) | (simp [*, errW_none, errW_some] <;> rfl), by repeat (first | (with_reducible first | exact HB.out | apply below_alloc | apply pw_below_drewN | apply below_drew1 | refine below_set ?_ GE1.out) | exact HB.out)⟩
 ·replace c3 := Bool.eq_false_iff.mpr c3
  subst c3
  have H1 : (some false) = some r := by rw [if_neg (show ¬ (false = true) by decide)] at H; exact H
  clear H
  have H := H1
  clear H1
  obtain rfl := Option.some.inj H
  go_enter Try.func115, Try.ntmps115
  try go_wp2_with (first | ((with_reducible refine gate_dst (N := 1) rfl ?_); refine box_event ?hg (N := 1) ?hd (cs := #[.int .i64 a0_0, .int .i64 a0_1, .int .i64 a0_2]) (t := 27) ?hr ?_; (case hd => rfl); (case hg => rfl); (case hr => first | (go_simp; done) | (go_simp; rfl)); intro gb1 hg w11 hbox hb; have n0_ := Aside0.mk (below_step (by repeat (first | (with_reducible first | exact HB.out | apply below_alloc | apply pw_below_drewN | apply below_drew1) | exact HB.out)) hb); have n1_ := Aside0.mk (hbox); have n2_ := Aside0.mk ((by rw [hg]; exact (below_size (by repeat (first | (with_reducible first | exact HB.out | apply below_alloc | apply pw_below_drewN | apply below_drew1) | exact HB.out))) : w.heap.size ≤ gb1)); have n3_ := Aside0.mk ((by rw [hg]; exact (below_size (by repeat (first | (with_reducible first | exact HB.out | apply below_alloc | apply pw_below_drewN | apply below_drew1) | exact HB.out))) : w.heap.size ≤ gb1)); clear HB; have HB := n0_; have BK1 := n1_; have GW1 := n2_; have GE1 := n3_; clear n0_ n1_ n2_ n3_; clear hb hbox hg))
  have n0_ := Aside0.mk (blk_drew BK1.out)
  have n1_ := Aside0.mk (below_drew1 HB.out)
  clear BK1
  clear HB
  have BK1 := n0_
  have HB := n1_
  clear n0_ n1_
  refine start_ (n := 9) (S := fun w' => w'.cell? ⟨gb1, 0, none⟩ = some (.int .i64 a0_0) ∧ w'.cell? ⟨gb1, 1, none⟩ = some (.int .i64 a0_1) ∧ w'.cell? ⟨gb1, 2, none⟩ = some (.int .i64 a0_2)) (ds := []) #[false, false, false, false, false, false, false, false, false] (by kernel_rfl) rfl rfl ⟨(blk_cell BK1.out 0).trans rfl, (blk_cell BK1.out 1).trans rfl, (blk_cell BK1.out 2).trans rfl⟩ (fun hHeld => ?_); refine with_tabW vec_May.tab1 vec_May.bits1 (fun HT_ HW_ => ?_)
  generalize w11.drew = w12 at BK1 HB hHeld ⊢
  refine pure_ (i := 0) (N := some 3) (v := ?_) (a' := ?_) #[true, false, false, false, false, false, false, false, false] rfl rfl (any_of HT_.out (by kernel_rfl)) (fun _ _ _ h => h) (Or.inl ⟨by rfl, ?_⟩) ?_ ?_
  rotate_left
  ·intro w'
   go_simp
   with_reducible rfl
  rotate_left
  ·simp only [Act.put, List.setIfInBounds_toArray, List.set_cons_zero, List.set_cons_succ, i64_w, i32_w]
   rfl
  refine take_ (i := 1) (N := some 4) (v := ?_) (a' := ?_) #[true, true, false, false, false, false, false, false, false] rfl rfl (take_ofW HT_.out HW_.out (by kernel_rfl)) (fun _ _ _ h => h) (Or.inl ⟨by rfl, ?_⟩) hHeld ?_ ?_
  rotate_left
  ·rintro w' ⟨s0, s1, s2⟩
   go_simp
   with_reducible rfl
  rotate_left
  ·simp only [Act.put, List.setIfInBounds_toArray, List.set_cons_zero, List.set_cons_succ, i64_w, i32_w]
   rfl
  refine one_ (i := 2) (N := some 5) #[true, true, true, false, false, false, false, false, false] rfl rfl (one_of HT_.out (by kernel_rfl)) (by decide) (fun K hK => ?_)
  refine goes_ Try.func118 (by kernel_rfl) rfl #[.agg #[.int .i64 0, .int .i64 0, .int .i64 0], .agg #[.int .i64 a0_0, .int .i64 a0_1, .int .i64 a0_2]] (by rfl) rfl rfl (by (try simp only [List.map_toArray, List.map_cons, List.map_nil]); first | done | rfl | (simp only [List.length_drop, List.length_take]; rfl)) ?_
  with_reducible refine (vec_Le.calls 0 0 0 a0_0 a0_1 a0_2 false _ A2.out).mono ?_
  rintro e w13 ⟨rfl, hb⟩
  refine ⟨_, rfl, ?_⟩
  have n0_ := Aside0.mk (blk_below (g := gb1) (o := .cells #[.int .i64 a0_0, .int .i64 a0_1, .int .i64 a0_2] 27 (0, 0)) (by (with_reducible repeat (first | refine blk_drewN ?_ _ | refine blk_drew ?_ | refine blk_alloc ?_ _)); exact BK1.out) hb)
  have n1_ := Aside0.mk (below_step (by repeat (first | (with_reducible first | exact HB.out | apply below_alloc | apply pw_below_drewN | apply below_drew1 | refine below_set ?_ GE1.out) | exact HB.out)) hb)
  clear BK1
  clear HB
  have BK1 := n0_
  have HB := n1_
  clear n0_ n1_
  (try clear hb)
  (try clear hb2)
  (try clear hk)
  (try clear hi)
  refine hK.out _ _ ⟨(blk_cell BK1.out 0).trans rfl, (blk_cell BK1.out 1).trans rfl, (blk_cell BK1.out 2).trans rfl⟩ (fun hHeld => ?_)
  clear hK K
  refine norm_ (a' := ?_) ?_ ?_
  rotate_left
  ·show Act.put _ (some 5) _ = _
   simp only [Act.put, List.setIfInBounds_toArray, List.set_cons_zero, List.set_cons_succ, i64_w, i32_w]
   rfl
  refine pure_ (i := 3) (N := some 6) (v := ?_) (a' := ?_) #[true, true, true, true, false, false, false, false, false] rfl rfl (any_of HT_.out (by kernel_rfl)) (fun _ _ _ h => h) (Or.inl ⟨by rfl, ?_⟩) ?_ ?_
  rotate_left
  ·intro w'
   go_simp
   with_reducible rfl
  rotate_left
  ·simp only [Act.put, List.setIfInBounds_toArray, List.set_cons_zero, List.set_cons_succ, i64_w, i32_w]
   rfl
  refine pure_ (i := 4) (N := some 7) (v := undef) (a' := ?_) #[true, true, true, true, true, false, false, false, false] rfl rfl (any_of HT_.out (by kernel_rfl)) (fun _ _ _ h => h) (Or.inr ⟨by rfl, rfl⟩) ?_ ?_
  rotate_left
  ·simp only [Act.put, List.setIfInBounds_toArray, List.set_cons_zero, List.set_cons_succ, i64_w, i32_w]
   rfl
  refine pure_ (i := 5) (N := some 8) (v := undef) (a' := ?_) #[true, true, true, true, true, true, false, false, false] rfl rfl (any_of HT_.out (by kernel_rfl)) (fun _ _ _ h => h) (Or.inr ⟨by rfl, rfl⟩) ?_ ?_
  rotate_left
  ·simp only [Act.put, List.setIfInBounds_toArray, List.set_cons_zero, List.set_cons_succ, i64_w, i32_w]
   rfl
  refine pure_ (i := 6) (N := some 9) (v := undef) (a' := ?_) #[true, true, true, true, true, true, true, false, false] rfl rfl (any_of HT_.out (by kernel_rfl)) (fun _ _ _ h => h) (Or.inr ⟨by rfl, rfl⟩) ?_ ?_
  rotate_left
  ·simp only [Act.put, List.setIfInBounds_toArray, List.set_cons_zero, List.set_cons_succ, i64_w, i32_w]
   rfl
  refine pure_ (i := 7) (N := some 10) (v := ?_) (a' := ?_) #[true, true, true, true, true, true, true, true, false] rfl rfl (any_of HT_.out (by kernel_rfl)) (fun _ _ _ h => h) (Or.inl ⟨by rfl, ?_⟩) ?_ ?_
  rotate_left
  ·intro w'
   go_simp
   with_reducible rfl
  rotate_left
  ·simp only [Act.put, List.setIfInBounds_toArray, List.set_cons_zero, List.set_cons_succ, i64_w, i32_w]
   rfl
  refine pure_ (i := 8) (N := some 2) (v := ?_) (a' := ?_) #[true, true, true, true, true, true, true, true, true] rfl rfl (any_of HT_.out (by kernel_rfl)) (fun _ _ _ h => h) (Or.inl ⟨by rfl, ?_⟩) ?_ ?_
  rotate_left
  ·intro w'
   go_simp
   with_reducible rfl
  rotate_left
  ·simp only [Act.put, List.setIfInBounds_toArray, List.set_cons_zero, List.set_cons_succ, i64_w, i32_w]
   rfl
  refine done_ (done_of HT_.out (by kernel_rfl)) ?_
  try go_wp2
  go_ret
  exact ⟨by first | rfl | (simp [errW_none, errW_some] <;> rfl) | (simp [*, errW_none, errW_some] <;> rfl), by repeat (first | (with_reducible first | exact HB.out | apply below_alloc | apply pw_below_drewN | apply below_drew1 | refine below_set ?_ GE1.out) | exact HB.out)⟩
end Go.Proofs.Ytcgefpklljclgaa.Print

namespace Go.Proofs.Ytcgefpklljclgaa.Print
open Go.RowKit Go.Proofs.YtcgefpklljclgaaW.PrintWords Go.Proofs.YtcgefpklljclgaaW.PrintLast Go.Proofs.YtcgefpklljclgaaW.PrintMore
attribute [local go_sem] max2_int min2_int max_two min_two max_three min_three max_four min_four   -- for this text's walks alone
set_option linter.unusedVariables false
set_option linter.unusedSimpArgs false
/-! ### admit_live_at: function 132 -/
def admit_live_at.f (l0_0 : List (S31)) (a1 : ByteArray) : Option (Int) := (tree_Find.f l0_0 a1).bind fun t2 => (some t2)
set_option maxHeartbeats 8000000 in
set_option maxRecDepth 100000 in
theorem admit_live_at.calls (A0_0 : Option Addr) (c0_0 : Nat) (l0_0 : List (S31)) (a1 : ByteArray) (r : Int) (w : World) (hr0_0 : Kd.C k31 w A0_0 l0_0.length l0_0) (hc0_0 : l0_0.length ≤ c0_0) (h : admit_live_at.f l0_0 a1 = some r) :
  Calls Try.prog 132 #[.agg #[.slice A0_0 l0_0.length c0_0], .string a1] w fun e w' => e = .returned (.int .i64 r) ∧ Below w.heap.size w w' := by
 have hu147 := Try.underlying147
 have HR0_0 := Aside0.mk hr0_0
 have HC0_0 := Aside0.mk hc0_0
 clear hr0_0 hc0_0
 have HB := Aside0.mk (Below.refl w.heap.size w)
 have H : ((tree_Find.f l0_0 a1).bind fun t2 => (some t2)) = some r := h
 clear h
 replace H := Option.bind_eq_some_iff.mp H
 obtain ⟨t2, A30, H⟩ := H
 replace H : (some t2) = some r := H
 have A3 := Aside0.mk A30
 clear A30
 obtain rfl := Option.some.inj H
 go_enter Try.func132, Try.ntmps132
 go_wp2_with (first | ((with_reducible refine gate_dst (N := 2) rfl ?_); refine box_event ?hg (N := 2) ?hd (cs := #[.slice A0_0 l0_0.length c0_0]) (t := 147) ?hr ?_; (case hd => rfl); (case hg => rfl); (case hr => first | (go_simp; done) | (go_simp; rfl)); intro gb1 hg w4 hbox hb; have n0_ := Aside0.mk (below_step (by repeat (first | (with_reducible first | exact HB.out | apply below_alloc | apply pw_below_drewN | apply below_drew1) | exact HB.out)) hb); have n1_ := Aside0.mk (hbox); have n2_ := Aside0.mk ((by rw [hg]; exact (below_size (by repeat (first | (with_reducible first | exact HB.out | apply below_alloc | apply pw_below_drewN | apply below_drew1) | exact HB.out))) : w.heap.size ≤ gb1)); have n3_ := Aside0.mk ((by rw [hg]; exact (below_size (by repeat (first | (with_reducible first | exact HB.out | apply below_alloc | apply pw_below_drewN | apply below_drew1) | exact HB.out))) : w.heap.size ≤ gb1)); clear HB; have HB := n0_; have BK1 := n1_; have GW1 := n2_; have GE1 := n3_; clear n0_ n1_ n2_ n3_; clear hb hbox hg; have hcz5_0 : w4.cell? ⟨gb1, 0, none⟩ = some (.slice A0_0 l0_0.length c0_0) := (blk_cell BK1.out 0).trans rfl; have hfz5_0 := blk_frozen BK1.out 0) | ((with_reducible refine gate_callee (f := 71) rfl ?_); refine goesL_ (some 8) rfl rfl Try.func71 (by kernel_rfl) rfl #[.slice A0_0 l0_0.length c0_0, .string a1] rfl (by (try simp only [List.map_toArray, List.map_cons, List.map_nil]); first | done | rfl | (simp only [List.length_drop, List.length_take]; rfl)) ?_; (with_reducible refine (tree_Find.calls _ _ l0_0 a1 t2 _ ?side1 ?side2 A3.out).mono ?_); (case side1 => repeat (first | exact (Kd.C_below HR0_0.out HB.out) | (with_reducible refine Kd.C_alloc ?_ _) | (with_reducible refine Kd.C_drewN ?_ _) | (with_reducible refine Kd.C_drew ?_))); (case side2 => exact HC0_0.out); rintro e w6 ⟨rfl, hb⟩; refine ⟨_, rfl, ?_⟩; have n0_ := Aside0.mk (blk_below (g := gb1) (o := .cells #[.slice A0_0 l0_0.length c0_0] 147 (0, 0)) (by (with_reducible repeat (first | refine blk_drewN ?_ _ | refine blk_drew ?_ | refine blk_alloc ?_ _)); exact BK1.out) hb); have n1_ := Aside0.mk (below_step (by repeat (first | (with_reducible first | exact HB.out | apply below_alloc | apply pw_below_drewN | apply below_drew1 | refine below_set ?_ GE1.out) | exact HB.out)) hb); clear BK1; clear HB; have BK1 := n0_; have HB := n1_; clear n0_ n1_; (try clear hb); (try clear hb2); (try clear hk); (try clear hi)))
 go_ret
 exact ⟨by first | rfl | (simp [errW_none, errW_some] <;> rfl) | (simp [*, errW_none, errW_some] <;> rfl), by repeat (first | (with_reducible first | exact HB.out | apply below_alloc | apply pw_below_drewN | apply below_drew1 | refine below_set ?_ GE1.out) | exact HB.out)⟩
end Go.Proofs.Ytcgefpklljclgaa.Print

namespace Go.Proofs.Ytcgefpklljclgaa.Print
open Go.RowKit Go.Proofs.YtcgefpklljclgaaW.PrintWords Go.Proofs.YtcgefpklljclgaaW.PrintLast Go.Proofs.YtcgefpklljclgaaW.PrintMore
attribute [local go_sem] max2_int min2_int max_two min_two max_three min_three max_four min_four   -- for this text's walks alone
set_option linter.unusedVariables false
set_option linter.unusedSimpArgs false
/-! ### admit_all: function 116 -/
set_option maxHeartbeats 1000000 in
set_option maxRecDepth 100000 in
theorem admit1_calls (W : World) (b : Nat) (v : S27) (hb : W.heap[b]? = some (.cells #[.int .i64 v.f0, .int .i64 v.f1, .int .i64 v.f2] 27 (0, 0))) (x : S31) (r1 r2 r3 : Int) (q : Bool)
    (h1 : vec_Add.f [x.f4, v] = some (r1, r2, r3)) (h2 : vec_Le.f r1 r2 r3 x.f2.f0 x.f2.f1 x.f2.f2 = some q) :
    Calls Try.prog 117 #[.agg (itemCells x), .pointer (some ⟨b, 0, none⟩)] W fun e w' => e = .returned (.bool q) ∧ Below W.heap.size W w' := by
  unfold itemCells
  have hu31 := Try.underlying31
  have hu27 := Try.underlying27
  have h0 := (blk_cell hb 0).trans rfl
  have h01 := (blk_cell hb 1).trans rfl
  have h02 := (blk_cell hb 2).trans rfl
  have hl : b < W.heap.size := blk_lt hb
  clear hb
  go_enter Try.func117, Try.ntmps117
  obtain ⟨W1, hW1⟩ : ∃ W1, W1 = W.alloc (.cells #[.string x.f0, .string x.f1, .int .i64 x.f2.f0, .int .i64 x.f2.f1, .int .i64 x.f2.f2, .int .i64 x.f3.f0, .int .i64 x.f3.f1, .int .i64 x.f3.f2, .int .i64 x.f4.f0, .int .i64 x.f4.f1, .int .i64 x.f4.f2, .int .i64 x.f5] 31) := ⟨_, rfl⟩
  have hn : W1.heap[W.heap.size]? = some (.cells #[.string x.f0, .string x.f1, .int .i64 x.f2.f0, .int .i64 x.f2.f1, .int .i64 x.f2.f2, .int .i64 x.f3.f0, .int .i64 x.f3.f1, .int .i64 x.f3.f2, .int .i64 x.f4.f0, .int .i64 x.f4.f1, .int .i64 x.f4.f2, .int .i64 x.f5] 31 (0, 0)) := by rw [hW1]; exact blk_new _ _
  have hB : Below W.heap.size W W1 := by rw [hW1]; exact below_alloc (Below.refl _ _) _
  have k0 : W1.cell? ⟨b, 0, none⟩ = some (.int .i64 v.f0) := pw_cell_below hB h0
  have k1 : W1.cell? ⟨b, 1, none⟩ = some (.int .i64 v.f1) := pw_cell_below hB h01
  have k2 : W1.cell? ⟨b, 2, none⟩ = some (.int .i64 v.f2) := pw_cell_below hB h02
  have l0 : W1.cell? ⟨W.heap.size, 8, none⟩ = some (.int .i64 x.f4.f0) := (blk_cell hn 8).trans rfl
  have l1 : W1.cell? ⟨W.heap.size, 9, none⟩ = some (.int .i64 x.f4.f1) := (blk_cell hn 9).trans rfl
  have l2 : W1.cell? ⟨W.heap.size, 10, none⟩ = some (.int .i64 x.f4.f2) := (blk_cell hn 10).trans rfl
  have l3 : W1.cell? ⟨W.heap.size, 2, none⟩ = some (.int .i64 x.f2.f0) := (blk_cell hn 2).trans rfl
  have l4 : W1.cell? ⟨W.heap.size, 3, none⟩ = some (.int .i64 x.f2.f1) := (blk_cell hn 3).trans rfl
  have l5 : W1.cell? ⟨W.heap.size, 4, none⟩ = some (.int .i64 x.f2.f2) := (blk_cell hn 4).trans rfl
  go_wp2_with fail
  rw [← hW1]
  have HW := Aside0.mk hW1
  have HA := Aside0.mk h1
  have HL := Aside0.mk h2
  clear hW1 hn h0 h01 h02 h1 h2 hl
  have hBd : Below W.heap.size W W1.drew := below_drew hB
  go_region_held3 (fun w' => w'.cell? ⟨b, 0, none⟩ = some (.int .i64 v.f0) ∧ w'.cell? ⟨b, 1, none⟩ = some (.int .i64 v.f1) ∧ w'.cell? ⟨b, 2, none⟩ = some (.int .i64 v.f2) ∧ w'.cell? ⟨W.heap.size, 8, none⟩ = some (.int .i64 x.f4.f0) ∧ w'.cell? ⟨W.heap.size, 9, none⟩ = some (.int .i64 x.f4.f1) ∧ w'.cell? ⟨W.heap.size, 10, none⟩ = some (.int .i64 x.f4.f2) ∧ w'.cell? ⟨W.heap.size, 2, none⟩ = some (.int .i64 x.f2.f0) ∧ w'.cell? ⟨W.heap.size, 3, none⟩ = some (.int .i64 x.f2.f1) ∧ w'.cell? ⟨W.heap.size, 4, none⟩ = some (.int .i64 x.f2.f2) ∧ Below W.heap.size W w')
    (first | (go_keep; done) | (go_keep; exact below_drew (below_alloc hB _)) | (go_split_ands; refine ⟨?_, ?_, ?_, ?_, ?_, ?_, ?_, ?_, ?_, ?_⟩ <;> first | exact below_step (by first | assumption | exact below_drew (below_alloc hB _)) hb | exact pw_cell_below hb (by first | assumption | (go_keep; done))))
    (first | (go_at_call 119; refine (vec_Add.calls (some ⟨_, 0, none⟩) 2 [x.f4, v] r1 r2 r3 _ (vec_two_row _ _ (blk_drew (blk_new _ _))) (Nat.le_refl _) HA.out).mono ?_; rintro e w' ⟨rfl, hb⟩) | (go_at_call 118; refine (vec_Le.calls _ _ _ _ _ _ _ _ HL.out).mono ?_; rintro e w' ⟨rfl, hb⟩))
  rename_i hHeld
  have HBf := Aside0.mk hHeld.2.2.2.2.2.2.2.2.2
  clear hHeld
  go_wp2
  go_ret
  exact ⟨rfl, HBf.out⟩
set_option maxHeartbeats 2000000 in
set_option maxRecDepth 100000 in
theorem admitAll1_calls (W : World) (bi bp : Nat) (g : Nat) (lbi : Array Value) (p : S31 → Bool) (up : Value) (A : Option Addr) (c : Nat) (l : List S31) (s : ByteArray) (j : Int)
    (eg : ∀ args w, (callFunc g args).run Try.prog w = .ok (.enter g args) w)
    (hi : W.heap[bi]? = some (.cells #[.func (.func g) #[] lbi] 153 (0, 0))) (hq : W.heap[bp]? = some (.cells #[.slice A l.length c, up] 149 (0, 0)))
    (hr : Kd.C k31 W A l.length l) (hc : l.length ≤ c) (hj : tree_Find.f l s = some j) (h0 : 0 ≤ j) (h1 : j < (l.length : Int))
    (hp : ∀ W' x, Below W.heap.size W W' → Calls Try.prog g (#[.agg (itemCells x)] ++ lbi) W' fun e w' => e = .returned (.bool (p x)) ∧ Below W'.heap.size W' w') :
    Calls Try.prog 161 #[.string s, .pointer (some ⟨bi, 0, none⟩), .pointer (some ⟨bp, 0, none⟩)] W fun e w' => e = .returned (.bool (!p (rd_T31 l j))) ∧ Below W.heap.size W w' := by
  have hu31 := Try.underlying31
  have hu149 := Try.underlying149
  have hu147 := Try.underlying147
  obtain ⟨ad, e1, k0, k1, k2, k3, k4, k5, k6, k7, k8, k9, k10, k11⟩ := at_T31 hr j h0 h1
  cases e1
  have i0 : W.cell? ⟨bi, 0, none⟩ = some (.func (.func g) #[] lbi) := (blk_cell hi 0).trans rfl
  have p0 : W.cell? ⟨bp, 0, none⟩ = some (.slice (some ad) l.length c) := (blk_cell hq 0).trans rfl
  have HR := Aside0.mk hr
  have HC := Aside0.mk hc
  have HJ := Aside0.mk hj
  have HP := Aside0.mk (hp · (rd_T31 l j))
  have HEG := Aside0.mk eg
  have hbx := itemCells.eq_1 (rd_T31 l j)
  generalize rd_T31 l j = x at k0 k1 k2 k3 k4 k5 k6 k7 k8 k9 k10 k11 HP hbx ⊢
  rw [hbx] at HP
  have hB : Below W.heap.size W W := Below.refl _ _
  have hBd : Below W.heap.size W W.drew := below_drew hB
  clear hi hq hr hc hj hp eg hbx
  have eg := HEG.out
  have q0 := eq_true h0
  have q1 := eq_true h1
  clear h0 h1
  go_enter Try.func161, Try.ntmps161
  go_wp2_with fail
  go_region_held3 (fun w' => w'.cell? ⟨bi, 0, none⟩ = some (.func (.func g) #[] lbi) ∧ w'.cell? ⟨bp, 0, none⟩ = some (.slice (some ad) l.length c) ∧ w'.cell? (ad.add (j.toNat * 12)) = some (.string x.f0) ∧ w'.cell? ⟨(ad.add (j.toNat * 12)).block, (ad.add (j.toNat * 12)).off + 1, none⟩ = some (.string x.f1) ∧ w'.cell? ⟨(ad.add (j.toNat * 12)).block, (ad.add (j.toNat * 12)).off + 2, none⟩ = some (.int .i64 x.f2.f0) ∧ w'.cell? ⟨(ad.add (j.toNat * 12)).block, (ad.add (j.toNat * 12)).off + 3, none⟩ = some (.int .i64 x.f2.f1) ∧ w'.cell? ⟨(ad.add (j.toNat * 12)).block, (ad.add (j.toNat * 12)).off + 4, none⟩ = some (.int .i64 x.f2.f2) ∧ w'.cell? ⟨(ad.add (j.toNat * 12)).block, (ad.add (j.toNat * 12)).off + 5, none⟩ = some (.int .i64 x.f3.f0) ∧ w'.cell? ⟨(ad.add (j.toNat * 12)).block, (ad.add (j.toNat * 12)).off + 6, none⟩ = some (.int .i64 x.f3.f1) ∧ w'.cell? ⟨(ad.add (j.toNat * 12)).block, (ad.add (j.toNat * 12)).off + 7, none⟩ = some (.int .i64 x.f3.f2) ∧ w'.cell? ⟨(ad.add (j.toNat * 12)).block, (ad.add (j.toNat * 12)).off + 8, none⟩ = some (.int .i64 x.f4.f0) ∧ w'.cell? ⟨(ad.add (j.toNat * 12)).block, (ad.add (j.toNat * 12)).off + 9, none⟩ = some (.int .i64 x.f4.f1) ∧ w'.cell? ⟨(ad.add (j.toNat * 12)).block, (ad.add (j.toNat * 12)).off + 10, none⟩ = some (.int .i64 x.f4.f2) ∧ w'.cell? ⟨(ad.add (j.toNat * 12)).block, (ad.add (j.toNat * 12)).off + 11, none⟩ = some (.int .i64 x.f5) ∧ Below W.heap.size W w')
    (first | (go_keep; done) | (go_split_ands; refine ⟨?_, ?_, ?_, ?_, ?_, ?_, ?_, ?_, ?_, ?_, ?_, ?_, ?_, ?_, ?_⟩ <;> first | exact below_step (by assumption) hb | exact pw_cell_below hb (by first | assumption | (go_keep; done))))
    (first | (go_at_call 132; refine (admit_live_at.calls _ _ l s j _ (Kd.C_below HR.out (by assumption)) HC.out HJ.out).mono ?_; rintro e w' ⟨rfl, hb⟩) | (go_at_fn g; refine (HP.out _ (by first | assumption | (go_split_ands; assumption))).mono ?_; rintro e w' ⟨rfl, hb⟩))
  rename_i hHeld
  have HBf := Aside0.mk hHeld.2.2.2.2.2.2.2.2.2.2.2.2.2.2
  clear hHeld
  go_wp2
  go_ret
  exact ⟨rfl, HBf.out⟩
/-- is each of the way up so? (each must be there) -/
def admAllF (p : S31 → Bool) (l : List S31) (us : List ByteArray) : Option Bool :=
  if us.all (fun s => decide (0 ≤ (tree_Find.f l s).getD 0) && decide ((tree_Find.f l s).getD 0 < (l.length : Int))) = true then some (us.all fun s => p (rd_T31 l ((tree_Find.f l s).getD 0))) else none
set_option maxHeartbeats 2000000 in
set_option maxRecDepth 100000 in
theorem admitAll_calls (g : Nat) (lbi : Array Value) (p : S31 → Bool) (A Au : Option Addr) (c cu : Nat) (l : List S31) (us : List ByteArray) (q : Bool) (w : World)
    (eg : ∀ args w, (callFunc g args).run Try.prog w = .ok (.enter g args) w) (hr : Kd.C k31 w A l.length l) (hc : l.length ≤ c) (hu : Kd.C Kd.string w Au us.length us) (hcu : us.length ≤ cu)
    (hp : ∀ W' x, Below w.heap.size w W' → Calls Try.prog g (#[.agg (itemCells x)] ++ lbi) W' fun e w' => e = .returned (.bool (p x)) ∧ Below W'.heap.size W' w') (h : admAllF p l us = some q) :
    Calls Try.prog 116 #[.agg #[.slice A l.length c, .slice Au us.length cu], .func (.func g) #[] lbi] w fun e w' => e = .returned (.bool q) ∧ Below w.heap.size w w' := by
  have hu149 := Try.underlying149
  have hall : us.all (fun s => decide (0 ≤ (tree_Find.f l s).getD 0) && decide ((tree_Find.f l s).getD 0 < (l.length : Int))) = true ∧ us.all (fun s => p (rd_T31 l ((tree_Find.f l s).getD 0))) = q := by
    unfold admAllF at h
    split at h
    · exact ⟨by assumption, Option.some.inj h⟩
    · cases h
  obtain ⟨hall, rfl⟩ := hall
  obtain ⟨W1, hW1⟩ : ∃ W1, W1 = (w.alloc (.cells #[.slice A l.length c, .slice Au us.length cu] 149)).alloc (.cells #[.func (.func g) #[] lbi] 153) := ⟨_, rfl⟩
  have hn0 : W1.heap[w.heap.size]? = some (.cells #[.slice A l.length c, .slice Au us.length cu] 149 (0, 0)) := by rw [hW1]; exact blk_alloc (blk_new _ _) _
  have hn1 : W1.heap[w.heap.size + 1]? = some (.cells #[.func (.func g) #[] lbi] 153 (0, 0)) := by
    rw [hW1]
    have := blk_new (w.alloc (.cells #[.slice A l.length c, .slice Au us.length cu] 149)) (.cells #[.func (.func g) #[] lbi] 153)
    simpa using this
  have hB : Below w.heap.size w W1 := by rw [hW1]; exact below_alloc (below_alloc (Below.refl _ _) _) _
  have HC := Aside0.mk (containsStr_calls 161 #[.pointer (some ⟨w.heap.size + 1, 0, none⟩), .pointer (some ⟨w.heap.size, 0, none⟩)] (fun s => !p (rd_T31 l ((tree_Find.f l s).getD 0))) (enters_of Try.func161 (by kernel_rfl) rfl) W1 Au cu us
    (fun W x hx hb => by
      have hj := List.all_eq_true.1 hall x hx
      rw [Bool.and_eq_true, decide_eq_true_iff, decide_eq_true_iff] at hj
      exact admitAll1_calls W (w.heap.size + 1) w.heap.size g lbi p (.slice Au us.length cu) A c l x ((tree_Find.f l x).getD 0) eg (blk_below hn1 hb) (blk_below hn0 hb) (Kd.C_below (Kd.C_below hr hB) hb) hc rfl hj.1 hj.2 (fun W' y hb' => hp W' y (below_step (below_step hB hb) hb')))
    (Kd.C_below hu hB) hcu)
  have hneg : (!us.any fun s => !p (rd_T31 l ((tree_Find.f l s).getD 0))) = us.all (fun s => p (rd_T31 l ((tree_Find.f l s).getD 0))) := by rw [List.not_any_eq_all_not]; simp
  rw [← hneg]
  generalize (us.any fun s => !p (rd_T31 l ((tree_Find.f l s).getD 0))) = q at HC
  have HW := Aside0.mk hW1
  have HB := Aside0.mk hB
  have u0 : W1.cell? ⟨w.heap.size, 1, none⟩ = some (.slice Au us.length cu) := (blk_cell hn0 1).trans rfl
  have HU := Aside0.mk u0
  clear h hneg hall hn0 hn1 hB hW1 hp eg hr hu u0
  have hx : ((w.alloc (.cells #[.slice A l.length c, .slice Au us.length cu] 149)).alloc (.cells #[.func (.func g) #[] lbi] 153)).cell? ⟨w.heap.size, 1, none⟩ = some (.slice Au us.length cu) := by rw [← HW.out]; exact HU.out
  go_enter Try.func116, Try.ntmps116
  go_wp2_with (go_at_call 129; rw [← HW.out]; refine HC.out.mono ?_; rintro e w' ⟨rfl, hb'⟩; have HB' := Aside0.mk (below_step HB.out hb'); clear hb')
  go_ret
  exact ⟨rfl, HB'.out⟩
end Go.Proofs.Ytcgefpklljclgaa.Print

namespace Go.Proofs.Ytcgefpklljclgaa.Print
open Go.RowKit Go.Proofs.YtcgefpklljclgaaW.PrintWords Go.Proofs.YtcgefpklljclgaaW.PrintLast Go.Proofs.YtcgefpklljclgaaW.PrintMore
attribute [local go_sem] max2_int min2_int max_two min_two max_three min_three max_four min_four   -- for this text's walks alone
set_option linter.unusedVariables false
set_option linter.unusedSimpArgs false
/-! ### slices_Clone_Item: function 153 -/
/-- what slices.Clone makes: the same elements -/
def slices_Clone_Item.f (l0 : List (S31)) : Option (List (S31)) := if l0.length < 1256584717458 then some l0 else none
set_option maxHeartbeats 8000000 in
set_option maxRecDepth 100000 in
theorem slices_Clone_Item.calls (A0 : Option Addr) (c0 : Nat) (l0 : List (S31)) (r : List (S31)) (w : World) (hr0 : Kd.C k31 w A0 l0.length l0) (hc0 : l0.length ≤ c0) (h : slices_Clone_Item.f l0 = some r) :
    Calls Try.prog 153 #[.slice A0 l0.length c0] w fun e w' => ∃ v0_ : Value, e = .returned (v0_) ∧ Kd.R k31 31 w' w.heap.size (fun _ => True) v0_ r ∧ Below w.heap.size w w' := by
  have hlim : l0.length < 1256584717458 ∧ l0 = r := by
    unfold slices_Clone_Item.f at h
    split at h
    · exact ⟨by assumption, Option.some.inj h⟩
    · cases h
  obtain ⟨hlim, rfl⟩ := hlim
  have hnil := fun (W : World) (n c : Nat) => Lib.run_eql_slice_nil (P := Try.prog) W 24 31 A0 n c 0 0 Try.underlying24
  cases A0 with
  | none =>
    have hl : l0 = [] := by
      cases l0 with
      | nil => rfl
      | cons x l => exact absurd (hr0.2.2 (by simp)) (by simp)
    subst hl
    clear hr0
    go_enter Try.func153, Try.ntmps153
    go_wp2
    go_ret
    exact ⟨_, rfl, Kd.R_nil _ _ _ _ _, Below.refl _ _⟩
  | some ad =>
    have HR0 := Aside0.mk hr0
    have HC0 := Aside0.mk hc0
    have LM := Aside0.mk hlim
    clear hr0 hc0 hlim h
    have HB := Aside0.mk (Below.refl w.heap.size w)
    go_enter Try.func153, Try.ntmps153
    go_wp2_with (first | ((with_reducible refine gate_dst (N := 5) rfl ?_); refine Kd.R_lit k31 _ 31 ?hg (N := 5) ?hd (xs := ([] : List (S31))) (inner := []) (ok := fun _ => True) (okp := fun _ => True) ?hr ?hp (fun _ hk => hk) trivial (Below.refl _ _) (Nat.le_refl _) (by simp) ?_; (case hd => rfl); (case hg => rfl); (case hr => first | (go_simp; done) | (go_simp; rfl)); (case hp => exact (Reps.none _ _)); intro v2 w3 ho4 hb hg_ hnew_; clear hg_ hnew_; have n0_ := Aside0.mk (Kd.R_lower ho4 (below_size HB.out)); have n1_ := Aside0.mk (below_step HB.out hb); clear HB; have HO3 := n0_; have HB := n1_; clear n0_ n1_; clear hb ho4) | ((with_reducible refine gate_builtin (b := .append) (xs := #[.tmp 5, .tmp 6]) rfl ?_); at_builtin; refine Kd.R_append_rows k31 (w0 := w) w.heap.size rfl (.tmp 5) (.tmp 6) 24 31 (.agg #[(.string ⟨#[]⟩), (.string ⟨#[]⟩), (.int .i64 0), (.int .i64 0), (.int .i64 0), (.int .i64 0), (.int .i64 0), (.int .i64 0), (.int .i64 0), (.int .i64 0), (.int .i64 0), (.int .i64 0)]) 112 rfl Try.underlying24 info31 rfl (by decide) (by omega) v2 [] l0 _ _ _ (fun _ => True) (fun _ => False) rfl rfl ?aO ?aR (fun _ _ h => h) (fun _ h => h.elim) ?aF ?aB ?aS ?aL ?_; (case aR => exact (Kd.C_below HR0.out HB.out)); (case aB => exact HB.out); (case aF => exact (fun _ _ => trivial)); (case aO => exact HO3.out); (case aS => exact (below_size HB.out)); (case aL => have := LM.out; simp; omega); intro v5 w5 ho hb hg hat; have n0_ := Aside0.mk (hb); have n1_ := Aside0.mk (ho); clear HB; clear HO3; have HB := n0_; have HO6 := n1_; clear n0_ n1_; clear ho hb hg hat))
    go_ret
    exact ⟨_, rfl, HO6.out, HB.out⟩
end Go.Proofs.Ytcgefpklljclgaa.Print

namespace Go.Proofs.Ytcgefpklljclgaa.Print
open Go.RowKit Go.Proofs.YtcgefpklljclgaaW.PrintWords Go.Proofs.YtcgefpklljclgaaW.PrintLast Go.Proofs.YtcgefpklljclgaaW.PrintMore
attribute [local go_sem] max2_int min2_int max_two min_two max_three min_three max_four min_four   -- for this text's walks alone
set_option linter.unusedVariables false
set_option linter.unusedSimpArgs false
/-! ### admit_changed: function 120 -/
/-- an item's use, all in all, or its own, is turned -/
def subF (op : S27 → S27) (x : S31) : S31 := ⟨x.f0, x.f1, x.f2, x.f3, op x.f4, x.f5⟩
def ownF (op : S27 → S27) (x : S31) : S31 := ⟨x.f0, x.f1, x.f2, op x.f3, x.f4, x.f5⟩
def setAt (f : S31 → S31) (out : List S31) (j : Int) : List S31 := out.set j.toNat (f (rd_T31 out j))
def subs (op : S27 → S27) (l : List S31) (us : List ByteArray) (out : List S31) : List S31 := us.foldl (fun out s => setAt (subF op) out ((tree_Find.f l s).getD 0)) out
def found (l : List S31) (us : List ByteArray) : Bool := us.all (fun s => decide (0 ≤ (tree_Find.f l s).getD 0) && decide ((tree_Find.f l s).getD 0 < (l.length : Int)))
def changedF (op : S27 → S27) (l : List S31) (us : List ByteArray) : Option (List S31) :=
  if found l us = true ∧ 0 < us.length then (slices_Clone_Item.f l).bind fun out => some (setAt (ownF op) (subs op l us out) ((tree_Find.f l (rdOf ByteArray.empty us 0)).getD 0)) else none
theorem setAt_len (f : S31 → S31) (out : List S31) (j : Int) : (setAt f out j).length = out.length := by unfold setAt; simp
theorem subs_take (op : S27 → S27) (l : List S31) (us : List ByteArray) (out : List S31) (i : Nat) (h : i < us.length) : subs op l (us.take (i + 1)) out = setAt (subF op) (subs op l (us.take i) out) ((tree_Find.f l (rdOf ByteArray.empty us i)).getD 0) := by
  unfold subs
  rw [List.take_succ_eq_append_getElem h, List.foldl_append, show rdOf ByteArray.empty us (i : Int) = us[i] from by simp [rdOf, h]]
  rfl
theorem subs_len (op : S27 → S27) (l : List S31) : ∀ (us : List ByteArray) (out : List S31), (subs op l us out).length = out.length
  | [], _ => rfl
  | s :: us, out => by
    show (subs op l us (setAt _ out _)).length = _
    rw [subs_len op l us, setAt_len]
/-- a row that isn't empty: where it lies -/
theorem row_head {α : Type} {d : Kd α} {e base : Nat} {ok : Nat → Prop} {w : World} {v : Value} {xs : List α} (h : d.R e w base ok v xs) (hn : 0 < xs.length) : ∃ (g c : Nat), v = .slice (some ⟨g, 0, none⟩) xs.length c ∧ base ≤ g ∧ g < w.heap.size := by
  obtain ⟨_, inner, ⟨_, h | ⟨g, cap, cur, rfl, hg, hh, _⟩⟩, _⟩ := h
  · omega
  · exact ⟨g, cap, rfl, hg, blk_lt hh⟩
set_option maxHeartbeats 4000000 in
set_option maxRecDepth 100000 in
theorem admitChanged_calls (g : Nat) (lb : Array Value) (op : S27 → S27) (A Au : Option Addr) (c cu : Nat) (l : List S31) (us : List ByteArray) (r : List S31) (w : World)
    (eg : ∀ args w, (callFunc g args).run Try.prog w = .ok (.enter g args) w) (hr : Kd.C k31 w A l.length l) (hc : l.length ≤ c) (hu : Kd.C Kd.string w Au us.length us) (hcu : us.length ≤ cu)
    (hp : ∀ W' u, Below w.heap.size w W' → Calls Try.prog g (#[.agg #[.int .i64 u.f0, .int .i64 u.f1, .int .i64 u.f2]] ++ lb) W' fun e w' => e = .returned (.agg #[.int .i64 (op u).f0, .int .i64 (op u).f1, .int .i64 (op u).f2]) ∧ Below W'.heap.size W' w')
    (h : changedF op l us = some r) :
    Calls Try.prog 120 #[.agg #[.slice A l.length c, .slice Au us.length cu], .func (.func g) #[] lb] w fun e w' => ∃ v0_ : Value, e = .returned v0_ ∧ Kd.R k31 31 w' w.heap.size (fun _ => True) v0_ r ∧ Below w.heap.size w w' := by
  have hu149 := Try.underlying149
  have hu147 := Try.underlying147
  have hu31 := Try.underlying31
  have hu27 := Try.underlying27
  have hx : (found l us = true ∧ 0 < us.length) ∧ ∃ out, slices_Clone_Item.f l = some out ∧ setAt (ownF op) (subs op l us out) ((tree_Find.f l (rdOf ByteArray.empty us 0)).getD 0) = r := by
    unfold changedF at h
    split at h
    · obtain ⟨out, h1, h2⟩ := Option.bind_eq_some_iff.1 h
      exact ⟨by assumption, out, h1, Option.some.inj h2⟩
    · cases h
  obtain ⟨⟨hf, hpos⟩, out, hcl, rfl⟩ := hx
  have hfind : ∀ i : Nat, i < us.length → ∃ j : Int, tree_Find.f l (rdOf ByteArray.empty us i) = some j ∧ 0 ≤ j ∧ j < (l.length : Int) := fun i hi => by
    have := List.all_eq_true.1 hf (rdOf ByteArray.empty us i) (by simp [rdOf, hi])
    rw [Bool.and_eq_true, decide_eq_true_iff, decide_eq_true_iff] at this
    exact ⟨_, rfl, this.1, this.2⟩
  have hol : out.length = l.length := by
    unfold slices_Clone_Item.f at hcl
    split at hcl
    · rw [Option.some.inj hcl]
    · cases hcl
  have hlen := fun us' => (subs_len op l us' out).trans hol
  have hm : us.length ≤ 9223372036854775807 := hu.2.1
  have HR := Aside0.mk hr
  have HC := Aside0.mk hc
  have HU := Aside0.mk hu
  have HP := Aside0.mk hp
  have HEG := Aside0.mk eg
  have HF := Aside0.mk hfind
  have HCL := Aside0.mk hcl
  have HL := Aside0.mk hlen
  have HT := Aside0.mk (subs_take op l us out)
  have HB := Aside0.mk (Below.refl w.heap.size w)
  clear h hr hc hu hp eg hfind hcl hlen hf hol
  go_enter Try.func120, Try.ntmps120
  go_wp2_with fail
  obtain ⟨w1, hw1⟩ : ∃ w1, w1 = w.alloc (.cells #[.slice A l.length c, .slice Au us.length cu] 149) := ⟨_, rfl⟩
  have hs1 : w1.heap.size = w.heap.size + 1 := by rw [hw1]; simp
  have hb1 : w1.heap[w.heap.size]? = some (.cells #[.slice A l.length c, .slice Au us.length cu] 149 (0, 0)) := by rw [hw1]; exact blk_new _ _
  have hB1 : Below w.heap.size w w1 := by rw [hw1]; exact below_alloc (Below.refl _ _) _
  rw [← hw1]
  have HS1 := Aside0.mk hs1
  clear hw1 hs1
  refine (slices_Clone_Item.calls _ _ l out _ (Kd.C_below HR.out hB1) HC.out HCL.out).mono ?_
  rintro e w2 ⟨v5, rfl, ho, hb⟩
  rw [HS1.out] at ho
  have HO := Aside0.mk ho
  have HK := Aside0.mk (blk_below hb1 hb)
  have HB2 := Aside0.mk (below_step hB1 hb)
  have hz2 : w.heap.size + 1 ≤ w2.heap.size := by rw [← HS1.out]; exact hb.size
  clear ho hb hb1 hB1
  have c0 := (blk_cell HK.out 0).trans rfl
  have c1 := (blk_cell HK.out 1).trans rfl
  go_wp2
  go_loopg [7, 8, 17] us.length (fun kq s7 s8 s17 wr => ∃ i : Nat, i ≤ us.length ∧ us.length - i ≤ kq ∧ s17 = .int .i64 i ∧ Aside0 (Below w.heap.size w wr) ∧ Aside0 (wr.heap[w.heap.size]? = some (.cells #[.slice A l.length c, .slice Au us.length cu] 149 (0, 0))) ∧ Aside0 (Kd.R k31 31 wr (w.heap.size + 1) (fun _ => True) v5 (subs op l (us.take i) out)))
  case atStart => exact ⟨0, by omega, by omega, rfl, HB2, HK, HO⟩
  case round =>
    clear HO HK HB2 c0 c1
    obtain ⟨i, hi, hg, rfl, HB3, HK, HO⟩ := hrel
    have c0 := (blk_cell HK.out 0).trans rfl
    have c1 := (blk_cell HK.out 1).trans rfl
    by_cases hlt : i < us.length
    · have hltz : (i : Int) < (us.length : Int) := by omega
      obtain ⟨j, hj, hj0, hj1⟩ := HF.out i hlt
      obtain ⟨ad, e1, h0⟩ := at_str HU.out (i : Int) (by omega) (by omega)
      cases e1
      simp only [Int.toNat_natCast] at h0
      replace h0 := (HB3.out.cell (World.block_lt_of_cell? w _ h0)).trans h0
      have HJ := Aside0.mk hj
      have hl1 : (subs op l (us.take i) out).length = l.length := HL.out _
      obtain ⟨gb, cap, hv5, hgb, hgl⟩ := row_head HO.out (by omega)
      rw [hl1] at hv5
      subst hv5
      obtain ⟨ad2, cc, e3, hcl, hK, hcc0⟩ := Kd.C_get (Kd.R_reads' HO.out).2.2 z31 j hj0 (by rw [hl1]; exact hj1)
      cases e3
      have hcc : ∀ j' u, cc[j']? = some u → wr.cell? (Addr.add ⟨gb, 0, none⟩ (j.toNat * 12 + j')) = some u := hcc0
      obtain rfl := k31_open hK
      have HT1 := Aside0.mk (HT.out i hlt)
      rw [HJ.out] at HT1
      have hy0 : (subs op l (us.take i) out).getD j.toNat z31 = rd_T31 (subs op l (us.take i) out) j := rfl
      rw [hy0] at hcc
      generalize hy : rd_T31 (subs op l (us.take i) out) j = y at hcc
      have HY := Aside0.mk hy
      have HS := Aside0.mk hl1
      have HCJ := Aside0.mk (show ∀ j' u, (itemCells y).toList[j']? = some u → wr.cell? ⟨gb, j.toNat * 12 + j', none⟩ = some u from fun j' u hu => by
        have := hcc j' u hu
        rwa [Addr.add_lit, Nat.zero_add] at this)
      clear hj hy hl1 hcc0 hcc hK hcl hy0
      have HJ0 := Aside0.mk hj0
      have HJ1 := Aside0.mk hj1
      have q0 := eq_true hj0
      have q1 := eq_true hj1
      go_wp2_with fail
      refine (admit_live_at.calls _ _ l _ j _ (Kd.C_below HR.out HB3.out) HC.out HJ.out).mono ?_
      rintro e w3 ⟨rfl, hb⟩
      have HB4 := Aside0.mk (below_step HB3.out hb)
      have HO4 := Aside0.mk (Kd.R_below HO.out hb)
      have HK4 := Aside0.mk (blk_below HK.out hb)
      have k8 : w3.cell? ⟨gb, j.toNat * 12 + 8, none⟩ = some (.int .i64 y.f4.f0) := (hb.cell (p := ⟨gb, j.toNat * 12 + 8, none⟩) hgl).trans (HCJ.out 8 _ rfl)
      have k9 : w3.cell? ⟨gb, j.toNat * 12 + 8 + 1, none⟩ = some (.int .i64 y.f4.f1) := (hb.cell (p := ⟨gb, j.toNat * 12 + 8 + 1, none⟩) hgl).trans (HCJ.out 9 _ rfl)
      have k10 : w3.cell? ⟨gb, j.toNat * 12 + 8 + 2, none⟩ = some (.int .i64 y.f4.f2) := (hb.cell (p := ⟨gb, j.toNat * 12 + 8 + 2, none⟩) hgl).trans (HCJ.out 10 _ rfl)
      have hl3 : gb < w3.heap.size := Nat.lt_of_lt_of_le hgl hb.size
      have HCJ4 := Aside0.mk (fun j' u hu => (hb.cell (p := ⟨gb, j.toNat * 12 + j', none⟩) hgl).trans (HCJ.out j' u hu))
      clear hb c0 c1 HB3 HO HK HCJ
      have c0 := (blk_cell HK4.out 0).trans rfl
      have c1 := (blk_cell HK4.out 1).trans rfl
      have eg := HEG.out
      go_wp2_with fail
      refine (HP.out w3 y.f4 HB4.out).mono ?_
      rintro e w4 ⟨rfl, hb⟩
      have HB5 := Aside0.mk (below_step HB4.out hb)
      have HO5 := Aside0.mk (Kd.R_below HO4.out hb)
      have HK5 := Aside0.mk (blk_below HK4.out hb)
      have HCJ5 := Aside0.mk (fun j' u hu => (hb.cell (p := ⟨gb, j.toNat * 12 + j', none⟩) hl3).trans (HCJ4.out j' u hu))
      clear hb HB4 HO4 HK4 HCJ4 c0 c1 k8 k9 k10
      go_wp2_with ((with_reducible refine gate_store (t := 27) (p := 35) (v := .tmp 33) rfl ?_); go_must (refine Kd.R_store k31 (w0 := w4) (w.heap.size + 1) rfl rfl 27 (.tmp 35) (.tmp 33) rfl 31 (g := gb) (n := l.length) (cap := cap) (o' := j.toNat * 12 + 8) j 8 (subs op l (us.take i) out) (subF op y) (.agg #[.int .i64 (op y.f4).f0, .int .i64 (op y.f4).f1, .int .i64 (op y.f4).f2]) [.int .i64 (op y.f4).f0, .int .i64 (op y.f4).f1, .int .i64 (op y.f4).f2] (itemCells y).toList (fun _ => True) (fun _ => False) rfl rfl rfl rfl ?ct ?c1 HO5.out ?c2 ?c3 rfl HCJ5.out (by show 8 + 3 ≤ 12; omega) ?cM (fun _ h => h.elim) (Below.refl _ _) ?_); (case ct => kernel_rfl); (case c1 => intro q hq; simp only [List.mem_cons, List.not_mem_nil, or_false] at hq; rcases hq with rfl | rfl | rfl <;> rfl); (case c2 => exact HJ0.out); (case c3 => exact HJ1.out); (case cM => exact k31_mkM _ _ _ (subF op y)); intro w5 ho hb hg; have HB6 := Aside0.mk (pw_below_grown HB5.out (some gb) HB5.out.size hg (fun k e => by cases e; omega)); have HK6 := Aside0.mk (blk_grown HK5.out hg (by intro e; cases e; omega)); have HO6 := Aside0.mk ho; have HZ6 := Aside0.mk hg.size; clear ho hb hg)
      go_roundg (us.length - (i + 1))
      case measure => omega
      case rel =>
        refine ⟨i + 1, by omega, by omega, by go_num, HB6, HK6, ⟨?_⟩⟩
        rw [HT1.out]
        show Kd.R _ _ _ _ _ _ ((subs op l (us.take i) out).set j.toNat (subF op (rd_T31 (subs op l (us.take i) out) j)))
        rw [HY.out]
        exact HO6.out
    · obtain rfl : i = us.length := by omega
      rw [List.take_length] at HO
      obtain ⟨j, hj, hj0, hj1⟩ := HF.out 0 hpos
      obtain ⟨ad, e1, h0⟩ := at_str HU.out 0 (by omega) (by omega)
      cases e1
      rw [Int.toNat_zero, show ad.add 0 = ad from by simp [Addr.add]] at h0
      replace h0 := (HB3.out.cell (World.block_lt_of_cell? w _ h0)).trans h0
      have HJ := Aside0.mk hj
      have hl1 : (subs op l us out).length = l.length := HL.out _
      obtain ⟨gb, cap, hv5, hgb, hgl⟩ := row_head HO.out (by omega)
      rw [hl1] at hv5
      subst hv5
      have HJ0 := Aside0.mk hj0
      have HJ1 := Aside0.mk hj1
      have HL1 := Aside0.mk hl1
      have q0 := eq_true hj0
      have q1 := eq_true hj1
      have q2 := eq_true hpos
      clear hj hj0 hj1 hl1 hpos
      have hB0 : Below wr.heap.size wr wr := Below.refl _ _
      have hBd : Below wr.heap.size wr wr.drew := below_drew hB0
      go_wp2_with fail
      go_region_held3 (fun w' => w'.cell? ⟨w.heap.size, 0, none⟩ = some (.slice A l.length c) ∧ w'.cell? ⟨w.heap.size, 1, none⟩ = some (.slice (some ad) us.length cu) ∧ w'.cell? ad = some (.string (rdOf ByteArray.empty us 0)) ∧ Below wr.heap.size wr w')
        (first | (go_keep; done) | (go_split_ands; refine ⟨?_, ?_, ?_, ?_⟩ <;> first | exact below_step (by assumption) hb | exact pw_cell_below hb (by first | assumption | (go_keep; done))))
        (first | (go_at_call 132; refine (admit_live_at.calls _ _ l _ j _ (Kd.C_below HR.out (by first | exact HB3.out | exact below_drew HB3.out)) HC.out HJ.out).mono ?_; rintro e w' ⟨rfl, hb⟩))
      rename_i hHeld
      have hBz : Below wr.heap.size wr w' := hHeld.2.2.2
      have HO4 := Aside0.mk (Kd.R_below HO.out hBz)
      have HK4 := Aside0.mk (blk_below HK.out hBz)
      have HB4 := Aside0.mk (below_step HB3.out hBz)
      have hl3 : gb < w'.heap.size := Nat.lt_of_lt_of_le hgl hBz.size
      clear hHeld hb hBz HO HK HB3 c0 c1 h0
      obtain ⟨ad2, cc, e3, hcl, hK, hcc0⟩ := Kd.C_get (Kd.R_reads' HO4.out).2.2 z31 j HJ0.out (by rw [HL1.out]; exact HJ1.out)
      cases e3
      have hcc : ∀ j' u, cc[j']? = some u → w'.cell? (Addr.add ⟨gb, 0, none⟩ (j.toNat * 12 + j')) = some u := hcc0
      obtain rfl := k31_open hK
      have hy0 : (subs op l us out).getD j.toNat z31 = rd_T31 (subs op l us out) j := rfl
      rw [hy0] at hcc
      generalize hy : rd_T31 (subs op l us out) j = y at hcc
      have HY := Aside0.mk hy
      have HCJ4 := Aside0.mk (show ∀ j' u, (itemCells y).toList[j']? = some u → w'.cell? ⟨gb, j.toNat * 12 + j', none⟩ = some u from fun j' u hu => by
        have := hcc j' u hu
        rwa [Addr.add_lit, Nat.zero_add] at this)
      clear hy hcc0 hcc hK hcl hy0
      have k5 : w'.cell? ⟨gb, j.toNat * 12 + 5, none⟩ = some (.int .i64 y.f3.f0) := HCJ4.out 5 _ rfl
      have k6 : w'.cell? ⟨gb, j.toNat * 12 + 5 + 1, none⟩ = some (.int .i64 y.f3.f1) := HCJ4.out 6 _ rfl
      have k7 : w'.cell? ⟨gb, j.toNat * 12 + 5 + 2, none⟩ = some (.int .i64 y.f3.f2) := HCJ4.out 7 _ rfl
      have eg := HEG.out
      go_wp2_with fail
      refine (HP.out w' y.f3 HB4.out).mono ?_
      rintro e w4 ⟨rfl, hb⟩
      have HB5 := Aside0.mk (below_step HB4.out hb)
      have HO5 := Aside0.mk (Kd.R_below HO4.out hb)
      have HK5 := Aside0.mk (blk_below HK4.out hb)
      have HCJ5 := Aside0.mk (fun j' u hu => (hb.cell (p := ⟨gb, j.toNat * 12 + j', none⟩) hl3).trans (HCJ4.out j' u hu))
      clear hb HB4 HO4 HK4 HCJ4 k5 k6 k7
      go_wp2_with ((with_reducible refine gate_store (t := 27) (p := 54) (v := .tmp 52) rfl ?_); go_must (refine Kd.R_store k31 (w0 := w4) (w.heap.size + 1) rfl rfl 27 (.tmp 54) (.tmp 52) rfl 31 (g := gb) (n := l.length) (cap := cap) (o' := j.toNat * 12 + 5) j 5 (subs op l us out) (ownF op y) (.agg #[.int .i64 (op y.f3).f0, .int .i64 (op y.f3).f1, .int .i64 (op y.f3).f2]) [.int .i64 (op y.f3).f0, .int .i64 (op y.f3).f1, .int .i64 (op y.f3).f2] (itemCells y).toList (fun _ => True) (fun _ => False) rfl rfl rfl rfl ?ct ?c1 HO5.out ?c2 ?c3 rfl HCJ5.out (by show 5 + 3 ≤ 12; omega) ?cM (fun _ h => h.elim) (Below.refl _ _) ?_); (case ct => kernel_rfl); (case c1 => intro q hq; simp only [List.mem_cons, List.not_mem_nil, or_false] at hq; rcases hq with rfl | rfl | rfl <;> rfl); (case c2 => exact HJ0.out); (case c3 => exact HJ1.out); (case cM => exact k31_mkM _ _ _ (ownF op y)); intro w5 ho hb hg; have HB6 := Aside0.mk (pw_below_grown HB5.out (some gb) HB5.out.size hg (fun k e => by cases e; omega)); have HK6 := Aside0.mk (blk_grown HK5.out hg (by intro e; cases e; omega)); have HO6 := Aside0.mk ho; have HZ6 := Aside0.mk hg.size; clear ho hb hg)
      go_ret
      refine ⟨_, rfl, ?_, HB6.out⟩
      rw [show rdOf ByteArray.empty us 0 = rdOf ByteArray.empty us ((0 : Nat) : Int) from rfl, HJ.out]
      show Kd.R _ _ _ _ _ _ ((subs op l us out).set j.toNat (ownF op (rd_T31 (subs op l us out) j)))
      rw [HY.out]
      exact Kd.R_lower HO6.out (Nat.le_succ _)
end Go.Proofs.Ytcgefpklljclgaa.Print

namespace Go.Proofs.Ytcgefpklljclgaa.Print
open Go.RowKit Go.Proofs.YtcgefpklljclgaaW.PrintWords Go.Proofs.YtcgefpklljclgaaW.PrintLast Go.Proofs.YtcgefpklljclgaaW.PrintMore
attribute [local go_sem] max2_int min2_int max_two min_two max_three min_three max_four min_four   -- for this text's walks alone
set_option linter.unusedVariables false
set_option linter.unusedSimpArgs false
/-! ### admit_Admit: function 60 -/
/-- one amount added to another, as the program adds -/
def opAdd (v u : S27) : S27 := ⟨((vec_Add.f [u, v]).getD (0, 0, 0)).1, ((vec_Add.f [u, v]).getD (0, 0, 0)).2.1, ((vec_Add.f [u, v]).getD (0, 0, 0)).2.2⟩
def leV (a b : S27) : Bool := (vec_Le.f a.f0 a.f1 a.f2 b.f0 b.f1 b.f2).getD false
theorem leV_eq (a b : S27) : vec_Le.f a.f0 a.f1 a.f2 b.f0 b.f1 b.f2 = some (leV a b) := by
  unfold leV vec_Le.f
  split <;> (try split) <;> rfl
set_option maxHeartbeats 1000000 in
set_option maxRecDepth 100000 in
theorem admit2_calls (W : World) (b : Nat) (v u : S27) (hb : W.heap[b]? = some (.cells #[.int .i64 v.f0, .int .i64 v.f1, .int .i64 v.f2] 27 (0, 0))) :
    Calls Try.prog 121 #[.agg #[.int .i64 u.f0, .int .i64 u.f1, .int .i64 u.f2], .pointer (some ⟨b, 0, none⟩)] W fun e w' => e = .returned (.agg #[.int .i64 (opAdd v u).f0, .int .i64 (opAdd v u).f1, .int .i64 (opAdd v u).f2]) ∧ Below W.heap.size W w' := by
  have hu27 := Try.underlying27
  obtain ⟨⟨q1, q2, q3⟩, hq⟩ : ∃ q : Int × Int × Int, vec_Add.f [u, v] = some q := ⟨_, rfl⟩
  rw [show opAdd v u = ⟨q1, q2, q3⟩ from by unfold opAdd; rw [hq]; rfl]
  have HQ := Aside0.mk hq
  clear hq
  have h0 := (blk_cell hb 0).trans rfl
  have h01 := (blk_cell hb 1).trans rfl
  have h02 := (blk_cell hb 2).trans rfl
  have hl : b < W.heap.size := blk_lt hb
  clear hb
  go_enter Try.func121, Try.ntmps121
  go_wp2_with fail
  obtain ⟨w3, hw3⟩ : ∃ w3, w3 = (W.alloc (.cells #[.int .i64 u.f0, .int .i64 u.f1, .int .i64 u.f2] 27)).alloc (.cells #[.int .i64 0, .int .i64 0, .int .i64 0] 27) := ⟨_, rfl⟩
  have hs3 : w3.heap.size = W.heap.size + 1 + 1 := by rw [hw3]; simp
  have hz3 : w3.heap[W.heap.size + 1]? = some (.cells #[.int .i64 0, .int .i64 0, .int .i64 0] 27 (0, 0)) := by rw [hw3]; have := blk_new (W.alloc (.cells #[.int .i64 u.f0, .int .i64 u.f1, .int .i64 u.f2] 27)) (.cells #[.int .i64 0, .int .i64 0, .int .i64 0] 27); simpa using this
  have hb3 : Below W.heap.size W w3 := by rw [hw3]; exact below_alloc (below_alloc (Below.refl _ _) _) _
  rw [← hw3, ← hs3]
  clear hw3
  have hn := blk_new w3 (.cells #[.int .i64 u.f0, .int .i64 u.f1, .int .i64 u.f2, .int .i64 v.f0, .int .i64 v.f1, .int .i64 v.f2] 27)
  refine (vec_Add.calls (some ⟨_, 0, none⟩) 2 [u, v] q1 q2 q3 _ (vec_two_row u v hn) (Nat.le_refl _) HQ.out).mono ?_
  rintro e w1 ⟨rfl, hb⟩
  have HB := Aside0.mk (below_step (below_step hb3 (below_alloc (Below.refl _ _) _)) hb)
  have HZ := Aside0.mk (blk_below (blk_alloc hz3 (.cells #[.int .i64 u.f0, .int .i64 u.f1, .int .i64 u.f2, .int .i64 v.f0, .int .i64 v.f1, .int .i64 v.f2] 27)) hb)
  have HS3 := Aside0.mk hs3
  clear hb hn hb3 hz3 hs3 h0 h01 h02
  have g0 := (blk_cell HZ.out 0).trans rfl
  have g1 := (blk_cell HZ.out 1).trans rfl
  have g2 := (blk_cell HZ.out 2).trans rfl
  have z0 := blk_frozen HZ.out 0
  have z1 := blk_frozen HZ.out 1
  have z2 := blk_frozen HZ.out 2
  have hs1 : W.heap.size + 1 < w1.heap.size := blk_lt HZ.out
  go_wp2
  refine bodyPost_ret (results_cell_row rfl _ _ (W.heap.size + 1) 27 #[.int .i64 q1, .int .i64 q2, .int .i64 q3] (0, 0) _ rfl (blk_put (blk_put (blk_put HZ.out 0 _ rfl) 1 _ rfl) 2 _ rfl) Try.underlying27 rfl (by kernel_rfl)) rfl ?_
  have hle : W.heap.size ≤ W.heap.size + 1 := by omega
  exact ⟨rfl, below_set (below_set (below_set HB.out hle) hle) hle⟩
set_option maxHeartbeats 1000000 in
set_option maxRecDepth 100000 in
theorem admitMade_calls (k : Nat) (A0 : Option Addr) (c0 : Nat) (l0 : List (S31)) (a1 : ByteArray) (us : List ByteArray) (w : World) (hr0 : Kd.C k31 w A0 l0.length l0) (hc0 : l0.length ≤ c0) (h : tree_Up.f k l0 a1 = some us) :
    Calls Try.prog 114 #[.slice A0 l0.length c0, .string a1] w fun e w' => ∃ (Au : Option Addr) (cu : Nat), e = .returned (.agg #[.slice A0 l0.length c0, .slice Au us.length cu]) ∧ Kd.C Kd.string w' Au us.length us ∧ us.length ≤ cu ∧ Below w.heap.size w w' := by
  have hu149 := Try.underlying149
  have hu147 := Try.underlying147
  have hn := blk_new w (.cells #[.slice none 0 0, .slice none 0 0] 149)
  have hB : Below w.heap.size w (w.alloc (.cells #[.slice none 0 0, .slice none 0 0] 149)) := below_alloc (Below.refl _ _) _
  have HC := Aside0.mk (tree_Up.calls k A0 c0 l0 a1 us _ (Kd.C_below hr0 hB) hc0 h)
  have HN := Aside0.mk hn
  have HB := Aside0.mk hB
  clear hr0 h hn hB
  go_enter Try.func114, Try.ntmps114
  go_wp2_with fail
  refine HC.out.mono ?_
  rintro e w1 ⟨v, rfl, ho, hb⟩
  obtain ⟨Au, cu, rfl, hl, hR⟩ := Kd.R_reads ho
  have HO := Aside0.mk ho
  have HN1 := Aside0.mk (blk_below HN.out hb)
  have HB1 := Aside0.mk (below_step HB.out hb)
  have HR := Aside0.mk hR
  clear ho hb hR HN HB HC
  have g0 := (blk_cell HN1.out 0).trans rfl
  have g1 := (blk_cell HN1.out 1).trans rfl
  have z0 := blk_frozen HN1.out 0
  have z1 := blk_frozen HN1.out 1
  have hs1 : w.heap.size < w1.heap.size := blk_lt HN1.out
  go_wp2
  refine bodyPost_ret (results_cell_row rfl _ _ w.heap.size 149 #[.slice A0 l0.length c0, .slice Au us.length cu] (0, 0) _ rfl (blk_put (blk_put HN1.out 0 _ rfl) 1 _ rfl) Try.underlying149 rfl (by kernel_rfl)) rfl ?_
  exact ⟨Au, cu, rfl, (Kd.R_reads' (Kd.R_set (Kd.R_set HO.out HN1.out (by decide) 0 _) (blk_put HN1.out 0 _ rfl) (by decide) 1 _)).2.2, hl, below_set (below_set HB1.out (Nat.le_refl _)) (Nat.le_refl _)⟩
/-- what Admit makes -/
def admit_Admit.f (k : Nat) (l0 : List (S31)) (a1 : ByteArray) (a2_0 : Int) (a2_1 : Int) (a2_2 : Int) : Option ((List (S31)) × Int) :=
  (tree_Up.f k l0 a1).bind fun us => (vec_May.f a2_0 a2_1 a2_2).bind fun m => if m = true then (if us.length = 0 then some ([], 2) else (admAllF (fun x => leV (opAdd ⟨a2_0, a2_1, a2_2⟩ x.f4) x.f2) l0 us).bind fun q => if q = true then (changedF (opAdd ⟨a2_0, a2_1, a2_2⟩) l0 us).bind fun r => some (r, 0) else some ([], 12)) else some ([], 1)
theorem admit_Admit.mono : ∀ a0 a1 a2 a3 a4 k, LeO (admit_Admit.f k a0 a1 a2 a3 a4) (admit_Admit.f (k + 1) a0 a1 a2 a3 a4) := by
  intro a0 a1 a2 a3 a4 k
  unfold admit_Admit.f
  exact LeO.bind (tree_Up.mono _ _ k) (fun _ => LeO.refl _)
set_option maxHeartbeats 4000000 in
set_option maxRecDepth 100000 in
theorem admit_Admit.calls (k : Nat) (A0 : Option Addr) (c0 : Nat) (l0 : List (S31)) (a1 : ByteArray) (a2_0 : Int) (a2_1 : Int) (a2_2 : Int) (r1 : List (S31)) (r2 : Int) (w : World) (hr0 : Kd.C k31 w A0 l0.length l0) (hc0 : l0.length ≤ c0) (h : admit_Admit.f k l0 a1 a2_0 a2_1 a2_2 = some (r1, r2)) :
    Calls Try.prog 60 #[.slice A0 l0.length c0, .string a1, .agg #[.int .i64 a2_0, .int .i64 a2_1, .int .i64 a2_2]] w fun e w' => ∃ v0_ : Value, e = .returned (.tuple #[v0_, .int .i64 r2]) ∧ Kd.R k31 31 w' w.heap.size (fun _ => True) v0_ r1 ∧ Below w.heap.size w w' := by
  have hu149 := Try.underlying149
  have hu27 := Try.underlying27
  obtain ⟨us, hus, h1⟩ := Option.bind_eq_some_iff.1 h
  obtain ⟨m, hm, h2⟩ := Option.bind_eq_some_iff.1 h1
  obtain ⟨w1, hw1⟩ : ∃ w1, w1 = w.alloc (.cells #[.int .i64 a2_0, .int .i64 a2_1, .int .i64 a2_2] 27) := ⟨_, rfl⟩
  have hv1 : w1.heap[w.heap.size]? = some (.cells #[.int .i64 a2_0, .int .i64 a2_1, .int .i64 a2_2] 27 (0, 0)) := by rw [hw1]; exact blk_new _ _
  have hB1 : Below w.heap.size w w1 := by rw [hw1]; exact below_alloc (Below.refl _ _) _
  have HC := Aside0.mk (admitMade_calls k A0 c0 l0 a1 us w1 (Kd.C_below hr0 hB1) hc0 hus)
  have HR := Aside0.mk hr0
  have HM := Aside0.mk hm
  have HH := Aside0.mk h2
  have HW1 := Aside0.mk hw1
  have HV1 := Aside0.mk hv1
  have HB1 := Aside0.mk hB1
  clear hus h h1 h2 hm hr0 hw1 hv1 hB1
  go_enter Try.func60, Try.ntmps60
  go_wp2_with fail
  rw [← HW1.out]
  refine HC.out.mono ?_
  rintro e w2 ⟨Au, cu, rfl, hu, hcu, hb⟩
  have HU := Aside0.mk hu
  have HB2 := Aside0.mk (below_step HB1.out hb)
  have HV2 := Aside0.mk (blk_below HV1.out hb)
  clear hu hb HC HV1 HB1 HW1
  have g0 := (blk_cell HV2.out 0).trans rfl
  have g1 := (blk_cell HV2.out 1).trans rfl
  have g2 := (blk_cell HV2.out 2).trans rfl
  have hlv : w.heap.size < w2.heap.size := blk_lt HV2.out
  go_wp2_with fail
  obtain ⟨w3, hw3⟩ : ∃ w3, w3 = w2.alloc (.cells #[.slice A0 l0.length c0, .slice Au us.length cu] 149) := ⟨_, rfl⟩
  have hp3 : w3.heap[w2.heap.size]? = some (.cells #[.slice A0 l0.length c0, .slice Au us.length cu] 149 (0, 0)) := by rw [hw3]; exact blk_new _ _
  have hb3 : Below w2.heap.size w2 w3 := by rw [hw3]; exact below_alloc (Below.refl _ _) _
  rw [← hw3]
  refine (vec_May.calls _ _ _ _ _ HM.out).mono ?_
  rintro e w4 ⟨rfl, hb⟩
  have HB := Aside0.mk (below_step (below_step HB2.out hb3) hb)
  have HP := Aside0.mk (blk_below hp3 hb)
  have HV := Aside0.mk (blk_below (blk_below HV2.out hb3) hb)
  have HU4 := Aside0.mk (Kd.C_below (Kd.C_below HU.out hb3) hb)
  have HR4 := Aside0.mk (Kd.C_below HR.out HB.out)
  clear hw3 hp3 hb3 hb g0 g1 g2 HU HV2 HB2 HR
  have p0 := (blk_cell HP.out 0).trans rfl
  have p1 := (blk_cell HP.out 1).trans rfl
  have hlp : w2.heap.size < w4.heap.size := blk_lt HP.out
  cases m with
  | false =>
    have HH1 : Aside0 _ := ⟨Option.some.inj HH.out⟩
    have e1 : r1 = [] := (congrArg Prod.fst HH1.out).symm
    have e2 : r2 = 1 := (congrArg Prod.snd HH1.out).symm
    subst e1 e2
    go_wp2
    go_ret2
    exact ⟨_, rfl, Kd.R_nil _ _ _ _ _, HB.out⟩
  | true =>
    by_cases hz : us.length = 0
    · have HH1 : Aside0 _ := ⟨Option.some.inj ((if_pos hz).symm.trans HH.out)⟩
      have e1 : r1 = [] := (congrArg Prod.fst HH1.out).symm
      have e2 : r2 = 2 := (congrArg Prod.snd HH1.out).symm
      subst e1 e2
      have hzb : ((us.length : Int) == 0) = true := by rw [hz]; rfl
      clear HH HH1
      go_wp2
      go_ret2
      exact ⟨_, rfl, Kd.R_nil _ _ _ _ _, HB.out⟩
    · have hh := (if_neg hz).symm.trans HH.out
      obtain ⟨q, hq, h3⟩ := Option.bind_eq_some_iff.1 hh
      have hzb : ((us.length : Int) == 0) = false := beq_eq_false_iff_ne.2 (by omega)
      have HQ := Aside0.mk (admitAll_calls 117 #[.pointer (some ⟨w.heap.size, 0, none⟩)] (fun x => leV (opAdd ⟨a2_0, a2_1, a2_2⟩ x.f4) x.f2) A0 Au c0 cu l0 us q w4 (enters_of Try.func117 (by kernel_rfl) rfl) HR4.out hc0 HU4.out hcu
        (fun W' x hb => admit1_calls W' w.heap.size ⟨a2_0, a2_1, a2_2⟩ (blk_below HV.out hb) x _ _ _ _ (show vec_Add.f [x.f4, ⟨a2_0, a2_1, a2_2⟩] = some ((opAdd ⟨a2_0, a2_1, a2_2⟩ x.f4).f0, (opAdd ⟨a2_0, a2_1, a2_2⟩ x.f4).f1, (opAdd ⟨a2_0, a2_1, a2_2⟩ x.f4).f2) from rfl) (leV_eq _ _)) hq)
      have HH3 := Aside0.mk h3
      clear hh hq h3 HH hz
      go_wp2_with fail
      refine HQ.out.mono ?_
      rintro e w5 ⟨rfl, hb⟩
      have HB5 := Aside0.mk (below_step HB.out hb)
      have HP5 := Aside0.mk (blk_below HP.out hb)
      have HV5 := Aside0.mk (blk_below HV.out hb)
      have HU5 := Aside0.mk (Kd.C_below HU4.out hb)
      have HR5 := Aside0.mk (Kd.C_below HR4.out hb)
      clear hb HB HP HV HU4 HR4 p0 p1 HQ
      have p0 := (blk_cell HP5.out 0).trans rfl
      have p1 := (blk_cell HP5.out 1).trans rfl
      have hlp5 : w2.heap.size < w5.heap.size := blk_lt HP5.out
      cases q with
      | false =>
        have HH1 : Aside0 _ := ⟨Option.some.inj HH3.out⟩
        have e1 : r1 = [] := (congrArg Prod.fst HH1.out).symm
        have e2 : r2 = 12 := (congrArg Prod.snd HH1.out).symm
        subst e1 e2
        clear HH3 HH1
        go_wp2
        go_ret2
        exact ⟨_, rfl, Kd.R_nil _ _ _ _ _, HB5.out⟩
      | true =>
        obtain ⟨r, hr, h4⟩ := Option.bind_eq_some_iff.1 HH3.out
        have e1 : r = r1 := congrArg Prod.fst (Option.some.inj h4)
        have e2 : r2 = 0 := (congrArg Prod.snd (Option.some.inj h4)).symm
        subst e1 e2
        have HCH := Aside0.mk (admitChanged_calls 121 #[.pointer (some ⟨w.heap.size, 0, none⟩)] (opAdd ⟨a2_0, a2_1, a2_2⟩) A0 Au c0 cu l0 us r w5 (enters_of Try.func121 (by kernel_rfl) rfl) HR5.out hc0 HU5.out hcu
          (fun W' u hb => admit2_calls W' w.heap.size ⟨a2_0, a2_1, a2_2⟩ u (blk_below HV5.out hb)) hr)
        clear hr h4 HH3
        go_wp2_with fail
        refine HCH.out.mono ?_
        rintro e w6 ⟨v, rfl, ho, hb⟩
        have HB6 := Aside0.mk (below_step HB5.out hb)
        have HO6 := Aside0.mk (Kd.R_lower ho HB5.out.size)
        clear ho hb HCH
        go_wp2
        go_ret2
        exact ⟨_, rfl, HO6.out, HB6.out⟩
end Go.Proofs.Ytcgefpklljclgaa.Print

namespace Go.Proofs.Ytcgefpklljclgaa.Print
open Go.RowKit Go.Proofs.YtcgefpklljclgaaW.PrintWords Go.Proofs.YtcgefpklljclgaaW.PrintLast Go.Proofs.YtcgefpklljclgaaW.PrintMore
attribute [local go_sem] max2_int min2_int max_two min_two max_three min_three max_four min_four   -- for this text's walks alone
set_option linter.unusedVariables false
set_option linter.unusedSimpArgs false
theorem eqA31 (d : Nat) (w : World) (x0 y0 : ByteArray) (x1 y1 : ByteArray) (x2 y2 : Int) (x3 y3 : Int) (x4 y4 : Int) (x5 y5 : Int) (x6 y6 : Int) (x7 y7 : Int) (x8 y8 : Int) (x9 y9 : Int) (x10 y10 : Int) (x11 y11 : Int) :
    (Op.equalIn (d + 3) 31 (.agg #[.string x0, .string x1, .int .i64 x2, .int .i64 x3, .int .i64 x4, .int .i64 x5, .int .i64 x6, .int .i64 x7, .int .i64 x8, .int .i64 x9, .int .i64 x10, .int .i64 x11]) (.agg #[.string y0, .string y1, .int .i64 y2, .int .i64 y3, .int .i64 y4, .int .i64 y5, .int .i64 y6, .int .i64 y7, .int .i64 y8, .int .i64 y9, .int .i64 y10, .int .i64 y11])).run Try.prog w = .ok (x0.toList == y0.toList && (x1.toList == y1.toList && ((x2 == y2 && (x3 == y3 && (x4 == y4))) && ((x5 == y5 && (x6 == y6 && (x7 == y7))) && ((x8 == y8 && (x9 == y9 && (x10 == y10))) && (x11 == y11)))))) w := by
  refine eqA_of Try.underlying31 (by kernel_rfl) ?_
  refine eqf_cons (by rfl) (by go_simp; rfl) (by go_simp; rfl) (by go_simp) ?_
  refine eqf_cons (by rfl) (by go_simp; rfl) (by go_simp; rfl) (by go_simp) ?_
  refine eqf_cons (by rfl) (by go_simp) (by go_simp) (eqA27 (d + 0) w _ _ _ _ _ _) ?_
  refine eqf_cons (by rfl) (by go_simp) (by go_simp) (eqA27 (d + 0) w _ _ _ _ _ _) ?_
  refine eqf_cons (by rfl) (by go_simp) (by go_simp) (eqA27 (d + 0) w _ _ _ _ _ _) ?_
  exact eqf_last (by rfl) (by go_simp; rfl) (by go_simp; rfl) (by go_simp)
end Go.Proofs.Ytcgefpklljclgaa.Print

namespace Go.Proofs.Ytcgefpklljclgaa.Print
open Go.RowKit Go.Proofs.YtcgefpklljclgaaW.PrintWords Go.Proofs.YtcgefpklljclgaaW.PrintLast Go.Proofs.YtcgefpklljclgaaW.PrintMore
attribute [local go_sem] max2_int min2_int max_two min_two max_three min_three max_four min_four   -- for this text's walks alone
set_option linter.unusedVariables false
set_option linter.unusedSimpArgs false
attribute [local go_sem high] eqA31
/-! ### r10_SameItems: function 62 -/
def r10_SameItems.l0 : Nat → List (S31) → List (S31) → Int → Option (Bool)
 | 0, _, _, _ => none
 | k + 1, x0, x1, x5 => if x5 < (x0.length : Int) then (if 0 ≤ x5 then (if x5 < (x1.length : Int) then (if (!((((rd_T31 x0 x5).f0).toList) == (((rd_T31 x1 x5).f0).toList)) || (!((((rd_T31 x0 x5).f1).toList) == (((rd_T31 x1 x5).f1).toList)) || ((!(((rd_T31 x0 x5).f2.f0) == ((rd_T31 x1 x5).f2.f0)) || (!(((rd_T31 x0 x5).f2.f1) == ((rd_T31 x1 x5).f2.f1)) || (!(((rd_T31 x0 x5).f2.f2) == ((rd_T31 x1 x5).f2.f2))))) || ((!(((rd_T31 x0 x5).f3.f0) == ((rd_T31 x1 x5).f3.f0)) || (!(((rd_T31 x0 x5).f3.f1) == ((rd_T31 x1 x5).f3.f1)) || (!(((rd_T31 x0 x5).f3.f2) == ((rd_T31 x1 x5).f3.f2))))) || ((!(((rd_T31 x0 x5).f4.f0) == ((rd_T31 x1 x5).f4.f0)) || (!(((rd_T31 x0 x5).f4.f1) == ((rd_T31 x1 x5).f4.f1)) || (!(((rd_T31 x0 x5).f4.f2) == ((rd_T31 x1 x5).f4.f2))))) || (!(((rd_T31 x0 x5).f5) == ((rd_T31 x1 x5).f5)))))))) = true then (some false) else (r10_SameItems.l0 k x0 x1 (wrap64 (x5 + 1)))) else (none)) else (none)) else (some true)
def r10_SameItems.f (k : Nat) (l0 : List (S31)) (l1 : List (S31)) : Option (Bool) := if (l0.length : Int) = (l1.length : Int) then (r10_SameItems.l0 k l0 l1 0) else (some false)
theorem r10_SameItems.mono_l : ∀ k, (∀ y0 y1 y2, LeO (r10_SameItems.l0 k y0 y1 y2) (r10_SameItems.l0 (k + 1) y0 y1 y2))
 | 0 => fun _ _ _ r h => by simp [r10_SameItems.l0] at h
 | k + 1 => by
  have ih0 := r10_SameItems.mono_l k
  ·intro y0 y1 y2
   unfold r10_SameItems.l0
   repeat' first
   | (with_reducible exact ih0 _ _ _)
   | (with_reducible exact LeO.refl _)
   | (with_reducible exact LeO.none _)
   | (with_reducible refine LeO.ite ?_ ?_)
   | (with_reducible refine LeO.bind ?_ (fun _ => ?_))
   | exact ih0 _ _ _
   | exact LeO.none _
   | refine LeO.ite ?_ ?_
   | refine LeO.bind ?_ (fun _ => ?_)
theorem r10_SameItems.mono : ∀ a0 a1 k, LeO (r10_SameItems.f k a0 a1) (r10_SameItems.f (k + 1) a0 a1) := by
 intro a0 a1 k
 have ih0 := r10_SameItems.mono_l k
 unfold r10_SameItems.f
 repeat' first
   | (with_reducible exact ih0 _ _ _)
   | (with_reducible exact LeO.refl _)
   | (with_reducible exact LeO.none _)
   | (with_reducible refine LeO.ite ?_ ?_)
   | (with_reducible refine LeO.bind ?_ (fun _ => ?_))
   | exact ih0 _ _ _
   | exact LeO.none _
   | refine LeO.ite ?_ ?_
   | refine LeO.bind ?_ (fun _ => ?_)
set_option maxHeartbeats 8000000 in
set_option maxRecDepth 100000 in
theorem r10_SameItems.calls (k : Nat) (A0 : Option Addr) (c0 : Nat) (l0 : List (S31)) (A1 : Option Addr) (c1 : Nat) (l1 : List (S31)) (r : Bool) (w : World) (hr0 : Kd.C k31 w A0 l0.length l0) (hc0 : l0.length ≤ c0) (hr1 : Kd.C k31 w A1 l1.length l1) (hc1 : l1.length ≤ c1) (h : r10_SameItems.f k l0 l1 = some r) :
  Calls Try.prog 62 #[.slice A0 l0.length c0, .slice A1 l1.length c1] w fun e w' => e = .returned (.bool r) ∧ Drawn0 w w' := by
 have hu31 := Try.underlying31
 have HR0 := Aside0.mk hr0
 have HC0 := Aside0.mk hc0
 clear hr0 hc0
 have HR1 := Aside0.mk hr1
 have HC1 := Aside0.mk hc1
 clear hr1 hc1
 have H : (if (l0.length : Int) = (l1.length : Int) then (r10_SameItems.l0 k l0 l1 0) else (some false)) = some r := h
 clear h
 by_cases c3 : (l0.length : Int) = (l1.length : Int)
 ·rw [if_pos c3] at H
  have c3b0 : ((l0.length : Int) == (l1.length : Int)) = true := beq_iff_eq.mpr c3
  have c3b1 : ((l0.length : Int) != (l1.length : Int)) = false := bne_eq_false_iff_eq.mpr c3
  have c3b2 : (l0.length == l1.length) = true := by first | simpa using c3 | (simp at c3 ⊢; omega)
  clear c3
  have H' := Aside0.mk H
  clear H
  go_enter Try.func62, Try.ntmps62
  go_wp2
  repeat (go_quiet (fail); try go_wp2)
  go_loopg [5] k (fun kq v5 w' => ∃ (x5_1 : Int), v5 = .int .i64 x5_1 ∧ Aside0 (r10_SameItems.l0 kq l0 l1 x5_1 = some r) ∧ Aside0 (kq ≤ k) ∧ Drawn0 w w')
  case atStart => exact ⟨(0), (by first | rfl | (simp; done) | (simp [*]; done)), H', ⟨Nat.le_refl _⟩, by repeat (first | exact Drawn0.refl _ | apply Drawn0.step)⟩
  case round =>
   clear H'
   try clear c1
   try clear p2
   try clear c3
   try clear c3b0
   try clear c3b1
   try clear c3b2
   obtain ⟨x5_1, rfl, HA, HK1, ⟨m1, rfl⟩⟩ := hrel
   cases gk with
   | zero => exact absurd HA.out (by simp [r10_SameItems.l0])
   | succ k1 =>
    have H := HA.out
    clear HA
    simp only [r10_SameItems.l0] at H
    by_cases c4 : x5_1 < (l0.length : Int)
    ·rw [if_pos c4] at H
     have c4b0 : decide (x5_1 < (l0.length : Int)) = true := decide_eq_true c4
     clear c4
     by_cases c5 : 0 ≤ x5_1
     ·rw [if_pos c5] at H
      have c5b0 : decide (0 ≤ x5_1) = true := decide_eq_true c5
      clear c5
      by_cases c6 : x5_1 < (l1.length : Int)
      ·rw [if_pos c6] at H
       have c6b0 : decide (x5_1 < (l1.length : Int)) = true := decide_eq_true c6
       clear c6
       by_cases c7 : (!((((rd_T31 l0 x5_1).f0).toList) == (((rd_T31 l1 x5_1).f0).toList)) || (!((((rd_T31 l0 x5_1).f1).toList) == (((rd_T31 l1 x5_1).f1).toList)) || ((!(((rd_T31 l0 x5_1).f2.f0) == ((rd_T31 l1 x5_1).f2.f0)) || (!(((rd_T31 l0 x5_1).f2.f1) == ((rd_T31 l1 x5_1).f2.f1)) || (!(((rd_T31 l0 x5_1).f2.f2) == ((rd_T31 l1 x5_1).f2.f2))))) || ((!(((rd_T31 l0 x5_1).f3.f0) == ((rd_T31 l1 x5_1).f3.f0)) || (!(((rd_T31 l0 x5_1).f3.f1) == ((rd_T31 l1 x5_1).f3.f1)) || (!(((rd_T31 l0 x5_1).f3.f2) == ((rd_T31 l1 x5_1).f3.f2))))) || ((!(((rd_T31 l0 x5_1).f4.f0) == ((rd_T31 l1 x5_1).f4.f0)) || (!(((rd_T31 l0 x5_1).f4.f1) == ((rd_T31 l1 x5_1).f4.f1)) || (!(((rd_T31 l0 x5_1).f4.f2) == ((rd_T31 l1 x5_1).f4.f2))))) || (!(((rd_T31 l0 x5_1).f5) == ((rd_T31 l1 x5_1).f5)))))))) = true
       ·rw [if_pos c7] at H
        have c7b0 : (!((((rd_T31 l0 x5_1).f0).toList) == (((rd_T31 l1 x5_1).f0).toList)) || (!((((rd_T31 l0 x5_1).f1).toList) == (((rd_T31 l1 x5_1).f1).toList)) || ((!(((rd_T31 l0 x5_1).f2.f0) == ((rd_T31 l1 x5_1).f2.f0)) || (!(((rd_T31 l0 x5_1).f2.f1) == ((rd_T31 l1 x5_1).f2.f1)) || (!(((rd_T31 l0 x5_1).f2.f2) == ((rd_T31 l1 x5_1).f2.f2))))) || ((!(((rd_T31 l0 x5_1).f3.f0) == ((rd_T31 l1 x5_1).f3.f0)) || (!(((rd_T31 l0 x5_1).f3.f1) == ((rd_T31 l1 x5_1).f3.f1)) || (!(((rd_T31 l0 x5_1).f3.f2) == ((rd_T31 l1 x5_1).f3.f2))))) || ((!(((rd_T31 l0 x5_1).f4.f0) == ((rd_T31 l1 x5_1).f4.f0)) || (!(((rd_T31 l0 x5_1).f4.f1) == ((rd_T31 l1 x5_1).f4.f1)) || (!(((rd_T31 l0 x5_1).f4.f2) == ((rd_T31 l1 x5_1).f4.f2))))) || (!(((rd_T31 l0 x5_1).f5) == ((rd_T31 l1 x5_1).f5)))))))) = true := c7
        clear c7
        obtain rfl := Option.some.inj H
        have p1 : 0 ≤ (x5_1 : Int) := of_decide_eq_true (by first | (with_reducible assumption) | assumption)
        have q1 : x5_1 < (l0.length : Int) := of_decide_eq_true (by first | (with_reducible assumption) | assumption)
        obtain ⟨ad1, e1, hx1_0, hx1_1, hx1_2, hx1_3, hx1_4, hx1_5, hx1_6, hx1_7, hx1_8, hx1_9, hx1_10, hx1_11⟩ := at_T31 HR0.out x5_1 p1 q1
        cases e1
        replace p1 := eq_true p1
        replace q1 := eq_true q1
        have p2 : 0 ≤ (x5_1 : Int) := of_decide_eq_true (by first | (with_reducible assumption) | assumption)
        have q2 : x5_1 < (l1.length : Int) := of_decide_eq_true (by first | (with_reducible assumption) | assumption)
        obtain ⟨ad2, e2, hx2_0, hx2_1, hx2_2, hx2_3, hx2_4, hx2_5, hx2_6, hx2_7, hx2_8, hx2_9, hx2_10, hx2_11⟩ := at_T31 HR1.out x5_1 p2 q2
        cases e2
        replace p2 := eq_true p2
        replace q2 := eq_true q2
        go_wp2
        repeat (go_quiet (fail); try go_wp2)
        go_ret
        exact ⟨by first | rfl | (simp; done) | (simp [*]; done), by repeat (first | exact Drawn0.refl _ | apply Drawn0.step)⟩
       ·rw [if_neg c7] at H
        have c7b0 : (!((((rd_T31 l0 x5_1).f0).toList) == (((rd_T31 l1 x5_1).f0).toList)) || (!((((rd_T31 l0 x5_1).f1).toList) == (((rd_T31 l1 x5_1).f1).toList)) || ((!(((rd_T31 l0 x5_1).f2.f0) == ((rd_T31 l1 x5_1).f2.f0)) || (!(((rd_T31 l0 x5_1).f2.f1) == ((rd_T31 l1 x5_1).f2.f1)) || (!(((rd_T31 l0 x5_1).f2.f2) == ((rd_T31 l1 x5_1).f2.f2))))) || ((!(((rd_T31 l0 x5_1).f3.f0) == ((rd_T31 l1 x5_1).f3.f0)) || (!(((rd_T31 l0 x5_1).f3.f1) == ((rd_T31 l1 x5_1).f3.f1)) || (!(((rd_T31 l0 x5_1).f3.f2) == ((rd_T31 l1 x5_1).f3.f2))))) || ((!(((rd_T31 l0 x5_1).f4.f0) == ((rd_T31 l1 x5_1).f4.f0)) || (!(((rd_T31 l0 x5_1).f4.f1) == ((rd_T31 l1 x5_1).f4.f1)) || (!(((rd_T31 l0 x5_1).f4.f2) == ((rd_T31 l1 x5_1).f4.f2))))) || (!(((rd_T31 l0 x5_1).f5) == ((rd_T31 l1 x5_1).f5)))))))) = false := by simpa using c7
        clear c7
        have H' := Aside0.mk H
        clear H
        have p1 : 0 ≤ (x5_1 : Int) := of_decide_eq_true (by first | (with_reducible assumption) | assumption)
        have q1 : x5_1 < (l0.length : Int) := of_decide_eq_true (by first | (with_reducible assumption) | assumption)
        obtain ⟨ad1, e1, hx1_0, hx1_1, hx1_2, hx1_3, hx1_4, hx1_5, hx1_6, hx1_7, hx1_8, hx1_9, hx1_10, hx1_11⟩ := at_T31 HR0.out x5_1 p1 q1
        cases e1
        replace p1 := eq_true p1
        replace q1 := eq_true q1
        have p2 : 0 ≤ (x5_1 : Int) := of_decide_eq_true (by first | (with_reducible assumption) | assumption)
        have q2 : x5_1 < (l1.length : Int) := of_decide_eq_true (by first | (with_reducible assumption) | assumption)
        obtain ⟨ad2, e2, hx2_0, hx2_1, hx2_2, hx2_3, hx2_4, hx2_5, hx2_6, hx2_7, hx2_8, hx2_9, hx2_10, hx2_11⟩ := at_T31 HR1.out x5_1 p2 q2
        cases e2
        replace p2 := eq_true p2
        replace q2 := eq_true q2
        go_wp2
        repeat (go_quiet (fail); try go_wp2)
        go_roundg k1
        case measure => have := HK1.out; omega
        case rel => exact ⟨(wrap64 (x5_1 + 1)), (by first | rfl | (simp; done) | (simp [*]; done)), H', ⟨by have := HK1.out; omega⟩, by repeat (first | exact Drawn0.refl _ | apply Drawn0.step)⟩
      ·rw [if_neg c6] at H
       exact absurd H (by simp)
     ·rw [if_neg c5] at H
      exact absurd H (by simp)
    ·rw [if_neg c4] at H
     have c4b0 : decide (x5_1 < (l0.length : Int)) = false := decide_eq_false c4
     clear c4
     obtain rfl := Option.some.inj H
     go_wp2
     repeat (go_quiet (fail); try go_wp2)
     go_ret
     exact ⟨by first | rfl | (simp; done) | (simp [*]; done), by repeat (first | exact Drawn0.refl _ | apply Drawn0.step)⟩
 ·rw [if_neg c3] at H
  have c3b0 : ((l0.length : Int) == (l1.length : Int)) = false := beq_eq_false_iff_ne.mpr c3
  have c3b1 : ((l0.length : Int) != (l1.length : Int)) = true := bne_iff_ne.mpr c3
  have c3b2 : (l0.length == l1.length) = false := by first | simpa using c3 | (simp at c3 ⊢; omega)
  obtain rfl := Option.some.inj H
  go_enter Try.func62, Try.ntmps62
  go_wp2
  repeat (go_quiet (fail); try go_wp2)
  go_ret
  exact ⟨by first | rfl | (simp; done) | (simp [*]; done), by repeat (first | exact Drawn0.refl _ | apply Drawn0.step)⟩
end Go.Proofs.Ytcgefpklljclgaa.Print

namespace Go.Proofs.Ytcgefpklljclgaa.Print
open Go.RowKit Go.Proofs.YtcgefpklljclgaaW.PrintWords Go.Proofs.YtcgefpklljclgaaW.PrintLast Go.Proofs.YtcgefpklljclgaaW.PrintMore
set_option linter.unusedVariables false
set_option linter.unusedSimpArgs false
end Go.Proofs.Ytcgefpklljclgaa.Print

namespace Go.Proofs.Ytcgefpklljclgaa.Print
open Go.RowKit Go.Proofs.YtcgefpklljclgaaW.PrintWords Go.Proofs.YtcgefpklljclgaaW.PrintLast Go.Proofs.YtcgefpklljclgaaW.PrintMore
attribute [local go_sem] max2_int min2_int max_two min_two max_three min_three max_four min_four   -- for this text's walks alone
set_option linter.unusedVariables false
set_option linter.unusedSimpArgs false
/-! ### r10_in: function 136 -/
def r10_in.l0 : Nat → List ByteArray → ByteArray → Int → Option (Bool)
 | 0, _, _, _ => none
 | k + 1, x0, x1, x5 => if x5 < (x0.length : Int) then (if 0 ≤ x5 then (if (rdOf ByteArray.empty x0 x5).toList = x1.toList then (some true) else (r10_in.l0 k x0 x1 (wrap64 (x5 + 1)))) else (none)) else (some false)
def r10_in.f (k : Nat) (l0 : List ByteArray) (a1 : ByteArray) : Option (Bool) := r10_in.l0 k l0 a1 0
theorem r10_in.mono_l : ∀ k, (∀ y0 y1 y2, LeO (r10_in.l0 k y0 y1 y2) (r10_in.l0 (k + 1) y0 y1 y2))
 | 0 => fun _ _ _ r h => by simp [r10_in.l0] at h
 | k + 1 => by
  have ih0 := r10_in.mono_l k
  ·intro y0 y1 y2
   unfold r10_in.l0
   repeat' first
   | (with_reducible exact ih0 _ _ _)
   | (with_reducible exact LeO.refl _)
   | (with_reducible exact LeO.none _)
   | (with_reducible refine LeO.ite ?_ ?_)
   | (with_reducible refine LeO.bind ?_ (fun _ => ?_))
   | exact ih0 _ _ _
   | exact LeO.none _
   | refine LeO.ite ?_ ?_
   | refine LeO.bind ?_ (fun _ => ?_)
theorem r10_in.mono : ∀ a0 a1 k, LeO (r10_in.f k a0 a1) (r10_in.f (k + 1) a0 a1) := by
 intro a0 a1 k
 have ih0 := r10_in.mono_l k
 unfold r10_in.f
 repeat' first
   | (with_reducible exact ih0 _ _ _)
   | (with_reducible exact LeO.refl _)
   | (with_reducible exact LeO.none _)
   | (with_reducible refine LeO.ite ?_ ?_)
   | (with_reducible refine LeO.bind ?_ (fun _ => ?_))
   | exact ih0 _ _ _
   | exact LeO.none _
   | refine LeO.ite ?_ ?_
   | refine LeO.bind ?_ (fun _ => ?_)
set_option maxHeartbeats 8000000 in
set_option maxRecDepth 100000 in
theorem r10_in.calls (k : Nat) (A0 : Option Addr) (c0 : Nat) (l0 : List ByteArray) (a1 : ByteArray) (r : Bool) (w : World) (hr0 : Kd.C Kd.string w A0 l0.length l0) (hc0 : l0.length ≤ c0) (h : r10_in.f k l0 a1 = some r) :
  Calls Try.prog 136 #[.slice A0 l0.length c0, .string a1] w fun e w' => e = .returned (.bool r) ∧ Drawn0 w w' := by
 have HR0 := Aside0.mk hr0
 have HC0 := Aside0.mk hc0
 clear hr0 hc0
 have H : (r10_in.l0 k l0 a1 0) = some r := h
 clear h
 have H' := Aside0.mk H
 clear H
 go_enter Try.func136, Try.ntmps136
 go_wp2
 go_loopg [5] k (fun kq v5 w' => ∃ (x5_1 : Int), v5 = .int .i64 x5_1 ∧ Aside0 (r10_in.l0 kq l0 a1 x5_1 = some r) ∧ Aside0 (kq ≤ k) ∧ Drawn0 w w')
 case atStart => exact ⟨(0), (by first | rfl | (simp; done) | (simp [*]; done)), H', ⟨Nat.le_refl _⟩, by repeat (first | exact Drawn0.refl _ | apply Drawn0.step)⟩
 case round =>
  clear H'
  try clear c1
  try clear p2
  obtain ⟨x5_1, rfl, HA, HK1, ⟨m1, rfl⟩⟩ := hrel
  cases gk with
  | zero => exact absurd HA.out (by simp [r10_in.l0])
  | succ k1 =>
   have H := HA.out
   clear HA
   simp only [r10_in.l0] at H
   by_cases c3 : x5_1 < (l0.length : Int)
   ·rw [if_pos c3] at H
    have c3b0 : decide (x5_1 < (l0.length : Int)) = true := decide_eq_true c3
    clear c3
    by_cases c4 : 0 ≤ x5_1
    ·rw [if_pos c4] at H
     have c4b0 : decide (0 ≤ x5_1) = true := decide_eq_true c4
     clear c4
     by_cases c5 : (rdOf ByteArray.empty l0 x5_1).toList = a1.toList
     ·rw [if_pos c5] at H
      have c5b0 : ((rdOf ByteArray.empty l0 x5_1).toList == a1.toList) = true := beq_iff_eq.mpr c5
      have c5b1 : ((rdOf ByteArray.empty l0 x5_1).toList != a1.toList) = false := bne_eq_false_iff_eq.mpr c5
      clear c5
      obtain rfl := Option.some.inj H
      have p1 : 0 ≤ (x5_1 : Int) := of_decide_eq_true (by first | (with_reducible assumption) | assumption)
      have q1 : x5_1 < (l0.length : Int) := of_decide_eq_true (by first | (with_reducible assumption) | assumption)
      obtain ⟨ad1, e1, hx1_0⟩ := Kd.at_string HR0.out x5_1 p1 q1
      cases e1
      replace p1 := eq_true p1
      replace q1 := eq_true q1
      go_wp2
      go_ret
      exact ⟨by first | rfl | (simp; done) | (simp [*]; done), by repeat (first | exact Drawn0.refl _ | apply Drawn0.step)⟩
     ·rw [if_neg c5] at H
      have c5b0 : ((rdOf ByteArray.empty l0 x5_1).toList == a1.toList) = false := beq_eq_false_iff_ne.mpr c5
      have c5b1 : ((rdOf ByteArray.empty l0 x5_1).toList != a1.toList) = true := bne_iff_ne.mpr c5
      have H' := Aside0.mk H
      clear H
      have p1 : 0 ≤ (x5_1 : Int) := of_decide_eq_true (by first | (with_reducible assumption) | assumption)
      have q1 : x5_1 < (l0.length : Int) := of_decide_eq_true (by first | (with_reducible assumption) | assumption)
      obtain ⟨ad1, e1, hx1_0⟩ := Kd.at_string HR0.out x5_1 p1 q1
      cases e1
      replace p1 := eq_true p1
      replace q1 := eq_true q1
      go_wp2
      go_roundg k1
      case measure => have := HK1.out; omega
      case rel => exact ⟨(wrap64 (x5_1 + 1)), (by first | rfl | (simp; done) | (simp [*]; done)), H', ⟨by have := HK1.out; omega⟩, by repeat (first | exact Drawn0.refl _ | apply Drawn0.step)⟩
    ·rw [if_neg c4] at H
     exact absurd H (by simp)
   ·rw [if_neg c3] at H
    have c3b0 : decide (x5_1 < (l0.length : Int)) = false := decide_eq_false c3
    clear c3
    obtain rfl := Option.some.inj H
    go_wp2
    go_ret
    exact ⟨by first | rfl | (simp; done) | (simp [*]; done), by repeat (first | exact Drawn0.refl _ | apply Drawn0.step)⟩
end Go.Proofs.Ytcgefpklljclgaa.Print

namespace Go.Proofs.Ytcgefpklljclgaa.Print
open Go.RowKit Go.Proofs.YtcgefpklljclgaaW.PrintWords Go.Proofs.YtcgefpklljclgaaW.PrintLast Go.Proofs.YtcgefpklljclgaaW.PrintMore
attribute [local go_sem] max2_int min2_int max_two min_two max_three min_three max_four min_four   -- for this text's walks alone
set_option linter.unusedVariables false
set_option linter.unusedSimpArgs false
mutual
def r10_Share.l0 : Nat → List (S31) → List ByteArray → Int → Int → Int → Int → Option (Int × Int × Int)
 | 0, _, _, _, _, _, _ => none
 | k + 1, x0, x1, x6, x3000, x3001, x3002 => if x6 < (x0.length : Int) then (if 0 ≤ x6 then ((r10_in.f k x1 ((rd_T31 x0 x6).f0)).bind fun t4 => (if t4 = true then ((r10_Up.f k x0 ((rd_T31 x0 x6).f0)).bind fun t6 => (r10_Share.l1 k x0 x1 x6 t6 false 1 x3000 x3001 x3002)) else (r10_Share.l0 k x0 x1 (wrap64 (x6 + 1)) x3000 x3001 x3002))) else (none)) else (some (x3000, x3001, x3002))
def r10_Share.l1 : Nat → List (S31) → List ByteArray → Int → List ByteArray → Bool → Int → Int → Int → Int → Option (Int × Int × Int)
 | 0, _, _, _, _, _, _, _, _, _ => none
 | k + 1, x0, x1, x6, x7, x8, x9, x3000, x3001, x3002 => if x9 < (x7.length : Int) then (if x8 = true then (r10_Share.l1 k x0 x1 x6 x7 true (wrap64 (x9 + 1)) x3000 x3001 x3002) else (if 0 ≤ x9 then ((r10_in.f k x1 (rdOf ByteArray.empty x7 x9)).bind fun t10 => (r10_Share.l1 k x0 x1 x6 x7 t10 (wrap64 (x9 + 1)) x3000 x3001 x3002)) else (none))) else (if x8 = true then (r10_Share.l0 k x0 x1 (wrap64 (x6 + 1)) x3000 x3001 x3002) else (if 0 ≤ x6 then (if x6 < (x0.length : Int) then ((r10_Add.f x3000 x3001 x3002 ((rd_T31 x0 x6).f4.f0) ((rd_T31 x0 x6).f4.f1) ((rd_T31 x0 x6).f4.f2)).bind fun bt12 => (r10_Share.l0 k x0 x1 (wrap64 (x6 + 1)) bt12.1 bt12.2.1 bt12.2.2)) else (none)) else (none)))
end
def r10_Share.f (k : Nat) (l0 : List (S31)) (l1 : List ByteArray) : Option (Int × Int × Int) := r10_Share.l0 k l0 l1 0 0 0 0
theorem r10_Share.mono_l : ∀ k, (∀ y0 y1 y2 y3 y4 y5, LeO (r10_Share.l0 k y0 y1 y2 y3 y4 y5) (r10_Share.l0 (k + 1) y0 y1 y2 y3 y4 y5)) ∧ (∀ y0 y1 y2 y3 y4 y5 y6 y7 y8, LeO (r10_Share.l1 k y0 y1 y2 y3 y4 y5 y6 y7 y8) (r10_Share.l1 (k + 1) y0 y1 y2 y3 y4 y5 y6 y7 y8))
 | 0 => ⟨fun _ _ _ _ _ _ r h => by simp [r10_Share.l0] at h, fun _ _ _ _ _ _ _ _ _ r h => by simp [r10_Share.l1] at h⟩
 | k + 1 => by
  obtain ⟨ih0, ih1⟩ := r10_Share.mono_l k
  refine ⟨?_, ?_⟩
  ·intro y0 y1 y2 y3 y4 y5
   unfold r10_Share.l0
   repeat' first
   | (with_reducible exact ih0 _ _ _ _ _ _)
   | (with_reducible exact ih1 _ _ _ _ _ _ _ _ _)
   | (with_reducible exact r10_Up.mono _ _ _)
   | (with_reducible exact r10_in.mono _ _ _)
   | (with_reducible exact LeO.refl _)
   | (with_reducible exact LeO.none _)
   | (with_reducible refine LeO.ite ?_ ?_)
   | (with_reducible refine LeO.bind ?_ (fun _ => ?_))
   | exact ih0 _ _ _ _ _ _
   | exact ih1 _ _ _ _ _ _ _ _ _
   | exact r10_Up.mono _ _ _
   | exact r10_in.mono _ _ _
   | exact LeO.none _
   | refine LeO.ite ?_ ?_
   | refine LeO.bind ?_ (fun _ => ?_)
  ·intro y0 y1 y2 y3 y4 y5 y6 y7 y8
   unfold r10_Share.l1
   repeat' first
   | (with_reducible exact ih0 _ _ _ _ _ _)
   | (with_reducible exact ih1 _ _ _ _ _ _ _ _ _)
   | (with_reducible exact r10_Up.mono _ _ _)
   | (with_reducible exact r10_in.mono _ _ _)
   | (with_reducible exact LeO.refl _)
   | (with_reducible exact LeO.none _)
   | (with_reducible refine LeO.ite ?_ ?_)
   | (with_reducible refine LeO.bind ?_ (fun _ => ?_))
   | exact ih0 _ _ _ _ _ _
   | exact ih1 _ _ _ _ _ _ _ _ _
   | exact r10_Up.mono _ _ _
   | exact r10_in.mono _ _ _
   | exact LeO.none _
   | refine LeO.ite ?_ ?_
   | refine LeO.bind ?_ (fun _ => ?_)
theorem r10_Share.mono : ∀ a0 a1 k, LeO (r10_Share.f k a0 a1) (r10_Share.f (k + 1) a0 a1) := by
 intro a0 a1 k
 obtain ⟨ih0, ih1⟩ := r10_Share.mono_l k
 unfold r10_Share.f
 repeat' first
   | (with_reducible exact ih0 _ _ _ _ _ _)
   | (with_reducible exact ih1 _ _ _ _ _ _ _ _ _)
   | (with_reducible exact r10_Up.mono _ _ _)
   | (with_reducible exact r10_in.mono _ _ _)
   | (with_reducible exact LeO.refl _)
   | (with_reducible exact LeO.none _)
   | (with_reducible refine LeO.ite ?_ ?_)
   | (with_reducible refine LeO.bind ?_ (fun _ => ?_))
   | exact ih0 _ _ _ _ _ _
   | exact ih1 _ _ _ _ _ _ _ _ _
   | exact r10_Up.mono _ _ _
   | exact r10_in.mono _ _ _
   | exact LeO.none _
   | refine LeO.ite ?_ ?_
   | refine LeO.bind ?_ (fun _ => ?_)
def r10_Share.T13 : Bool × List (List Nat × List Nat) := (true, [([], []), ([], []), ([], []), ([1, 2], [1, 2]), ([3], [3]), ([4], [4]), ([0, 5], [0, 5]), ([6, 6, 0, 1, 2, 3, 4, 5, 6], [6])])
def r10_Share.B13 : List Nat := [0, 0, 0, 6, 14, 30, 63, 127]
theorem r10_Share.tab13 : rtab .any (opsOf Try.f81 13) = r10_Share.T13 := by kernel_rfl
theorem r10_Share.bits13 : waitsOk r10_Share.T13.2 r10_Share.B13 = true := by kernel_rfl
set_option maxHeartbeats 8000000 in
set_option maxRecDepth 100000 in
theorem r10_Share.calls (k : Nat) (A0 : Option Addr) (c0 : Nat) (l0 : List (S31)) (A1 : Option Addr) (c1 : Nat) (l1 : List ByteArray) (r1 : Int) (r2 : Int) (r3 : Int) (w : World) (hr0 : Kd.C k31 w A0 l0.length l0) (hc0 : l0.length ≤ c0) (hr1 : Kd.C Kd.string w A1 l1.length l1) (hc1 : l1.length ≤ c1) (h : r10_Share.f k l0 l1 = some (r1, r2, r3)) :
  Calls Try.prog 81 #[.slice A0 l0.length c0, .slice A1 l1.length c1] w fun e w' => e = .returned (.agg #[.int .i64 r1, .int .i64 r2, .int .i64 r3]) ∧ Below w.heap.size w w' := by
 have hu27 := Try.underlying27
 have HR0 := Aside0.mk hr0
 have HC0 := Aside0.mk hc0
 clear hr0 hc0
 have HR1 := Aside0.mk hr1
 have HC1 := Aside0.mk hc1
 clear hr1 hc1
 have HB := Aside0.mk (Below.refl w.heap.size w)
 have H : (r10_Share.l0 k l0 l1 0 0 0 0) = some (r1, r2, r3) := h
 clear h
 have H' := Aside0.mk H
 clear H
 go_enter Try.func81, Try.ntmps81
 go_wp2_with (first | ((with_reducible refine gate_dst (N := 4) rfl ?_); refine box_event ?hg (N := 4) ?hd (cs := #[.int .i64 0, .int .i64 0, .int .i64 0]) (t := 27) ?hr ?_; (case hd => rfl); (case hg => rfl); (case hr => first | (go_simp; done) | (go_simp; rfl)); intro gb1 hg w3 hbox hb; have n0_ := Aside0.mk (below_step (by repeat (first | (with_reducible first | exact HB.out | apply below_alloc | apply pw_below_drewN | apply below_drew1) | exact HB.out)) hb); have n1_ := Aside0.mk (hbox); have n2_ := Aside0.mk ((by rw [hg]; exact (below_size (by repeat (first | (with_reducible first | exact HB.out | apply below_alloc | apply pw_below_drewN | apply below_drew1) | exact HB.out))) : w.heap.size ≤ gb1)); have n3_ := Aside0.mk ((by rw [hg]; exact (below_size (by repeat (first | (with_reducible first | exact HB.out | apply below_alloc | apply pw_below_drewN | apply below_drew1) | exact HB.out))) : w.heap.size ≤ gb1)); clear HB; have HB := n0_; have BK1 := n1_; have GW1 := n2_; have GE1 := n3_; clear n0_ n1_ n2_ n3_; clear hb hbox hg) | ((with_reducible refine gate_dst (N := 5) rfl ?_); refine box_event ?hg (N := 5) ?hd (cs := #[.int .i64 0, .int .i64 0, .int .i64 0]) (t := 27) ?hr ?_; (case hd => rfl); (case hg => rfl); (case hr => first | (go_simp; done) | (go_simp; rfl)); intro gb2 hg w4 hbox hb; have n0_ := Aside0.mk (blk_below (g := gb1) (o := .cells #[.int .i64 0, .int .i64 0, .int .i64 0] 27 (0, 0)) (by (with_reducible repeat (first | refine blk_drewN ?_ _ | refine blk_drew ?_ | refine blk_alloc ?_ _)); exact BK1.out) hb); have n1_ := Aside0.mk (below_step (by repeat (first | (with_reducible first | exact HB.out | apply below_alloc | apply pw_below_drewN | apply below_drew1 | refine below_set ?_ GE1.out) | exact HB.out)) hb); have n2_ := Aside0.mk (hbox); have n3_ := Aside0.mk ((by rw [hg]; exact (below_size (by repeat (first | (with_reducible first | exact HB.out | apply below_alloc | apply pw_below_drewN | apply below_drew1 | refine below_set ?_ GE1.out) | exact HB.out))) : w.heap.size ≤ gb2)); have n4_ := Aside0.mk ((by rw [hg]; exact (below_size (by repeat (first | (with_reducible first | exact HB.out | apply below_alloc | apply pw_below_drewN | apply below_drew1 | refine below_set ?_ GE1.out) | exact HB.out))) : w.heap.size ≤ gb2)); have n5_ := Aside0.mk ((by rw [hg]; exact Nat.ne_of_lt (blk_lt (g := gb1) (o := .cells #[.int .i64 0, .int .i64 0, .int .i64 0] 27 (0, 0)) (by (with_reducible repeat (first | refine blk_drewN ?_ _ | refine blk_drew ?_ | refine blk_alloc ?_ _)); exact BK1.out)) : gb1 ≠ gb2)); have n6_ := Aside0.mk ((by rw [hg]; exact Nat.ne_of_gt (blk_lt (g := gb1) (o := .cells #[.int .i64 0, .int .i64 0, .int .i64 0] 27 (0, 0)) (by (with_reducible repeat (first | refine blk_drewN ?_ _ | refine blk_drew ?_ | refine blk_alloc ?_ _)); exact BK1.out)) : gb2 ≠ gb1)); clear BK1; clear HB; have BK1 := n0_; have HB := n1_; have BK2 := n2_; have GW2 := n3_; have GE2 := n4_; have NB1_2 := n5_; have NB2_1 := n6_; clear n0_ n1_ n2_ n3_ n4_ n5_ n6_; clear hb hbox hg))
 go_loopg [6] k (fun kq v6 w' => ∃ (x6_1 : Int) (x3000_1 : Int) (x3001_1 : Int) (x3002_1 : Int), v6 = .int .i64 x6_1 ∧ Aside0 (r10_Share.l0 kq l0 l1 x6_1 x3000_1 x3001_1 x3002_1 = some (r1, r2, r3)) ∧ Aside0 (kq ≤ k) ∧ Aside0 (w'.heap[gb1]? = some (.cells #[.int .i64 0, .int .i64 0, .int .i64 0] 27 (0, 0))) ∧ Aside0 (w'.heap[gb2]? = some (.cells #[.int .i64 x3000_1, .int .i64 x3001_1, .int .i64 x3002_1] 27 (0, 0))) ∧ Aside0 (Below w.heap.size w w'))
 case atStart => exact ⟨(0), (0), (0), (0), (by first | rfl | (simp; done) | (simp [*]; done)), H', ⟨Nat.le_refl _⟩, ⟨by (with_reducible repeat (first | refine blk_drewN ?_ _ | refine blk_drew ?_ | refine blk_alloc ?_ _)); exact BK1.out⟩, ⟨by (with_reducible repeat (first | refine blk_drewN ?_ _ | refine blk_drew ?_ | refine blk_alloc ?_ _)); exact BK2.out⟩, ⟨by repeat (first | (with_reducible first | exact HB.out | apply below_alloc | apply pw_below_drewN | apply below_drew1 | refine below_set ?_ GE1.out | refine below_set ?_ GE2.out) | exact HB.out)⟩⟩
 case round =>
  clear H'
  try clear c1
  try clear p2
  obtain ⟨x6_1, x3000_1, x3001_1, x3002_1, rfl, HA, HK1, BK1, BK2, HB⟩ := hrel
  cases gk with
  | zero => exact absurd HA.out (by simp [r10_Share.l0])
  | succ k1 =>
   have H := HA.out
   clear HA
   simp only [r10_Share.l0] at H
   by_cases c5 : x6_1 < (l0.length : Int)
   ·rw [if_pos c5] at H
    have c5b0 : decide (x6_1 < (l0.length : Int)) = true := decide_eq_true c5
    clear c5
    by_cases c6 : 0 ≤ x6_1
    ·rw [if_pos c6] at H
     have c6b0 : decide (0 ≤ x6_1) = true := decide_eq_true c6
     clear c6
     replace H := Option.bind_eq_some_iff.mp H
     obtain ⟨t4, A70, H⟩ := H
     replace H : (if t4 = true then ((r10_Up.f k1 l0 ((rd_T31 l0 x6_1).f0)).bind fun t6 => (r10_Share.l1 k1 l0 l1 x6_1 t6 false 1 x3000_1 x3001_1 x3002_1)) else (r10_Share.l0 k1 l0 l1 (wrap64 (x6_1 + 1)) x3000_1 x3001_1 x3002_1)) = some (r1, r2, r3) := H
     have A7 := Aside0.mk A70
     clear A70
     by_cases c8 : t4 = true
     ·subst c8
      have H1 : ((r10_Up.f k1 l0 ((rd_T31 l0 x6_1).f0)).bind fun t6 => (r10_Share.l1 k1 l0 l1 x6_1 t6 false 1 x3000_1 x3001_1 x3002_1)) = some (r1, r2, r3) := by rw [if_pos rfl] at H; exact H
      clear H
      have H := H1
      clear H1
      replace H := Option.bind_eq_some_iff.mp H
      obtain ⟨t6, A90, H⟩ := H
      replace H : (r10_Share.l1 k1 l0 l1 x6_1 t6 false 1 x3000_1 x3001_1 x3002_1) = some (r1, r2, r3) := H
      have A9 := Aside0.mk A90
      clear A90
      have H' := Aside0.mk H
      clear H
      have p3 : 0 ≤ (x6_1 : Int) := of_decide_eq_true (by first | (with_reducible assumption) | assumption)
      have q3 : x6_1 < (l0.length : Int) := of_decide_eq_true (by first | (with_reducible assumption) | assumption)
      obtain ⟨ad3, e3, hx3_0, hx3_1, hx3_2, hx3_3, hx3_4, hx3_5, hx3_6, hx3_7, hx3_8, hx3_9, hx3_10, hx3_11⟩ := at_T31 HR0.out x6_1 p3 q3
      cases e3
      replace hx3_0 := (HB.out.cell (World.block_lt_of_cell? w _ hx3_0)).trans hx3_0
      replace hx3_1 := (HB.out.cell (World.block_lt_of_cell? w _ hx3_1)).trans hx3_1
      replace hx3_2 := (HB.out.cell (World.block_lt_of_cell? w _ hx3_2)).trans hx3_2
      replace hx3_3 := (HB.out.cell (World.block_lt_of_cell? w _ hx3_3)).trans hx3_3
      replace hx3_4 := (HB.out.cell (World.block_lt_of_cell? w _ hx3_4)).trans hx3_4
      replace hx3_5 := (HB.out.cell (World.block_lt_of_cell? w _ hx3_5)).trans hx3_5
      replace hx3_6 := (HB.out.cell (World.block_lt_of_cell? w _ hx3_6)).trans hx3_6
      replace hx3_7 := (HB.out.cell (World.block_lt_of_cell? w _ hx3_7)).trans hx3_7
      replace hx3_8 := (HB.out.cell (World.block_lt_of_cell? w _ hx3_8)).trans hx3_8
      replace hx3_9 := (HB.out.cell (World.block_lt_of_cell? w _ hx3_9)).trans hx3_9
      replace hx3_10 := (HB.out.cell (World.block_lt_of_cell? w _ hx3_10)).trans hx3_10
      replace hx3_11 := (HB.out.cell (World.block_lt_of_cell? w _ hx3_11)).trans hx3_11
      replace p3 := eq_true p3
      replace q3 := eq_true q3
      go_wp2_with (first | ((with_reducible refine gate_callee (f := 136) rfl ?_); refine goesL_ (some 22) rfl rfl Try.func136 (by kernel_rfl) rfl #[.slice A1 l1.length c1, .string ((rd_T31 l0 x6_1).f0)] rfl (by (try simp only [List.map_toArray, List.map_cons, List.map_nil]); first | done | rfl | (simp only [List.length_drop, List.length_take]; rfl)) ?_; (with_reducible refine (r10_in.calls k1 _ _ l1 ((rd_T31 l0 x6_1).f0) true _ ?side1 ?side2 A7.out).mono ?_); (case side1 => repeat (first | exact (Kd.C_below HR1.out HB.out) | (with_reducible refine Kd.C_alloc ?_ _) | (with_reducible refine Kd.C_drewN ?_ _) | (with_reducible refine Kd.C_drew ?_))); (case side2 => exact HC1.out); rintro e w' ⟨rfl, ⟨nd, rfl⟩⟩; refine ⟨_, rfl, ?_⟩; have p5 : 0 ≤ (x6_1 : Int) := of_decide_eq_true (by first | (with_reducible assumption) | assumption); have q5 : x6_1 < (l0.length : Int) := of_decide_eq_true (by first | (with_reducible assumption) | assumption); obtain ⟨ad5, e5, hx5_0, hx5_1, hx5_2, hx5_3, hx5_4, hx5_5, hx5_6, hx5_7, hx5_8, hx5_9, hx5_10, hx5_11⟩ := at_T31 HR0.out x6_1 p5 q5; obtain rfl : ad3 = ad5 := (by injection e5); replace hx5_0 := (HB.out.cell (World.block_lt_of_cell? w _ hx5_0)).trans hx5_0; replace hx5_1 := (HB.out.cell (World.block_lt_of_cell? w _ hx5_1)).trans hx5_1; replace hx5_2 := (HB.out.cell (World.block_lt_of_cell? w _ hx5_2)).trans hx5_2; replace hx5_3 := (HB.out.cell (World.block_lt_of_cell? w _ hx5_3)).trans hx5_3; replace hx5_4 := (HB.out.cell (World.block_lt_of_cell? w _ hx5_4)).trans hx5_4; replace hx5_5 := (HB.out.cell (World.block_lt_of_cell? w _ hx5_5)).trans hx5_5; replace hx5_6 := (HB.out.cell (World.block_lt_of_cell? w _ hx5_6)).trans hx5_6; replace hx5_7 := (HB.out.cell (World.block_lt_of_cell? w _ hx5_7)).trans hx5_7; replace hx5_8 := (HB.out.cell (World.block_lt_of_cell? w _ hx5_8)).trans hx5_8; replace hx5_9 := (HB.out.cell (World.block_lt_of_cell? w _ hx5_9)).trans hx5_9; replace hx5_10 := (HB.out.cell (World.block_lt_of_cell? w _ hx5_10)).trans hx5_10; replace hx5_11 := (HB.out.cell (World.block_lt_of_cell? w _ hx5_11)).trans hx5_11; replace p5 := eq_true p5; replace q5 := eq_true q5) | ((with_reducible refine gate_callee (f := 106) rfl ?_); refine goesL_ (some 30) rfl rfl Try.func106 (by kernel_rfl) rfl #[.slice (some ad3) l0.length c0, .string ((rd_T31 l0 x6_1).f0)] rfl (by (try simp only [List.map_toArray, List.map_cons, List.map_nil]); first | done | rfl | (simp only [List.length_drop, List.length_take]; rfl)) ?_; (with_reducible refine (r10_Up.calls k1 _ _ l0 ((rd_T31 l0 x6_1).f0) t6 _ ?side1 ?side2 A9.out).mono ?_); (case side1 => repeat (first | exact (Kd.C_below HR0.out (by repeat (first | (with_reducible first | exact HB.out | apply below_alloc | apply pw_below_drewN | apply below_drew1 | refine below_set ?_ GE1.out | refine below_set ?_ GE2.out) | exact HB.out))) | (with_reducible refine Kd.C_alloc ?_ _) | (with_reducible refine Kd.C_drewN ?_ _) | (with_reducible refine Kd.C_drew ?_))); (case side2 => exact HC0.out); rintro e w10 ⟨v7, rfl, ho0, hb⟩; refine ⟨_, rfl, ?_⟩; have n0_ := Aside0.mk (Kd.R_lower ho0 (below_size (by repeat (first | (with_reducible first | exact HB.out | apply below_alloc | apply pw_below_drewN | apply below_drew1 | refine below_set ?_ GE1.out | refine below_set ?_ GE2.out) | exact HB.out)))); have n1_ := Aside0.mk (blk_below (g := gb1) (o := .cells #[.int .i64 0, .int .i64 0, .int .i64 0] 27 (0, 0)) (by (with_reducible repeat (first | refine blk_drewN ?_ _ | refine blk_drew ?_ | refine blk_alloc ?_ _)); exact BK1.out) hb); have n2_ := Aside0.mk (blk_below (g := gb2) (o := .cells #[.int .i64 x3000_1, .int .i64 x3001_1, .int .i64 x3002_1] 27 (0, 0)) (by (with_reducible repeat (first | refine blk_drewN ?_ _ | refine blk_drew ?_ | refine blk_alloc ?_ _)); exact BK2.out) hb); have n3_ := Aside0.mk (below_step (by repeat (first | (with_reducible first | exact HB.out | apply below_alloc | apply pw_below_drewN | apply below_drew1 | refine below_set ?_ GE1.out | refine below_set ?_ GE2.out) | exact HB.out)) hb); clear BK1; clear BK2; clear HB; have HO8 := n0_; have BK1 := n1_; have BK2 := n2_; have HB := n3_; clear n0_ n1_ n2_ n3_; (try clear hb); (try clear hb2); (try clear hk); (try clear hi); (try clear ho0)))
      go_loopg [8, 9] k1 (fun kq v8 v9 w' => ∃ (x8_2 : Bool) (x9_2 : Int), v8 = .bool x8_2 ∧ v9 = .int .i64 x9_2 ∧ Aside0 (r10_Share.l1 kq l0 l1 x6_1 t6 x8_2 x9_2 x3000_1 x3001_1 x3002_1 = some (r1, r2, r3)) ∧ Aside0 (kq ≤ k1) ∧ Aside0 (Kd.R Kd.string 9 w' w.heap.size (fun _ => True) v7 t6) ∧ Aside0 (w'.heap[gb1]? = some (.cells #[.int .i64 0, .int .i64 0, .int .i64 0] 27 (0, 0))) ∧ Aside0 (w'.heap[gb2]? = some (.cells #[.int .i64 x3000_1, .int .i64 x3001_1, .int .i64 x3002_1] 27 (0, 0))) ∧ Aside0 (Below w.heap.size w w'))
      case atStart => exact ⟨(false), (1), (by first | rfl | (simp; done) | (simp [*]; done)), (by first | rfl | (simp; done) | (simp [*]; done)), H', ⟨Nat.le_refl _⟩, ⟨by (with_reducible repeat (first | apply Kd.R_alloc | apply Kd.R_drewN | apply Kd.R_drew)); exact HO8.out⟩, ⟨by (with_reducible repeat (first | refine blk_drewN ?_ _ | refine blk_drew ?_ | refine blk_alloc ?_ _)); exact BK1.out⟩, ⟨by (with_reducible repeat (first | refine blk_drewN ?_ _ | refine blk_drew ?_ | refine blk_alloc ?_ _)); exact BK2.out⟩, ⟨by repeat (first | (with_reducible first | exact HB.out | apply below_alloc | apply pw_below_drewN | apply below_drew1 | refine below_set ?_ GE1.out | refine below_set ?_ GE2.out) | exact HB.out)⟩⟩
      case round =>
       clear H'
       try clear c1
       try clear p2
       try clear p3
       try clear q3
       try clear hx3
       try clear c5
       try clear c5b0
       try clear p5
       try clear q5
       try clear hx5
       try clear c6
       try clear c6b0
       try clear p6
       try clear c8
       try clear c10
       try clear hx3_0
       try clear hx3_1
       try clear hx3_10
       try clear hx3_11
       try clear hx3_2
       try clear hx3_3
       try clear hx3_4
       try clear hx3_5
       try clear hx3_6
       try clear hx3_7
       try clear hx3_8
       try clear hx3_9
       try clear hx5_0
       try clear hx5_1
       try clear hx5_10
       try clear hx5_11
       try clear hx5_2
       try clear hx5_3
       try clear hx5_4
       try clear hx5_5
       try clear hx5_6
       try clear hx5_7
       try clear hx5_8
       try clear hx5_9
       try clear p2
       try clear p3
       try clear p5
       try clear q3
       try clear q5
       obtain ⟨x8_2, x9_2, rfl, rfl, HA, HK2, HO_7, BK1, BK2, HB⟩ := hrel
       cases gk with
       | zero => exact absurd HA.out (by simp [r10_Share.l1])
       | succ k2 =>
        have H := HA.out
        clear HA
        simp only [r10_Share.l1] at H
        by_cases c11 : x9_2 < (t6.length : Int)
        ·rw [if_pos c11] at H
         have c11b0 : decide (x9_2 < (t6.length : Int)) = true := decide_eq_true c11
         clear c11
         by_cases c12 : x8_2 = true
         ·subst c12
          have H1 : (r10_Share.l1 k2 l0 l1 x6_1 t6 true (wrap64 (x9_2 + 1)) x3000_1 x3001_1 x3002_1) = some (r1, r2, r3) := by rw [if_pos rfl] at H; exact H
          clear H
          have H := H1
          clear H1
          have H' := Aside0.mk H
          clear H
          obtain ⟨Ao13, co13, eo13⟩ := Kd.R_slice HO_7.out
          subst eo13
          go_wp2
          go_roundg k2
          case measure => have := HK1.out; have := HK2.out; omega
          case rel => exact ⟨(true), (wrap64 (x9_2 + 1)), (by first | rfl | (simp; done) | (simp [*]; done)), (by first | rfl | (simp; done) | (simp [*]; done)), H', ⟨by have := HK1.out; have := HK2.out; omega⟩, ⟨by (with_reducible repeat (first | apply Kd.R_alloc | apply Kd.R_drewN | apply Kd.R_drew)); exact HO_7.out⟩, ⟨by (with_reducible repeat (first | refine blk_drewN ?_ _ | refine blk_drew ?_ | refine blk_alloc ?_ _)); exact BK1.out⟩, ⟨by (with_reducible repeat (first | refine blk_drewN ?_ _ | refine blk_drew ?_ | refine blk_alloc ?_ _)); exact BK2.out⟩, ⟨by repeat (first | (with_reducible first | exact HB.out | apply below_alloc | apply pw_below_drewN | apply below_drew1 | refine below_set ?_ GE1.out | refine below_set ?_ GE2.out) | exact HB.out)⟩⟩
         ·replace c12 := Bool.eq_false_iff.mpr c12
          subst c12
          have H1 : (if 0 ≤ x9_2 then ((r10_in.f k2 l1 (rdOf ByteArray.empty t6 x9_2)).bind fun t10 => (r10_Share.l1 k2 l0 l1 x6_1 t6 t10 (wrap64 (x9_2 + 1)) x3000_1 x3001_1 x3002_1)) else (none)) = some (r1, r2, r3) := by rw [if_neg (show ¬ (false = true) by decide)] at H; exact H
          clear H
          have H := H1
          clear H1
          by_cases c14 : 0 ≤ x9_2
          ·rw [if_pos c14] at H
           have c14b0 : decide (0 ≤ x9_2) = true := decide_eq_true c14
           clear c14
           replace H := Option.bind_eq_some_iff.mp H
           obtain ⟨t10, A150, H⟩ := H
           replace H : (r10_Share.l1 k2 l0 l1 x6_1 t6 t10 (wrap64 (x9_2 + 1)) x3000_1 x3001_1 x3002_1) = some (r1, r2, r3) := H
           have A15 := Aside0.mk A150
           clear A150
           have H' := Aside0.mk H
           clear H
           obtain ⟨Ao16, co16, eo16⟩ := Kd.R_slice HO_7.out
           subst eo16
           have p9 : 0 ≤ (x9_2 : Int) := of_decide_eq_true (by first | (with_reducible assumption) | assumption)
           have q9 : x9_2 < (t6.length : Int) := of_decide_eq_true (by first | (with_reducible assumption) | assumption)
           obtain ⟨ad9, e9, hx9_0⟩ := Kd.at_string (Kd.R_reads' HO_7.out).2.2 x9_2 p9 q9
           cases e9
           replace p9 := eq_true p9
           replace q9 := eq_true q9
           go_wp2_with (first | (go_at_call 136; (with_reducible refine (r10_in.calls k2 _ _ l1 (rdOf ByteArray.empty t6 x9_2) t10 _ ?side1 ?side2 A15.out).mono ?_); (case side1 => repeat (first | exact (Kd.C_below HR1.out HB.out) | (with_reducible refine Kd.C_alloc ?_ _) | (with_reducible refine Kd.C_drewN ?_ _) | (with_reducible refine Kd.C_drew ?_))); (case side2 => exact HC1.out); rintro e w' ⟨rfl, ⟨nd, rfl⟩⟩))
           go_roundg k2
           case measure => have := HK1.out; have := HK2.out; omega
           case rel => exact ⟨(t10), (wrap64 (x9_2 + 1)), (by first | rfl | (simp; done) | (simp [*]; done)), (by first | rfl | (simp; done) | (simp [*]; done)), H', ⟨by have := HK1.out; have := HK2.out; omega⟩, ⟨by (with_reducible repeat (first | apply Kd.R_alloc | apply Kd.R_drewN | apply Kd.R_drew)); exact HO_7.out⟩, ⟨by (with_reducible repeat (first | refine blk_drewN ?_ _ | refine blk_drew ?_ | refine blk_alloc ?_ _)); exact BK1.out⟩, ⟨by (with_reducible repeat (first | refine blk_drewN ?_ _ | refine blk_drew ?_ | refine blk_alloc ?_ _)); exact BK2.out⟩, ⟨by repeat (first | (with_reducible first | exact HB.out | apply below_alloc | apply pw_below_drewN | apply below_drew1 | refine below_set ?_ GE1.out | refine below_set ?_ GE2.out) | exact HB.out)⟩⟩
          ·rw [if_neg c14] at H
           exact absurd H (by simp)
        ·rw [if_neg c11] at H
         have c11b0 : decide (x9_2 < (t6.length : Int)) = false := decide_eq_false c11
         clear c11
         by_cases c17 : x8_2 = true
         ·subst c17
          have H1 : (r10_Share.l0 k2 l0 l1 (wrap64 (x6_1 + 1)) x3000_1 x3001_1 x3002_1) = some (r1, r2, r3) := by rw [if_pos rfl] at H; exact H
          clear H
          have H := H1
          clear H1
          have H' := Aside0.mk H
          clear H
          obtain ⟨Ao18, co18, eo18⟩ := Kd.R_slice HO_7.out
          subst eo18
          go_wp2
          go_roundg k2
          case measure => have := HK1.out; have := HK2.out; omega
          case rel => exact ⟨(wrap64 (x6_1 + 1)), (x3000_1), (x3001_1), (x3002_1), (by first | rfl | (simp; done) | (simp [*]; done)), H', ⟨by have := HK1.out; have := HK2.out; omega⟩, ⟨by (with_reducible repeat (first | refine blk_drewN ?_ _ | refine blk_drew ?_ | refine blk_alloc ?_ _)); exact BK1.out⟩, ⟨by (with_reducible repeat (first | refine blk_drewN ?_ _ | refine blk_drew ?_ | refine blk_alloc ?_ _)); exact BK2.out⟩, ⟨by repeat (first | (with_reducible first | exact HB.out | apply below_alloc | apply pw_below_drewN | apply below_drew1 | refine below_set ?_ GE1.out | refine below_set ?_ GE2.out) | exact HB.out)⟩⟩
         ·replace c17 := Bool.eq_false_iff.mpr c17
          subst c17
          have H1 : (if 0 ≤ x6_1 then (if x6_1 < (l0.length : Int) then ((r10_Add.f x3000_1 x3001_1 x3002_1 ((rd_T31 l0 x6_1).f4.f0) ((rd_T31 l0 x6_1).f4.f1) ((rd_T31 l0 x6_1).f4.f2)).bind fun bt12 => (r10_Share.l0 k2 l0 l1 (wrap64 (x6_1 + 1)) bt12.1 bt12.2.1 bt12.2.2)) else (none)) else (none)) = some (r1, r2, r3) := by rw [if_neg (show ¬ (false = true) by decide)] at H; exact H
          clear H
          have H := H1
          clear H1
          by_cases c19 : 0 ≤ x6_1
          ·rw [if_pos c19] at H
           have c19b0 : decide (0 ≤ x6_1) = true := decide_eq_true c19
           clear c19
           by_cases c20 : x6_1 < (l0.length : Int)
           ·rw [if_pos c20] at H
            have c20b0 : decide (x6_1 < (l0.length : Int)) = true := decide_eq_true c20
            clear c20
            replace H := Option.bind_eq_some_iff.mp H
            obtain ⟨⟨t12, t13, t14⟩, A210, H⟩ := H
            replace H : (r10_Share.l0 k2 l0 l1 (wrap64 (x6_1 + 1)) t12 t13 t14) = some (r1, r2, r3) := H
            have A21 := Aside0.mk A210
            clear A210
            have H' := Aside0.mk H
            clear H
            obtain ⟨Ao22, co22, eo22⟩ := Kd.R_slice HO_7.out
            subst eo22
            try go_wp2
            have n0_ := Aside0.mk (Kd.R_drew HO_7.out)
            have n1_ := Aside0.mk (blk_drew BK1.out)
            have n2_ := Aside0.mk (blk_drew BK2.out)
            have n3_ := Aside0.mk (below_drew1 HB.out)
            clear HO_7
            clear BK1
            clear BK2
            clear HB
            have HO_7 := n0_
            have BK1 := n1_
            have BK2 := n2_
            have HB := n3_
            clear n0_ n1_ n2_ n3_
            have p11 : 0 ≤ (x6_1 : Int) := of_decide_eq_true (by first | (with_reducible assumption) | assumption)
            have q11 : x6_1 < (l0.length : Int) := of_decide_eq_true (by first | (with_reducible assumption) | assumption)
            obtain ⟨ad11, e11, hx11_0, hx11_1, hx11_2, hx11_3, hx11_4, hx11_5, hx11_6, hx11_7, hx11_8, hx11_9, hx11_10, hx11_11⟩ := at_T31 HR0.out x6_1 p11 q11
            have hw11_11 := hx11_11
            have hw11_10 := hx11_10
            have hw11_9 := hx11_9
            have hw11_8 := hx11_8
            have hw11_7 := hx11_7
            have hw11_6 := hx11_6
            have hw11_5 := hx11_5
            have hw11_4 := hx11_4
            have hw11_3 := hx11_3
            have hw11_2 := hx11_2
            have hw11_1 := hx11_1
            have hw11_0 := hx11_0
            obtain rfl : ad3 = ad11 := (by injection e11)
            replace hx11_0 := (HB.out.cell (World.block_lt_of_cell? w _ hx11_0)).trans hx11_0
            replace hx11_1 := (HB.out.cell (World.block_lt_of_cell? w _ hx11_1)).trans hx11_1
            replace hx11_2 := (HB.out.cell (World.block_lt_of_cell? w _ hx11_2)).trans hx11_2
            replace hx11_3 := (HB.out.cell (World.block_lt_of_cell? w _ hx11_3)).trans hx11_3
            replace hx11_4 := (HB.out.cell (World.block_lt_of_cell? w _ hx11_4)).trans hx11_4
            replace hx11_5 := (HB.out.cell (World.block_lt_of_cell? w _ hx11_5)).trans hx11_5
            replace hx11_6 := (HB.out.cell (World.block_lt_of_cell? w _ hx11_6)).trans hx11_6
            replace hx11_7 := (HB.out.cell (World.block_lt_of_cell? w _ hx11_7)).trans hx11_7
            replace hx11_8 := (HB.out.cell (World.block_lt_of_cell? w _ hx11_8)).trans hx11_8
            replace hx11_9 := (HB.out.cell (World.block_lt_of_cell? w _ hx11_9)).trans hx11_9
            replace hx11_10 := (HB.out.cell (World.block_lt_of_cell? w _ hx11_10)).trans hx11_10
            replace hx11_11 := (HB.out.cell (World.block_lt_of_cell? w _ hx11_11)).trans hx11_11
            replace p11 := eq_true p11
            replace q11 := eq_true q11
            refine start_ (n := 8) (S := fun w' => w'.cell? ⟨gb2, 0, none⟩ = some (.int .i64 x3000_1) ∧ w'.cell? ⟨gb2, 1, none⟩ = some (.int .i64 x3001_1) ∧ w'.cell? ⟨gb2, 2, none⟩ = some (.int .i64 x3002_1) ∧ w'.cell? (ad3.add ((x6_1).toNat * 12)) = some (.string ((rd_T31 l0 x6_1).f0)) ∧ w'.cell? ⟨(ad3.add ((x6_1).toNat * 12)).block, (ad3.add ((x6_1).toNat * 12)).off + 1, none⟩ = some (.string ((rd_T31 l0 x6_1).f1)) ∧ w'.cell? ⟨(ad3.add ((x6_1).toNat * 12)).block, (ad3.add ((x6_1).toNat * 12)).off + 2, none⟩ = some (.int .i64 ((rd_T31 l0 x6_1).f2.f0)) ∧ w'.cell? ⟨(ad3.add ((x6_1).toNat * 12)).block, (ad3.add ((x6_1).toNat * 12)).off + 3, none⟩ = some (.int .i64 ((rd_T31 l0 x6_1).f2.f1)) ∧ w'.cell? ⟨(ad3.add ((x6_1).toNat * 12)).block, (ad3.add ((x6_1).toNat * 12)).off + 4, none⟩ = some (.int .i64 ((rd_T31 l0 x6_1).f2.f2)) ∧ w'.cell? ⟨(ad3.add ((x6_1).toNat * 12)).block, (ad3.add ((x6_1).toNat * 12)).off + 5, none⟩ = some (.int .i64 ((rd_T31 l0 x6_1).f3.f0)) ∧ w'.cell? ⟨(ad3.add ((x6_1).toNat * 12)).block, (ad3.add ((x6_1).toNat * 12)).off + 6, none⟩ = some (.int .i64 ((rd_T31 l0 x6_1).f3.f1)) ∧ w'.cell? ⟨(ad3.add ((x6_1).toNat * 12)).block, (ad3.add ((x6_1).toNat * 12)).off + 7, none⟩ = some (.int .i64 ((rd_T31 l0 x6_1).f3.f2)) ∧ w'.cell? ⟨(ad3.add ((x6_1).toNat * 12)).block, (ad3.add ((x6_1).toNat * 12)).off + 8, none⟩ = some (.int .i64 ((rd_T31 l0 x6_1).f4.f0)) ∧ w'.cell? ⟨(ad3.add ((x6_1).toNat * 12)).block, (ad3.add ((x6_1).toNat * 12)).off + 9, none⟩ = some (.int .i64 ((rd_T31 l0 x6_1).f4.f1)) ∧ w'.cell? ⟨(ad3.add ((x6_1).toNat * 12)).block, (ad3.add ((x6_1).toNat * 12)).off + 10, none⟩ = some (.int .i64 ((rd_T31 l0 x6_1).f4.f2)) ∧ w'.cell? ⟨(ad3.add ((x6_1).toNat * 12)).block, (ad3.add ((x6_1).toNat * 12)).off + 11, none⟩ = some (.int .i64 ((rd_T31 l0 x6_1).f5))) (ds := [7]) #[false, false, false, false, false, false, false, false] (by kernel_rfl) rfl rfl ⟨(blk_cell BK2.out 0).trans rfl, (blk_cell BK2.out 1).trans rfl, (blk_cell BK2.out 2).trans rfl, ((HB.out.cell (World.block_lt_of_cell? w _ hw11_0)).trans hw11_0), ((HB.out.cell (World.block_lt_of_cell? w _ hw11_1)).trans hw11_1), ((HB.out.cell (World.block_lt_of_cell? w _ hw11_2)).trans hw11_2), ((HB.out.cell (World.block_lt_of_cell? w _ hw11_3)).trans hw11_3), ((HB.out.cell (World.block_lt_of_cell? w _ hw11_4)).trans hw11_4), ((HB.out.cell (World.block_lt_of_cell? w _ hw11_5)).trans hw11_5), ((HB.out.cell (World.block_lt_of_cell? w _ hw11_6)).trans hw11_6), ((HB.out.cell (World.block_lt_of_cell? w _ hw11_7)).trans hw11_7), ((HB.out.cell (World.block_lt_of_cell? w _ hw11_8)).trans hw11_8), ((HB.out.cell (World.block_lt_of_cell? w _ hw11_9)).trans hw11_9), ((HB.out.cell (World.block_lt_of_cell? w _ hw11_10)).trans hw11_10), ((HB.out.cell (World.block_lt_of_cell? w _ hw11_11)).trans hw11_11)⟩ (fun hHeld => ?_); refine with_tabW r10_Share.tab13 r10_Share.bits13 (fun HT_ HW_ => ?_)
            generalize wr.drew = w23 at HO_7 BK1 BK2 HB hx11_0 hx11_1 hx11_10 hx11_11 hx11_2 hx11_3 hx11_4 hx11_5 hx11_6 hx11_7 hx11_8 hx11_9 hHeld ⊢
            refine pure_ (i := 1) (N := some 49) (v := ?_) (a' := ?_) #[false, true, false, false, false, false, false, false] rfl rfl (any_of HT_.out (by kernel_rfl)) (fun _ _ _ h => h) (Or.inl ⟨by rfl, ?_⟩) ?_ ?_
            rotate_left
            ·intro w'
             go_simp
             with_reducible rfl
            rotate_left
            ·simp only [Act.put, List.setIfInBounds_toArray, List.set_cons_zero, List.set_cons_succ, i64_w, i32_w]
             rfl
            refine pure_ (i := 2) (N := some 50) (v := ?_) (a' := ?_) #[false, true, true, false, false, false, false, false] rfl rfl (any_of HT_.out (by kernel_rfl)) (fun _ _ _ h => h) (Or.inl ⟨by rfl, ?_⟩) ?_ ?_
            rotate_left
            ·intro w'
             go_simp
             with_reducible rfl
            rotate_left
            ·simp only [Act.put, List.setIfInBounds_toArray, List.set_cons_zero, List.set_cons_succ, i64_w, i32_w]
             rfl
            refine pure_ (i := 3) (N := some 51) (v := ?_) (a' := ?_) #[false, true, true, true, false, false, false, false] rfl rfl (any_of HT_.out (by kernel_rfl)) (fun _ _ _ h => h) (Or.inl ⟨by rfl, ?_⟩) ?_ ?_
            rotate_left
            ·intro w'
             go_simp
             with_reducible rfl
            rotate_left
            ·simp only [Act.put, List.setIfInBounds_toArray, List.set_cons_zero, List.set_cons_succ, i64_w, i32_w]
             rfl
            refine pure_ (i := 4) (N := some 52) (v := ?_) (a' := ?_) #[false, true, true, true, true, false, false, false] rfl rfl (any_of HT_.out (by kernel_rfl)) (fun _ _ _ h => h) (Or.inl ⟨by rfl, ?_⟩) ?_ ?_
            rotate_left
            ·intro w'
             go_simp
             with_reducible rfl
            rotate_left
            ·simp only [Act.put, List.setIfInBounds_toArray, List.set_cons_zero, List.set_cons_succ, i64_w, i32_w]
             rfl
            refine take_ (i := 0) (N := some 48) (v := ?_) (a' := ?_) #[true, true, true, true, true, false, false, false] rfl rfl (take_ofW HT_.out HW_.out (by kernel_rfl)) (fun _ _ _ h => h) (Or.inl ⟨by rfl, ?_⟩) hHeld ?_ ?_
            rotate_left
            ·rintro w' ⟨s0, s1, s2, s3, s4, s5, s6, s7, s8, s9, s10, s11, s12, s13, s14⟩
             go_simp
             with_reducible rfl
            rotate_left
            ·simp only [Act.put, List.setIfInBounds_toArray, List.set_cons_zero, List.set_cons_succ, i64_w, i32_w]
             rfl
            refine take_ (i := 5) (N := some 53) (v := ?_) (a' := ?_) #[true, true, true, true, true, true, false, false] rfl rfl (take_ofW HT_.out HW_.out (by kernel_rfl)) (fun _ _ _ h => h) (Or.inl ⟨by rfl, ?_⟩) hHeld ?_ ?_
            rotate_left
            ·rintro w' ⟨s0, s1, s2, s3, s4, s5, s6, s7, s8, s9, s10, s11, s12, s13, s14⟩
             go_simp
             with_reducible rfl
            rotate_left
            ·simp only [Act.put, List.setIfInBounds_toArray, List.set_cons_zero, List.set_cons_succ, i64_w, i32_w]
             rfl
            refine one_ (i := 6) (N := some 54) #[true, true, true, true, true, true, true, false] rfl rfl (one_of HT_.out (by kernel_rfl)) (by decide) (fun K hK => ?_)
            refine goes_ Try.func63 (by kernel_rfl) rfl #[.agg #[.int .i64 x3000_1, .int .i64 x3001_1, .int .i64 x3002_1], .agg #[.int .i64 ((rd_T31 l0 x6_1).f4.f0), .int .i64 ((rd_T31 l0 x6_1).f4.f1), .int .i64 ((rd_T31 l0 x6_1).f4.f2)]] (by rfl) rfl rfl (by (try simp only [List.map_toArray, List.map_cons, List.map_nil]); first | done | rfl | (simp only [List.length_drop, List.length_take]; rfl)) ?_
            with_reducible refine (r10_Add.calls x3000_1 x3001_1 x3002_1 ((rd_T31 l0 x6_1).f4.f0) ((rd_T31 l0 x6_1).f4.f1) ((rd_T31 l0 x6_1).f4.f2) t12 t13 t14 _ A21.out).mono ?_
            rintro e w24 ⟨rfl, hb⟩
            refine ⟨_, rfl, ?_⟩
            have n0_ := Aside0.mk (Kd.R_below (by (with_reducible repeat (first | apply Kd.R_alloc | apply Kd.R_drewN | apply Kd.R_drew)); exact HO_7.out) hb)
            have n1_ := Aside0.mk (blk_below (g := gb1) (o := .cells #[.int .i64 0, .int .i64 0, .int .i64 0] 27 (0, 0)) (by (with_reducible repeat (first | refine blk_drewN ?_ _ | refine blk_drew ?_ | refine blk_alloc ?_ _)); exact BK1.out) hb)
            have n2_ := Aside0.mk (blk_below (g := gb2) (o := .cells #[.int .i64 x3000_1, .int .i64 x3001_1, .int .i64 x3002_1] 27 (0, 0)) (by (with_reducible repeat (first | refine blk_drewN ?_ _ | refine blk_drew ?_ | refine blk_alloc ?_ _)); exact BK2.out) hb)
            have n3_ := Aside0.mk (below_step (by repeat (first | (with_reducible first | exact HB.out | apply below_alloc | apply pw_below_drewN | apply below_drew1 | refine below_set ?_ GE1.out | refine below_set ?_ GE2.out) | exact HB.out)) hb)
            clear HO_7
            clear BK1
            clear BK2
            clear HB
            have HO_7 := n0_
            have BK1 := n1_
            have BK2 := n2_
            have HB := n3_
            clear n0_ n1_ n2_ n3_
            (try clear hb)
            (try clear hb2)
            (try clear hk)
            (try clear hi)
            refine hK.out _ _ ⟨(blk_cell BK2.out 0).trans rfl, (blk_cell BK2.out 1).trans rfl, (blk_cell BK2.out 2).trans rfl, ((HB.out.cell (World.block_lt_of_cell? w _ hw11_0)).trans hw11_0), ((HB.out.cell (World.block_lt_of_cell? w _ hw11_1)).trans hw11_1), ((HB.out.cell (World.block_lt_of_cell? w _ hw11_2)).trans hw11_2), ((HB.out.cell (World.block_lt_of_cell? w _ hw11_3)).trans hw11_3), ((HB.out.cell (World.block_lt_of_cell? w _ hw11_4)).trans hw11_4), ((HB.out.cell (World.block_lt_of_cell? w _ hw11_5)).trans hw11_5), ((HB.out.cell (World.block_lt_of_cell? w _ hw11_6)).trans hw11_6), ((HB.out.cell (World.block_lt_of_cell? w _ hw11_7)).trans hw11_7), ((HB.out.cell (World.block_lt_of_cell? w _ hw11_8)).trans hw11_8), ((HB.out.cell (World.block_lt_of_cell? w _ hw11_9)).trans hw11_9), ((HB.out.cell (World.block_lt_of_cell? w _ hw11_10)).trans hw11_10), ((HB.out.cell (World.block_lt_of_cell? w _ hw11_11)).trans hw11_11)⟩ (fun hHeld => ?_)
            clear hK K
            refine norm_ (a' := ?_) ?_ ?_
            rotate_left
            ·show Act.put _ (some 54) _ = _
             simp only [Act.put, List.setIfInBounds_toArray, List.set_cons_zero, List.set_cons_succ, i64_w, i32_w]
             rfl
            refine last_ (i := 7) (N := none) #[true, true, true, true, true, true, true, true] rfl rfl (one_of HT_.out (by kernel_rfl)) (by decide) (fun K hK => ?_)
            have hs25 : w24.cell? ⟨gb2, 0, none⟩ = some (.int .i64 x3000_1) := (blk_cell BK2.out 0).trans rfl
            have hfs25 := blk_frozen BK2.out 0
            have hns25_0 := NB1_2.out
            have hms25_0 := NB2_1.out
            have hs26 : w24.cell? ⟨gb2, 1, none⟩ = some (.int .i64 x3001_1) := (blk_cell BK2.out 1).trans rfl
            have hfs26 := blk_frozen BK2.out 1
            have hns26_0 := NB1_2.out
            have hms26_0 := NB2_1.out
            have hs27 : w24.cell? ⟨gb2, 2, none⟩ = some (.int .i64 x3002_1) := (blk_cell BK2.out 2).trans rfl
            have hfs27 := blk_frozen BK2.out 2
            have hns27_0 := NB1_2.out
            have hms27_0 := NB2_1.out
            refine skip_ (w1 := ?_) (by rfl) rfl ?_ ?_
            rotate_left
            ·go_simp
             rfl
            refine hK.out _ _ ?_
            clear hK K
            refine done_ (done_of HT_.out (by kernel_rfl)) ?_
            try go_wp2
            go_roundg k2
            case measure => have := HK1.out; have := HK2.out; omega
            case rel => exact ⟨(wrap64 (x6_1 + 1)), (t12), (t13), (t14), (by first | rfl | (simp; done) | (simp [*]; done)), H', ⟨by have := HK1.out; have := HK2.out; omega⟩, ⟨by (with_reducible repeat (first | refine blk_drewN ?_ _ | refine blk_drew ?_ | refine blk_alloc ?_ _)); refine blk_far ?_ NB1_2.out _; (with_reducible repeat (first | refine blk_drewN ?_ _ | refine blk_drew ?_ | refine blk_alloc ?_ _)); refine blk_far ?_ NB1_2.out _; (with_reducible repeat (first | refine blk_drewN ?_ _ | refine blk_drew ?_ | refine blk_alloc ?_ _)); refine blk_far ?_ NB1_2.out _; (with_reducible repeat (first | refine blk_drewN ?_ _ | refine blk_drew ?_ | refine blk_alloc ?_ _)); exact BK1.out⟩, ⟨by (with_reducible repeat (first | refine blk_drewN ?_ _ | refine blk_drew ?_ | refine blk_alloc ?_ _)); refine blk_put (cs := #[.int .i64 t12, .int .i64 t13, .int .i64 x3002_1]) ?_ 2 _ rfl; (with_reducible repeat (first | refine blk_drewN ?_ _ | refine blk_drew ?_ | refine blk_alloc ?_ _)); refine blk_put (cs := #[.int .i64 t12, .int .i64 x3001_1, .int .i64 x3002_1]) ?_ 1 _ rfl; (with_reducible repeat (first | refine blk_drewN ?_ _ | refine blk_drew ?_ | refine blk_alloc ?_ _)); refine blk_put (cs := #[.int .i64 x3000_1, .int .i64 x3001_1, .int .i64 x3002_1]) ?_ 0 _ rfl; (with_reducible repeat (first | refine blk_drewN ?_ _ | refine blk_drew ?_ | refine blk_alloc ?_ _)); exact BK2.out⟩, ⟨by repeat (first | (with_reducible first | exact HB.out | apply below_alloc | apply pw_below_drewN | apply below_drew1 | refine below_set ?_ GE1.out | refine below_set ?_ GE2.out) | exact HB.out)⟩⟩
           ·rw [if_neg c20] at H
            exact absurd H (by simp)
          ·rw [if_neg c19] at H
           exact absurd H (by simp)
     ·replace c8 := Bool.eq_false_iff.mpr c8
      subst c8
      have H1 : (r10_Share.l0 k1 l0 l1 (wrap64 (x6_1 + 1)) x3000_1 x3001_1 x3002_1) = some (r1, r2, r3) := by rw [if_neg (show ¬ (false = true) by decide)] at H; exact H
      clear H
      have H := H1
      clear H1
      have H' := Aside0.mk H
      clear H
      have p3 : 0 ≤ (x6_1 : Int) := of_decide_eq_true (by first | (with_reducible assumption) | assumption)
      have q3 : x6_1 < (l0.length : Int) := of_decide_eq_true (by first | (with_reducible assumption) | assumption)
      obtain ⟨ad3, e3, hx3_0, hx3_1, hx3_2, hx3_3, hx3_4, hx3_5, hx3_6, hx3_7, hx3_8, hx3_9, hx3_10, hx3_11⟩ := at_T31 HR0.out x6_1 p3 q3
      cases e3
      replace hx3_0 := (HB.out.cell (World.block_lt_of_cell? w _ hx3_0)).trans hx3_0
      replace hx3_1 := (HB.out.cell (World.block_lt_of_cell? w _ hx3_1)).trans hx3_1
      replace hx3_2 := (HB.out.cell (World.block_lt_of_cell? w _ hx3_2)).trans hx3_2
      replace hx3_3 := (HB.out.cell (World.block_lt_of_cell? w _ hx3_3)).trans hx3_3
      replace hx3_4 := (HB.out.cell (World.block_lt_of_cell? w _ hx3_4)).trans hx3_4
      replace hx3_5 := (HB.out.cell (World.block_lt_of_cell? w _ hx3_5)).trans hx3_5
      replace hx3_6 := (HB.out.cell (World.block_lt_of_cell? w _ hx3_6)).trans hx3_6
      replace hx3_7 := (HB.out.cell (World.block_lt_of_cell? w _ hx3_7)).trans hx3_7
      replace hx3_8 := (HB.out.cell (World.block_lt_of_cell? w _ hx3_8)).trans hx3_8
      replace hx3_9 := (HB.out.cell (World.block_lt_of_cell? w _ hx3_9)).trans hx3_9
      replace hx3_10 := (HB.out.cell (World.block_lt_of_cell? w _ hx3_10)).trans hx3_10
      replace hx3_11 := (HB.out.cell (World.block_lt_of_cell? w _ hx3_11)).trans hx3_11
      replace p3 := eq_true p3
      replace q3 := eq_true q3
      go_wp2_with (first | ((with_reducible refine gate_callee (f := 136) rfl ?_); refine goesL_ (some 22) rfl rfl Try.func136 (by kernel_rfl) rfl #[.slice A1 l1.length c1, .string ((rd_T31 l0 x6_1).f0)] rfl (by (try simp only [List.map_toArray, List.map_cons, List.map_nil]); first | done | rfl | (simp only [List.length_drop, List.length_take]; rfl)) ?_; (with_reducible refine (r10_in.calls k1 _ _ l1 ((rd_T31 l0 x6_1).f0) false _ ?side1 ?side2 A7.out).mono ?_); (case side1 => repeat (first | exact (Kd.C_below HR1.out HB.out) | (with_reducible refine Kd.C_alloc ?_ _) | (with_reducible refine Kd.C_drewN ?_ _) | (with_reducible refine Kd.C_drew ?_))); (case side2 => exact HC1.out); rintro e w' ⟨rfl, ⟨nd, rfl⟩⟩; refine ⟨_, rfl, ?_⟩))
      go_roundg k1
      case measure => have := HK1.out; omega
      case rel => exact ⟨(wrap64 (x6_1 + 1)), (x3000_1), (x3001_1), (x3002_1), (by first | rfl | (simp; done) | (simp [*]; done)), H', ⟨by have := HK1.out; omega⟩, ⟨by (with_reducible repeat (first | refine blk_drewN ?_ _ | refine blk_drew ?_ | refine blk_alloc ?_ _)); exact BK1.out⟩, ⟨by (with_reducible repeat (first | refine blk_drewN ?_ _ | refine blk_drew ?_ | refine blk_alloc ?_ _)); exact BK2.out⟩, ⟨by repeat (first | (with_reducible first | exact HB.out | apply below_alloc | apply pw_below_drewN | apply below_drew1 | refine below_set ?_ GE1.out | refine below_set ?_ GE2.out) | exact HB.out)⟩⟩
    ·rw [if_neg c6] at H
     exact absurd H (by simp)
   ·rw [if_neg c5] at H
    have c5b0 : decide (x6_1 < (l0.length : Int)) = false := decide_eq_false c5
    clear c5
    simp only [Option.some.injEq, Prod.mk.injEq] at H
    obtain ⟨rfl, rfl, rfl⟩ := H
    have hnb28 := NB2_1.out
    have hnc28 := NB1_2.out
    have hcz29_0 : wr.cell? ⟨gb2, 0, none⟩ = some (.int .i64 x3000_1) := (blk_cell BK2.out 0).trans rfl
    have hcz29_1 : wr.cell? ⟨gb2, 1, none⟩ = some (.int .i64 x3001_1) := (blk_cell BK2.out 1).trans rfl
    have hcz29_2 : wr.cell? ⟨gb2, 2, none⟩ = some (.int .i64 x3002_1) := (blk_cell BK2.out 2).trans rfl
    have hfz29_0 := blk_frozen BK2.out 0
    have hfz29_1 := blk_frozen BK2.out 1
    have hfz29_2 := blk_frozen BK2.out 2
    have hcz30_0 : wr.cell? ⟨gb1, 0, none⟩ = some (.int .i64 0) := (blk_cell BK1.out 0).trans rfl
    have hcz30_1 : wr.cell? ⟨gb1, 1, none⟩ = some (.int .i64 0) := (blk_cell BK1.out 1).trans rfl
    have hcz30_2 : wr.cell? ⟨gb1, 2, none⟩ = some (.int .i64 0) := (blk_cell BK1.out 2).trans rfl
    have hfz30_0 := blk_frozen BK1.out 0
    have hfz30_1 := blk_frozen BK1.out 1
    have hfz30_2 := blk_frozen BK1.out 2
    go_wp2
    refine bodyPost_ret (results_cell_row rfl _ _ gb1 27 #[.int .i64 x3000_1, .int .i64 x3001_1, .int .i64 x3002_1] (0, 0) _ rfl (by (with_reducible repeat (first | refine blk_drewN ?_ _ | refine blk_drew ?_ | refine blk_alloc ?_ _)); refine blk_put (cs := #[.int .i64 x3000_1, .int .i64 x3001_1, .int .i64 0]) ?_ 2 _ rfl; (with_reducible repeat (first | refine blk_drewN ?_ _ | refine blk_drew ?_ | refine blk_alloc ?_ _)); refine blk_put (cs := #[.int .i64 x3000_1, .int .i64 0, .int .i64 0]) ?_ 1 _ rfl; (with_reducible repeat (first | refine blk_drewN ?_ _ | refine blk_drew ?_ | refine blk_alloc ?_ _)); refine blk_put (cs := #[.int .i64 0, .int .i64 0, .int .i64 0]) ?_ 0 _ rfl; (with_reducible repeat (first | refine blk_drewN ?_ _ | refine blk_drew ?_ | refine blk_alloc ?_ _)); exact BK1.out) Try.underlying27 rfl (by kernel_rfl)) rfl ?_
    exact ⟨by first | rfl | (simp [errW_none, errW_some] <;> rfl) | (simp [*, errW_none, errW_some] <;> rfl), by repeat (first | (with_reducible first | exact HB.out | apply below_alloc | apply pw_below_drewN | apply below_drew1 | refine below_set ?_ GE1.out | refine below_set ?_ GE2.out) | exact HB.out)⟩
end Go.Proofs.Ytcgefpklljclgaa.Print

namespace Go.Proofs.Ytcgefpklljclgaa.Print
open Go.RowKit Go.Proofs.YtcgefpklljclgaaW.PrintWords Go.Proofs.YtcgefpklljclgaaW.PrintLast Go.Proofs.YtcgefpklljclgaaW.PrintMore
set_option linter.unusedVariables false
set_option linter.unusedSimpArgs false
/-- is this node's name told, and none above it? -/
def topB (l : List Item) (ns : List ByteArray) (x : Item) : Bool := hasStr ns x.f0 && !((up l x.f0).drop 1).any (hasStr ns)
def addV (a : Vec) (ws : List Item) : Vec := ⟨a.f0 + sumBy (fun x => x.f4.f0) ws, a.f1 + sumBy (fun x => x.f4.f1) ws, a.f2 + sumBy (fun x => x.f4.f2) ws⟩
def shareV (l : List Item) (ns : List ByteArray) : Vec := addV ⟨0, 0, 0⟩ (l.filter (topB l ns))
theorem addV_nil (a : Vec) : addV a [] = a := by unfold addV; simp [sumBy_nil]
theorem addV_cons (a : Vec) (x : Item) (ws : List Item) : addV a (x :: ws) = addV (vadd a x.f4) ws := by
  unfold addV vadd
  simp only [sumBy_cons]
  congr 1 <;> omega
def SmallV (a : Vec) (n : Nat) : Prop := ∀ c : Comp, 0 ≤ c.of a ∧ c.of a ≤ 1099511627776 * n
theorem small_zero : SmallV ⟨0, 0, 0⟩ 0 := fun c => by cases c <;> simp [Comp.of]
theorem small_add {a b : Vec} {n : Nat} (ha : SmallV a n) (hb : MayP b) : SmallV (vadd a b) (n + 1) := fun c => by
  have h1 := ha c; have h2 := hb c
  rw [of_vadd]; omega
theorem small_wrap {a b : Vec} {n : Nat} (ha : SmallV a n) (hb : MayP b) (hn : n ≤ 1000) : wrap64 (a.f0 + b.f0) = (vadd a b).f0 ∧ wrap64 (a.f1 + b.f1) = (vadd a b).f1 ∧ wrap64 (a.f2 + b.f2) = (vadd a b).f2 := by
  have a0 := ha .cpu; have a1 := ha .mem; have a2 := ha .pods
  have b0 := hb .cpu; have b1 := hb .mem; have b2 := hb .pods
  simp only [Comp.of] at a0 a1 a2 b0 b1 b2
  exact ⟨w64 (by omega) (by omega), w64 (by omega) (by omega), w64 (by omega) (by omega)⟩
theorem vecAdd_items : ∀ (ws : List Item) (a : Vec) (n : Nat), SmallV a n → (∀ x ∈ ws, MayP x.f4) → n + ws.length ≤ 1000 → vecByF (fun x y => wrap64 (x + y)) (ws.map (·.f4)) a.f0 a.f1 a.f2 = ((addV a ws).f0, (addV a ws).f1, (addV a ws).f2)
  | [], a, n, ha, hw, hn => by rw [addV_nil]; rfl
  | x :: ws, a, n, ha, hw, hn => by
    rw [addV_cons]
    obtain ⟨e0, e1, e2⟩ := small_wrap ha (hw x (by simp)) (by simp at hn; omega)
    have := vecAdd_items ws (vadd a x.f4) (n + 1) (small_add ha (hw x (by simp))) (fun y hy => hw y (by simp [hy])) (by simp at hn; omega)
    rw [← this]
    show vecByF (fun x y => wrap64 (x + y)) (ws.map (·.f4)) (wrap64 (a.f0 + x.f4.f0)) (wrap64 (a.f1 + x.f4.f1)) (wrap64 (a.f2 + x.f4.f2)) = _
    rw [e0, e1, e2]
theorem room_Share_l0 {l : List Item} (hr : RightP l) (ns : List ByteArray) : ∀ (d i : Nat) (acc : List Vec), l.length - i = d → i ≤ l.length → acc.length ≤ i → Ev (fun k => room_Share.l0 k l ns i acc) (acc ++ ((l.drop i).filter (topB l ns)).map (·.f4))
  | 0, i, acc, hd, hi, ha => by
    obtain rfl : i = l.length := by omega
    rw [List.drop_length]
    refine Ev.step (f := fun _ => some acc) (fun k => ?_) (by rw [show acc ++ (([] : List Item).filter (topB l ns)).map (·.f4) = acc from List.append_nil _]; exact Ev.now _)
    rw [room_Share.l0, if_neg (by omega)]
  | d + 1, i, acc, hd, hi, ha => by
    have hlen := hr.len
    have hlt : i < l.length := by omega
    have hrd : rd_T31 l (i : Int) = l[i] := by rw [rd_item, Int.toNat_natCast]; simp [hlt]
    have hm : l[i] ∈ l := List.getElem_mem hlt
    have hpos : 1 ≤ (up l l[i].f0).length := by have := up_self (hr.look hm); exact List.length_pos_of_mem this
    rw [List.drop_eq_getElem_cons hlt]
    generalize l[i] = x at *
    have ht : topB l ns x = true ↔ (hasStr ns x.f0 = true ∧ ((up l x.f0).drop 1).any (hasStr ns) = false) := by unfold topB; simp
    by_cases h : topB l ns x = true
    · rw [List.filter_cons_of_pos h]
      refine Ev.step (f := fun k => (tree_Up.f k l x.f0).bind fun us => if 1 ≤ us.length then (if hasStr ns x.f0 = true ∧ (us.drop 1).any (hasStr ns) = false then (if acc.length < 1000000000 then room_Share.l0 k l ns (wrap64 ((i : Int) + 1)) (acc ++ [x.f4]) else none) else room_Share.l0 k l ns (wrap64 ((i : Int) + 1)) acc) else none) (fun k => ?_) ?_
      · rw [room_Share.l0, if_pos (by omega), if_pos (by omega), hrd]
      · refine Ev.bind (tree_Up_ev l x.f0 (by omega)) ?_
        have := room_Share_l0 hr ns d (i + 1) (acc ++ [x.f4]) (by omega) (by omega) (by simp; omega)
        rw [List.append_assoc] at this
        refine Ev.congr (fun k => ?_) this
        rw [if_pos hpos, if_pos (ht.1 h), if_pos (by omega), w64 (by omega) (by omega)]
        rfl
    · rw [List.filter_cons_of_neg h]
      refine Ev.step (f := fun k => (tree_Up.f k l x.f0).bind fun us => if 1 ≤ us.length then (if hasStr ns x.f0 = true ∧ (us.drop 1).any (hasStr ns) = false then (if acc.length < 1000000000 then room_Share.l0 k l ns (wrap64 ((i : Int) + 1)) (acc ++ [x.f4]) else none) else room_Share.l0 k l ns (wrap64 ((i : Int) + 1)) acc) else none) (fun k => ?_) ?_
      · rw [room_Share.l0, if_pos (by omega), if_pos (by omega), hrd]
      · refine Ev.bind (tree_Up_ev l x.f0 (by omega)) ?_
        refine Ev.congr (fun k => ?_) (room_Share_l0 hr ns d (i + 1) acc (by omega) (by omega) (by omega))
        rw [if_pos hpos, if_neg (fun q => h (ht.2 q)), w64 (by omega) (by omega)]
        rfl
theorem room_Share_ev {l : List Item} (hr : RightP l) (ns : List ByteArray) (hn : ns.length < 1000000) : Ev (fun k => room_Share.f k l ns) ((shareV l ns).f0, (shareV l ns).f1, (shareV l ns).f2) := by
  have hlen := hr.len
  refine Ev.congr (fun k => if_pos (by omega)) ?_
  have h := room_Share_l0 hr ns _ 0 [] rfl (by omega) (by simp)
  rw [List.drop_zero, List.nil_append] at h
  refine Ev.bind h ?_
  have hf := List.length_filter_le (topB l ns) l
  refine Ev.congr (fun k => ?_) (Ev.now _)
  unfold vec_Add.f
  rw [show ((0 : Int) = (⟨0, 0, 0⟩ : Vec).f0) from rfl]
  congr 1
  exact vecAdd_items (l.filter (topB l ns)) ⟨0, 0, 0⟩ 0 small_zero (fun x hx => (hr.ok x (List.mem_filter.1 hx).1).sub) (by omega)
end Go.Proofs.Ytcgefpklljclgaa.Print

namespace Go.Proofs.Ytcgefpklljclgaa.Print
open Go.RowKit Go.Proofs.YtcgefpklljclgaaW.PrintWords Go.Proofs.YtcgefpklljclgaaW.PrintLast Go.Proofs.YtcgefpklljclgaaW.PrintMore
set_option linter.unusedVariables false
set_option linter.unusedSimpArgs false
theorem shares_awake_ev : Ev (fun k => law13_awake.f k) true := Ev.of (g := fun k => law13_awake.f k) (fun k => law13_awake.mono k) (k := 20) (by kernel_rfl)
theorem hasStr_iff {l : List ByteArray} {s : ByteArray} : hasStr l s = true ↔ s ∈ l := by
  unfold hasStr
  rw [List.any_eq_true]
  constructor
  · rintro ⟨x, hx, h⟩
    rw [nm_inj.1 (of_decide_eq_true h)]
    exact hx
  · intro h
    exact ⟨s, h, decide_eq_true rfl⟩
theorem up_cons {l : List Item} (hl : RightP l) {x : Item} (hx : x ∈ l) : up l x.f0 = x.f0 :: up l x.f1 := (Chain.cons (hl.look hx) (hl.chainAll x.f1)).up
theorem topB_iff {l : List Item} (hl : RightP l) (ns : List ByteArray) {x : Item} (hx : x ∈ l) : topB l ns x = true ↔ x.f0 ∈ ns ∧ ∀ u ∈ up l x.f1, u ∉ ns := by
  unfold topB
  rw [up_cons hl hx, Bool.and_eq_true, hasStr_iff, Bool.not_eq_true', List.drop_one, List.tail_cons, List.any_eq_false]
  constructor
  · rintro ⟨h1, h2⟩
    exact ⟨h1, fun u hu q => h2 u hu (hasStr_iff.2 q)⟩
  · rintro ⟨h1, h2⟩
    exact ⟨h1, fun u hu q => h2 u hu (hasStr_iff.1 q)⟩
theorem sumBy_filter (g : Item → Int) (p : Item → Bool) : ∀ l : List Item, sumBy g (l.filter p) = sumBy (fun x => if p x = true then g x else 0) l
  | [] => rfl
  | x :: l => by
    rw [sumBy_cons]
    by_cases h : p x = true
    · rw [List.filter_cons_of_pos h, sumBy_cons, sumBy_filter g p l, if_pos h]
    · rw [List.filter_cons_of_neg h, sumBy_filter g p l, if_neg h]; omega
theorem sumBy_swap (h : Item → Item → Int) (m : List Item) : ∀ l : List Item, sumBy (fun x => sumBy (fun y => h x y) m) l = sumBy (fun y => sumBy (fun x => h x y) l) m
  | [] => by rw [sumBy_nil]; exact (sumBy_zero (fun _ _ => sumBy_nil _)).symm
  | x :: l => by
    rw [sumBy_cons, sumBy_swap h m l, ← sumBy_add]
    exact sumBy_congr (fun y _ => (sumBy_cons (fun x => h x y) x l).symm)
theorem sumBy_par {l : List Item} (hl : RightP l) (p : ByteArray) (v : Int) : sumBy (fun x => if p = x.f0 then v else 0) l = if (look l p).isSome = true then v else 0 := by
  cases h : look l p with
  | none =>
    rw [if_neg (by simp)]
    refine sumBy_zero fun x hx => if_neg fun e => ?_
    have := hl.look hx
    rw [← e, h] at this
    cases this
  | some z =>
    obtain ⟨hz, rfl⟩ := look_mem h
    rw [if_pos (by simp)]
    refine Eq.trans (sumBy_congr (fun y _ => ?_)) (sumBy_one (v := v) hl.nodup hz)
    by_cases e : y.f0 = z.f0
    · rw [if_pos e, if_pos e.symm]
    · rw [if_neg e, if_neg (fun q => e q.symm)]
/-- what the nodes on top have in use is all own use -/
theorem top_sum {l : List Item} (hl : RightP l) (c : Comp) : sumBy (fun x => if (look l x.f1).isSome = true then 0 else c.of x.f4) l = sumBy (fun x => c.of x.f3) l := by
  have h1 : sumBy (fun x => c.of x.f4) l = sumBy (fun x => c.of x.f3) l + sumBy (fun x => csum c l x.f0) l := by
    rw [← sumBy_add]
    exact sumBy_congr (fun x hx => hl.sum c x hx)
  have h2 : sumBy (fun x => csum c l x.f0) l = sumBy (fun y => if (look l y.f1).isSome = true then c.of y.f4 else 0) l := by
    unfold csum
    rw [sumBy_swap (fun x y => if y.f1 = x.f0 then c.of y.f4 else 0) l l]
    exact sumBy_congr (fun y _ => sumBy_par hl y.f1 _)
  have h3 : sumBy (fun x => if (look l x.f1).isSome = true then 0 else c.of x.f4) l + sumBy (fun y => if (look l y.f1).isSome = true then c.of y.f4 else 0) l = sumBy (fun x => c.of x.f4) l := by
    rw [← sumBy_add]
    exact sumBy_congr (fun x _ => by split <;> omega)
  omega
def ownV (ws : List Item) : Vec := ⟨sumBy (fun x => x.f3.f0) ws, sumBy (fun x => x.f3.f1) ws, sumBy (fun x => x.f3.f2) ws⟩
theorem of_addV0 (c : Comp) (ws : List Item) : c.of (addV ⟨0, 0, 0⟩ ws) = sumBy (fun x => c.of x.f4) ws := by cases c <;> simp [addV, Comp.of]
theorem of_ownV (c : Comp) (ws : List Item) : c.of (ownV ws) = sumBy (fun x => c.of x.f3) ws := by cases c <;> rfl
theorem share_all {l : List Item} (hl : RightP l) {ns : List ByteArray} (hn : ∀ x ∈ l, x.f0 ∈ ns) : shareV l ns = ownV l := by
  refine vec_ext fun c => ?_
  unfold shareV
  rw [of_addV0, of_ownV, sumBy_filter, ← top_sum hl c]
  refine sumBy_congr fun x hx => ?_
  have hiff := topB_iff hl ns hx
  cases h : look l x.f1 with
  | none =>
    have hu : up l x.f1 = [] := upGo_none h _
    rw [if_pos (hiff.2 ⟨hn x hx, by rw [hu]; intro u hu'; cases hu'⟩), if_neg (by simp)]
  | some z =>
    obtain ⟨hz, e⟩ := look_mem h
    rw [if_neg (fun q => (hiff.1 q).2 z.f0 (by rw [e]; exact up_self h) (hn z hz)), if_pos (by simp)]
theorem share_none {l : List Item} (hl : RightP l) {ns : List ByteArray} (hn : ∀ x ∈ l, x.f0 ∉ ns) : shareV l ns = ⟨0, 0, 0⟩ := by
  refine vec_ext fun c => ?_
  unfold shareV
  rw [of_addV0, sumBy_filter, sumBy_zero (fun x hx => if_neg (fun q => hn x hx ((topB_iff hl ns hx).1 q).1))]
  cases c <;> rfl
theorem up_trans {l : List Item} (hl : RightP l) {n u v : ByteArray} (hu : u ∈ up l n) (hv : v ∈ up l u) : v ∈ up l n := by
  have h := hl.chainAll n
  generalize up l n = us at h hu ⊢
  induction h with
  | nil _ => cases hu
  | @cons n x us h k ih =>
    obtain ⟨hx, rfl⟩ := look_mem h
    rcases List.mem_cons.1 hu with rfl | hu
    · rw [(Chain.cons h k).up] at hv; exact hv
    · exact List.mem_cons_of_mem _ (ih hu)
theorem share_one {l : List Item} (hl : RightP l) {x : Item} (hx : x ∈ l) {ns : List ByteArray} (hn : ∀ s, s ∈ ns ↔ s = x.f0 ∨ ∃ y ∈ l, y.f1 = x.f0 ∧ y.f0 = s) : shareV l ns = x.f4 := by
  have hnd : x.f0 ∉ up l x.f1 := by
    have := (Chain.cons (hl.look hx) (hl.chainAll x.f1)).nodup
    exact (List.nodup_cons.1 this).1
  have key : ∀ y ∈ l, topB l ns y = decide (y.f0 = x.f0) := fun y hy => by
    rw [Bool.eq_iff_iff, topB_iff hl ns hy, decide_eq_true_iff]
    constructor
    · rintro ⟨h1, h2⟩
      rcases (hn y.f0).1 h1 with e | ⟨z, hz, e1, e2⟩
      · exact e
      · obtain rfl := hl.eq_of hz hy e2
        exact absurd ((hn x.f0).2 (.inl rfl)) (h2 x.f0 (by rw [e1]; exact up_self (hl.look hx)))
    · intro e
      obtain rfl := hl.eq_of hy hx e
      refine ⟨(hn y.f0).2 (.inl rfl), fun u hu q => ?_⟩
      rcases (hn u).1 q with e | ⟨z, hz, e1, rfl⟩
      · exact hnd (e ▸ hu)
      · exact hnd (up_trans hl hu (by rw [up_cons hl hz, e1]; exact List.mem_cons_of_mem _ (up_self (hl.look hx))))
  refine vec_ext fun c => ?_
  unfold shareV
  rw [of_addV0, sumBy_filter]
  refine Eq.trans (sumBy_congr (fun y hy => ?_)) (sumBy_one (v := c.of x.f4) hl.nodup hx)
  rw [key y hy]
  by_cases e : y.f0 = x.f0
  · obtain rfl := hl.eq_of hy hx e
    simp
  · simp [e]
theorem below_l0 (l : List Item) (n : ByteArray) (hl : l.length < 1000000) : ∀ (d i : Nat) (acc : List ByteArray), l.length - i = d → i ≤ l.length → acc.length ≤ i → Ev (fun k => r10_Below.l0 k l n acc i) (acc ++ ((l.drop i).filter (fun x => decide (x.f1 = n))).map (·.f0))
  | 0, i, acc, hd, hi, ha => by
    obtain rfl : i = l.length := by omega
    rw [List.drop_length]
    refine Ev.step (f := fun _ => some acc) (fun k => ?_) (by rw [show acc ++ (([] : List Item).filter (fun x => decide (x.f1 = n))).map (·.f0) = acc from List.append_nil _]; exact Ev.now _)
    rw [r10_Below.l0, if_neg (by omega)]
  | d + 1, i, acc, hd, hi, ha => by
    have hlt : i < l.length := by omega
    have hrd : rd_T31 l (i : Int) = l[i] := by rw [rd_item, Int.toNat_natCast]; simp [hlt]
    rw [List.drop_eq_getElem_cons hlt]
    generalize l[i] = x at *
    by_cases h : x.f1 = n
    · rw [List.filter_cons_of_pos (by exact decide_eq_true h)]
      refine Ev.step (f := fun k => r10_Below.l0 k l n (acc ++ [x.f0]) ((i + 1 : Nat) : Int)) (fun k => ?_) ?_
      · rw [r10_Below.l0, if_pos (by omega), if_pos (by omega), hrd, if_pos (nm_inj.2 h), if_pos (by omega), w64 (by omega) (by omega)]
        rfl
      · have := below_l0 l n hl d (i + 1) (acc ++ [x.f0]) (by omega) (by omega) (by simp; omega)
        rw [List.append_assoc] at this
        exact this
    · rw [List.filter_cons_of_neg (by simpa using h)]
      refine Ev.step (f := fun k => r10_Below.l0 k l n acc ((i + 1 : Nat) : Int)) (fun k => ?_) (below_l0 l n hl d (i + 1) acc (by omega) (by omega) (by omega))
      rw [r10_Below.l0, if_pos (by omega), if_pos (by omega), hrd, if_neg (fun q => h (nm_inj.1 q)), w64 (by omega) (by omega)]
      rfl
def kids (l : List Item) (n : ByteArray) : List ByteArray := (l.filter (fun x => decide (x.f1 = n))).map (·.f0)
theorem below_ev (l : List Item) (n : ByteArray) (hl : l.length < 1000000) : Ev (fun k => r10_Below.f k l n) (kids l n) := by
  have h := below_l0 l n hl _ 0 [] rfl (by omega) (by simp)
  rw [List.drop_zero, List.nil_append] at h
  exact h
theorem kids_len (l : List Item) (n : ByteArray) : (kids l n).length ≤ l.length := by unfold kids; rw [List.length_map]; exact List.length_filter_le _ _
theorem kids_mem {l : List Item} {n s : ByteArray} : s ∈ kids l n ↔ ∃ y ∈ l, y.f1 = n ∧ y.f0 = s := by
  unfold kids
  simp only [List.mem_map, List.mem_filter, decide_eq_true_eq]
  constructor
  · rintro ⟨y, ⟨h1, h2⟩, h3⟩; exact ⟨y, h1, h2, h3⟩
  · rintro ⟨y, h1, h2, h3⟩; exact ⟨y, ⟨h1, h2⟩, h3⟩
theorem shares_awake_bind : Ev (fun k => (law13_awake.f k).bind fun t => some t) true := Ev.bind shares_awake_ev (Ev.now _)
theorem shares_j1 {l : List Item} (h : MadeP l) {a : Int} (ha : 0 ≤ a ∧ a ≤ 255) : Ev (fun k => law13_RoomShares.j1 k a l false) true := by
  have hr := h.right
  have hlen := hr.len
  by_cases hz : (l.length : Int) = 0
  · refine Ev.step (fun k => ?_) shares_awake_bind
    rw [law13_RoomShares.j1, if_neg Bool.false_ne_true, if_pos hz]
  have q1 := tmod_in (a := a) (b := (l.length : Int)) ha.1 (by omega)
  have hx : rd_T31 l (Int.tmod a (l.length : Int)) ∈ l := by
    rw [rd_item, List.getD_eq_getElem?_getD, List.getElem?_eq_getElem (by omega), Option.getD_some]
    exact List.getElem_mem _
  have hw : wrap64 a = a := w64 (by omega) (by omega)
  generalize hX : rd_T31 l (Int.tmod a (l.length : Int)) = x at hx
  have hk := kids_len l x.f0
  have hsh := room_Share_ev hr ([] ++ kids l x.f0 ++ [x.f0, x.f0]) (by simp; omega)
  rw [share_one hr hx (fun s => by simp [kids_mem, or_comm])] at hsh
  refine Ev.step (f := fun k => (r10_Below.f k l x.f0).bind fun t32 => (if ([] : List ByteArray).length + t32.length < 8796093022208 then ((some ([] ++ t32 : List ByteArray)).bind fun y35 => ((some (([x.f0, x.f0] : List ByteArray) : List ByteArray)).bind fun y38 => (if y35.length + y38.length < 8796093022208 then ((room_Share.f k l (y35 ++ y38)).bind fun bt44 => (if (bt44.1 == x.f4.f0 && (bt44.2.1 == x.f4.f1 && (bt44.2.2 == x.f4.f2))) = true then ((law13_awake.f k).bind fun t47 => (some t47)) else (some false))) else (none)))) else (none))) (fun k => ?_) ?_
  · rw [law13_RoomShares.j1, if_neg Bool.false_ne_true, if_neg hz, hw, if_pos q1.1, if_pos q1.2, hX]
    rfl
  · refine Ev.bind (below_ev l x.f0 (by omega)) ?_
    have hfin : Ev (fun k => (room_Share.f k l ([] ++ kids l x.f0 ++ [x.f0, x.f0])).bind fun bt44 => (if (bt44.1 == x.f4.f0 && (bt44.2.1 == x.f4.f1 && (bt44.2.2 == x.f4.f2))) = true then ((law13_awake.f k).bind fun t47 => (some t47)) else (some false))) true := Ev.bind hsh (Ev.congr (fun k => if_pos (by simp)) shares_awake_bind)
    refine Ev.congr (fun k => ?_) hfin
    rw [if_pos (by simp; omega), Option.bind_some, Option.bind_some, if_pos (by simp; omega)]
theorem small_own {l : List Item} : ∀ {ws : List Item}, (∀ x ∈ ws, ItemOK x) → SmallV (ownV ws) ws.length
  | [], _ => fun c => by cases c <;> simp [ownV, Comp.of, sumBy_nil]
  | x :: ws, hw => fun c => by
    have h1 := small_own (l := l) (ws := ws) (fun y hy => hw y (by simp [hy])) c
    have h2 := (hw x (by simp)).own c
    rw [of_ownV, sumBy_cons, List.length_cons]
    rw [of_ownV] at h1
    omega
theorem shares_l0 {l : List Item} (h : MadeP l) {a : Int} (ha : 0 ≤ a ∧ a ≤ 255) : ∀ (j : Nat), j ≤ l.length → Ev (fun k => law13_RoomShares.l0 k a l (((l.drop j).map (·.f0)).reverse) ((j : Int) - 1) (ownV (l.drop j)).f0 (ownV (l.drop j)).f1 (ownV (l.drop j)).f2) true
  | 0, hj => by
    have hr := h.right
    have hlen := hr.len
    rw [List.drop_zero]
    have s1 := room_Share_ev hr ((l.map (·.f0)).reverse) (by simp; omega)
    rw [share_all hr (fun x hx => by simp; exact ⟨x, hx, rfl⟩)] at s1
    have s2 := room_Share_ev hr [] (by simp)
    rw [share_none hr (fun x _ => by simp)] at s2
    have s3 := room_Share_ev hr [(⟨#[110, 111, 110, 101]⟩ : ByteArray)] (by simp)
    rw [share_none hr (fun x hx => by
      obtain ⟨c, hc, _, e⟩ := h.name x hx
      rw [List.mem_singleton]
      intro q
      have h1 := (one_name hc).2
      rw [← e, q] at h1
      exact absurd h1 (by decide))] at s3
    refine Ev.step (f := fun k => (room_Share.f k l ((l.map (·.f0)).reverse)).bind fun bt14 => (if (!(bt14.1 == (ownV l).f0) || (!(bt14.2.1 == (ownV l).f1) || (!(bt14.2.2 == (ownV l).f2)))) = true then (law13_RoomShares.j1 k a l true) else ((room_Share.f k l ([] : List ByteArray)).bind fun bt17 => (if (!(bt17.1 == 0) || (!(bt17.2.1 == 0) || (!(bt17.2.2 == 0)))) = true then (law13_RoomShares.j1 k a l true) else ((room_Share.f k l (([(⟨#[110, 111, 110, 101]⟩ : ByteArray)] : List ByteArray))).bind fun bt23 => (law13_RoomShares.j1 k a l (!(bt23.1 == 0) || (!(bt23.2.1 == 0) || (!(bt23.2.2 == 0)))))))))) (fun k => ?_) ?_
    · rw [law13_RoomShares.l0, if_neg (by omega)]
    · refine Ev.bind s1 (Ev.congr (fun k => if_neg (by simp)) ?_)
      refine Ev.bind s2 (Ev.congr (fun k => if_neg (by simp)) ?_)
      exact Ev.bind s3 (shares_j1 h ha)
  | j + 1, hj => by
    have hr := h.right
    have hlen := hr.len
    have hlt : j < l.length := by omega
    have ih := shares_l0 h ha j (by omega)
    have hrd : rd_T31 l (j : Int) = l[j] := by rw [rd_item, Int.toNat_natCast]; simp [hlt]
    have hm : l[j] ∈ l := List.getElem_mem hlt
    have hsm := small_own (l := l) (ws := l.drop (j + 1)) (fun y hy => hr.ok y (List.mem_of_mem_drop hy))
    rw [List.length_drop] at hsm
    have hall : (((l.drop (j + 1)).map (·.f0)).reverse).length < 8796093022208 := by rw [List.length_reverse, List.length_map, List.length_drop]; omega
    rw [List.drop_eq_getElem_cons hlt] at ih
    generalize l[j] = x at *
    generalize l.drop (j + 1) = ws at *
    obtain ⟨e0, e1, e2⟩ := small_wrap hsm (hr.ok x hm).own (by omega)
    have c0 : (ownV (x :: ws)).f0 = (vadd (ownV ws) x.f3).f0 := by simp only [ownV, vadd, sumBy_cons]; omega
    have c1 : (ownV (x :: ws)).f1 = (vadd (ownV ws) x.f3).f1 := by simp only [ownV, vadd, sumBy_cons]; omega
    have c2 : (ownV (x :: ws)).f2 = (vadd (ownV ws) x.f3).f2 := by simp only [ownV, vadd, sumBy_cons]; omega
    refine Ev.step (fun k => ?_) ih
    rw [law13_RoomShares.l0, show ((j + 1 : Nat) : Int) - 1 = (j : Int) from by omega, if_pos (by omega), if_pos (by omega), if_pos (by omega), if_pos hall, hrd]
    unfold r10_Add.f
    rw [e0, e1, e2, w64 (by omega) (by omega), c0, c1, c2, List.map_cons, List.reverse_cons]
    rfl
end Go.Proofs.Ytcgefpklljclgaa.Print
namespace Go.Proofs.Ytcgefpklljclgaa.Pure
open Go.RowKit Go.Proofs.Ytcgefpklljclgaa.Print Go.Proofs.YtcgefpklljclgaaW.PrintWords Go.Proofs.YtcgefpklljclgaaW.PrintLast
set_option linter.unusedVariables false
set_option linter.unusedSimpArgs false
theorem RoomShares : law13_RoomShares.Pure := by
  intro l0 a1 hm hs hw w1
  have b1 := u8_bd w1
  unfold law13_RoomShares.f
  by_cases h90 : (l0.length : Int) > 90
  · exact Ev.rounds (Ev.congr (fun k => if_pos h90) shares_awake_bind)
  obtain ⟨l, hlev, hM⟩ := made_all (ns := l0) (fun x hx => u8_bd (hw x hx)) (by omega)
  refine Ev.rounds (Ev.congr (fun k => if_neg h90) (Ev.bind hlev ?_))
  have hlen := hM.right.len
  have h := shares_l0 hM b1 l.length (Nat.le_refl _)
  rw [List.drop_length] at h
  rw [w64 (by omega) (by omega)]
  exact h
end Go.Proofs.Ytcgefpklljclgaa.Pure

namespace Go.Proofs.Ytcgefpklljclgaa.Head
/-- the translation's head, sign by sign -/
def signs : List Char := [Char.ofNat 104, Char.ofNat 97, Char.ofNat 114, Char.ofNat 110, Char.ofNat 101, Char.ofNat 115, Char.ofNat 115, Char.ofNat 32, Char.ofNat 101, Char.ofNat 57, Char.ofNat 98, Char.ofNat 52, Char.ofNat 101, Char.ofNat 102, Char.ofNat 52, Char.ofNat 49, Char.ofNat 56, Char.ofNat 50, Char.ofNat 56, Char.ofNat 101, Char.ofNat 102, Char.ofNat 50, Char.ofNat 55, Char.ofNat 102, Char.ofNat 51, Char.ofNat 55, Char.ofNat 102, Char.ofNat 48, Char.ofNat 53, Char.ofNat 54, Char.ofNat 50, Char.ofNat 55, Char.ofNat 56, Char.ofNat 50, Char.ofNat 54, Char.ofNat 101, Char.ofNat 101, Char.ofNat 100, Char.ofNat 101, Char.ofNat 57, Char.ofNat 53, Char.ofNat 99, Char.ofNat 56, Char.ofNat 98, Char.ofNat 55, Char.ofNat 57, Char.ofNat 99, Char.ofNat 100, Char.ofNat 98, Char.ofNat 99, Char.ofNat 52, Char.ofNat 99, Char.ofNat 49, Char.ofNat 100, Char.ofNat 54, Char.ofNat 49, Char.ofNat 98, Char.ofNat 101, Char.ofNat 98, Char.ofNat 55, Char.ofNat 57, Char.ofNat 55, Char.ofNat 52, Char.ofNat 102, Char.ofNat 49, Char.ofNat 51, Char.ofNat 53, Char.ofNat 99, Char.ofNat 97, Char.ofNat 49, Char.ofNat 48, Char.ofNat 51, Char.ofNat 32, Char.ofNat 99, Char.ofNat 117, Char.ofNat 116, Char.ofNat 32, Char.ofNat 97, Char.ofNat 116, Char.ofNat 32, Char.ofNat 100, Char.ofNat 111, Char.ofNat 111, Char.ofNat 114, Char.ofNat 107, Char.ofNat 101, Char.ofNat 101, Char.ofNat 112, Char.ofNat 101, Char.ofNat 114, Char.ofNat 47, Char.ofNat 100, Char.ofNat 111, Char.ofNat 111, Char.ofNat 114, Char.ofNat 107, Char.ofNat 101, Char.ofNat 101, Char.ofNat 112, Char.ofNat 101, Char.ofNat 114, Char.ofNat 108, Char.ofNat 97, Char.ofNat 119, Char.ofNat 49, Char.ofNat 51, Char.ofNat 46, Char.ofNat 82, Char.ofNat 111, Char.ofNat 111, Char.ofNat 109, Char.ofNat 85, Char.ofNat 112, Char.ofNat 32, Char.ofNat 100, Char.ofNat 111, Char.ofNat 111, Char.ofNat 114, Char.ofNat 107, Char.ofNat 101, Char.ofNat 101, Char.ofNat 112, Char.ofNat 101, Char.ofNat 114, Char.ofNat 47, Char.ofNat 100, Char.ofNat 111, Char.ofNat 111, Char.ofNat 114, Char.ofNat 107, Char.ofNat 101, Char.ofNat 101, Char.ofNat 112, Char.ofNat 101, Char.ofNat 114, Char.ofNat 108, Char.ofNat 97, Char.ofNat 119, Char.ofNat 49, Char.ofNat 55, Char.ofNat 46, Char.ofNat 68, Char.ofNat 114, Char.ofNat 105, Char.ofNat 102, Char.ofNat 116, Char.ofNat 65, Char.ofNat 108, Char.ofNat 108, Char.ofNat 32, Char.ofNat 100, Char.ofNat 111, Char.ofNat 111, Char.ofNat 114, Char.ofNat 107, Char.ofNat 101, Char.ofNat 101, Char.ofNat 112, Char.ofNat 101, Char.ofNat 114, Char.ofNat 47, Char.ofNat 100, Char.ofNat 111, Char.ofNat 111, Char.ofNat 114, Char.ofNat 107, Char.ofNat 101, Char.ofNat 101, Char.ofNat 112, Char.ofNat 101, Char.ofNat 114, Char.ofNat 108, Char.ofNat 97, Char.ofNat 119, Char.ofNat 49, Char.ofNat 55, Char.ofNat 46, Char.ofNat 68, Char.ofNat 114, Char.ofNat 105, Char.ofNat 102, Char.ofNat 116, Char.ofNat 84, Char.ofNat 101, Char.ofNat 108, Char.ofNat 108, Char.ofNat 115, Char.ofNat 32, Char.ofNat 100, Char.ofNat 111, Char.ofNat 111, Char.ofNat 114, Char.ofNat 107, Char.ofNat 101, Char.ofNat 101, Char.ofNat 112, Char.ofNat 101, Char.ofNat 114, Char.ofNat 47, Char.ofNat 100, Char.ofNat 111, Char.ofNat 111, Char.ofNat 114, Char.ofNat 107, Char.ofNat 101, Char.ofNat 101, Char.ofNat 112, Char.ofNat 101, Char.ofNat 114, Char.ofNat 108, Char.ofNat 97, Char.ofNat 119, Char.ofNat 50, Char.ofNat 48, Char.ofNat 46, Char.ofNat 69, Char.ofNat 102, Char.ofNat 102, Char.ofNat 101, Char.ofNat 99, Char.ofNat 116, Char.ofNat 65, Char.ofNat 108, Char.ofNat 108, Char.ofNat 32, Char.ofNat 100, Char.ofNat 111, Char.ofNat 111, Char.ofNat 114, Char.ofNat 107, Char.ofNat 101, Char.ofNat 101, Char.ofNat 112, Char.ofNat 101, Char.ofNat 114, Char.ofNat 47, Char.ofNat 100, Char.ofNat 111, Char.ofNat 111, Char.ofNat 114, Char.ofNat 107, Char.ofNat 101, Char.ofNat 101, Char.ofNat 112, Char.ofNat 101, Char.ofNat 114, Char.ofNat 108, Char.ofNat 97, Char.ofNat 119, Char.ofNat 50, Char.ofNat 48, Char.ofNat 46, Char.ofNat 69, Char.ofNat 102, Char.ofNat 102, Char.ofNat 101, Char.ofNat 99, Char.ofNat 116, Char.ofNat 77, Char.ofNat 97, Char.ofNat 100, Char.ofNat 101, Char.ofNat 32, Char.ofNat 100, Char.ofNat 111, Char.ofNat 111, Char.ofNat 114, Char.ofNat 107, Char.ofNat 101, Char.ofNat 101, Char.ofNat 112, Char.ofNat 101, Char.ofNat 114, Char.ofNat 47, Char.ofNat 100, Char.ofNat 111, Char.ofNat 111, Char.ofNat 114, Char.ofNat 107, Char.ofNat 101, Char.ofNat 101, Char.ofNat 112, Char.ofNat 101, Char.ofNat 114, Char.ofNat 108, Char.ofNat 97, Char.ofNat 119, Char.ofNat 50, Char.ofNat 48, Char.ofNat 46, Char.ofNat 69, Char.ofNat 102, Char.ofNat 102, Char.ofNat 101, Char.ofNat 99, Char.ofNat 116, Char.ofNat 68, Char.ofNat 111, Char.ofNat 110, Char.ofNat 101, Char.ofNat 32, Char.ofNat 100, Char.ofNat 111, Char.ofNat 111, Char.ofNat 114, Char.ofNat 107, Char.ofNat 101, Char.ofNat 101, Char.ofNat 112, Char.ofNat 101, Char.ofNat 114, Char.ofNat 47, Char.ofNat 100, Char.ofNat 111, Char.ofNat 111, Char.ofNat 114, Char.ofNat 107, Char.ofNat 101, Char.ofNat 101, Char.ofNat 112, Char.ofNat 101, Char.ofNat 114, Char.ofNat 108, Char.ofNat 97, Char.ofNat 119, Char.ofNat 49, Char.ofNat 52, Char.ofNat 46, Char.ofNat 65, Char.ofNat 100, Char.ofNat 109, Char.ofNat 105, Char.ofNat 116, Char.ofNat 84, Char.ofNat 119, Char.ofNat 105, Char.ofNat 99, Char.ofNat 101, Char.ofNat 32, Char.ofNat 100, Char.ofNat 111, Char.ofNat 111, Char.ofNat 114, Char.ofNat 107, Char.ofNat 101, Char.ofNat 101, Char.ofNat 112, Char.ofNat 101, Char.ofNat 114, Char.ofNat 47, Char.ofNat 100, Char.ofNat 111, Char.ofNat 111, Char.ofNat 114, Char.ofNat 107, Char.ofNat 101, Char.ofNat 101, Char.ofNat 112, Char.ofNat 101, Char.ofNat 114, Char.ofNat 108, Char.ofNat 97, Char.ofNat 119, Char.ofNat 49, Char.ofNat 51, Char.ofNat 46, Char.ofNat 82, Char.ofNat 111, Char.ofNat 111, Char.ofNat 109, Char.ofNat 70, Char.ofNat 105, Char.ofNat 116, Char.ofNat 115, Char.ofNat 32, Char.ofNat 100, Char.ofNat 111, Char.ofNat 111, Char.ofNat 114, Char.ofNat 107, Char.ofNat 101, Char.ofNat 101, Char.ofNat 112, Char.ofNat 101, Char.ofNat 114, Char.ofNat 47, Char.ofNat 100, Char.ofNat 111, Char.ofNat 111, Char.ofNat 114, Char.ofNat 107, Char.ofNat 101, Char.ofNat 101, Char.ofNat 112, Char.ofNat 101, Char.ofNat 114, Char.ofNat 108, Char.ofNat 97, Char.ofNat 119, Char.ofNat 49, Char.ofNat 50, Char.ofNat 46, Char.ofNat 84, Char.ofNat 114, Char.ofNat 101, Char.ofNat 101, Char.ofNat 65, Char.ofNat 108, Char.ofNat 108, Char.ofNat 32, Char.ofNat 100, Char.ofNat 111, Char.ofNat 111, Char.ofNat 114, Char.ofNat 107, Char.ofNat 101, Char.ofNat 101, Char.ofNat 112, Char.ofNat 101, Char.ofNat 114, Char.ofNat 47, Char.ofNat 100, Char.ofNat 111, Char.ofNat 111, Char.ofNat 114, Char.ofNat 107, Char.ofNat 101, Char.ofNat 101, Char.ofNat 112, Char.ofNat 101, Char.ofNat 114, Char.ofNat 108, Char.ofNat 97, Char.ofNat 119, Char.ofNat 49, Char.ofNat 50, Char.ofNat 46, Char.ofNat 84, Char.ofNat 114, Char.ofNat 101, Char.ofNat 101, Char.ofNat 77, Char.ofNat 97, Char.ofNat 100, Char.ofNat 101, Char.ofNat 32, Char.ofNat 100, Char.ofNat 111, Char.ofNat 111, Char.ofNat 114, Char.ofNat 107, Char.ofNat 101, Char.ofNat 101, Char.ofNat 112, Char.ofNat 101, Char.ofNat 114, Char.ofNat 47, Char.ofNat 100, Char.ofNat 111, Char.ofNat 111, Char.ofNat 114, Char.ofNat 107, Char.ofNat 101, Char.ofNat 101, Char.ofNat 112, Char.ofNat 101, Char.ofNat 114, Char.ofNat 108, Char.ofNat 97, Char.ofNat 119, Char.ofNat 49, Char.ofNat 50, Char.ofNat 46, Char.ofNat 84, Char.ofNat 114, Char.ofNat 101, Char.ofNat 101, Char.ofNat 83, Char.ofNat 117, Char.ofNat 109, Char.ofNat 115, Char.ofNat 32, Char.ofNat 100, Char.ofNat 111, Char.ofNat 111, Char.ofNat 114, Char.ofNat 107, Char.ofNat 101, Char.ofNat 101, Char.ofNat 112, Char.ofNat 101, Char.ofNat 114, Char.ofNat 47, Char.ofNat 100, Char.ofNat 111, Char.ofNat 111, Char.ofNat 114, Char.ofNat 107, Char.ofNat 101, Char.ofNat 101, Char.ofNat 112, Char.ofNat 101, Char.ofNat 114, Char.ofNat 108, Char.ofNat 97, Char.ofNat 119, Char.ofNat 49, Char.ofNat 50, Char.ofNat 46, Char.ofNat 84, Char.ofNat 114, Char.ofNat 101, Char.ofNat 101, Char.ofNat 66, Char.ofNat 101, Char.ofNat 108, Char.ofNat 111, Char.ofNat 119, Char.ofNat 32, Char.ofNat 100, Char.ofNat 111, Char.ofNat 111, Char.ofNat 114, Char.ofNat 107, Char.ofNat 101, Char.ofNat 101, Char.ofNat 112, Char.ofNat 101, Char.ofNat 114, Char.ofNat 47, Char.ofNat 100, Char.ofNat 111, Char.ofNat 111, Char.ofNat 114, Char.ofNat 107, Char.ofNat 101, Char.ofNat 101, Char.ofNat 112, Char.ofNat 101, Char.ofNat 114, Char.ofNat 108, Char.ofNat 97, Char.ofNat 119, Char.ofNat 49, Char.ofNat 51, Char.ofNat 46, Char.ofNat 82, Char.ofNat 111, Char.ofNat 111, Char.ofNat 109, Char.ofNat 83, Char.ofNat 104, Char.ofNat 97, Char.ofNat 114, Char.ofNat 101, Char.ofNat 115, Char.ofNat 32, Char.ofNat 100, Char.ofNat 111, Char.ofNat 111, Char.ofNat 114, Char.ofNat 107, Char.ofNat 101, Char.ofNat 101, Char.ofNat 112, Char.ofNat 101, Char.ofNat 114, Char.ofNat 47, Char.ofNat 100, Char.ofNat 111, Char.ofNat 111, Char.ofNat 114, Char.ofNat 107, Char.ofNat 101, Char.ofNat 101, Char.ofNat 112, Char.ofNat 101, Char.ofNat 114, Char.ofNat 108, Char.ofNat 97, Char.ofNat 119, Char.ofNat 49, Char.ofNat 52, Char.ofNat 46, Char.ofNat 65, Char.ofNat 100, Char.ofNat 109, Char.ofNat 105, Char.ofNat 116, Char.ofNat 65, Char.ofNat 108, Char.ofNat 108, Char.ofNat 32, Char.ofNat 100, Char.ofNat 111, Char.ofNat 111, Char.ofNat 114, Char.ofNat 107, Char.ofNat 101, Char.ofNat 101, Char.ofNat 112, Char.ofNat 101, Char.ofNat 114, Char.ofNat 47, Char.ofNat 100, Char.ofNat 111, Char.ofNat 111, Char.ofNat 114, Char.ofNat 107, Char.ofNat 101, Char.ofNat 101, Char.ofNat 112, Char.ofNat 101, Char.ofNat 114, Char.ofNat 108, Char.ofNat 97, Char.ofNat 119, Char.ofNat 49, Char.ofNat 52, Char.ofNat 46, Char.ofNat 65, Char.ofNat 100, Char.ofNat 109, Char.ofNat 105, Char.ofNat 116, Char.ofNat 77, Char.ofNat 97, Char.ofNat 100, Char.ofNat 101, Char.ofNat 32, Char.ofNat 100, Char.ofNat 111, Char.ofNat 111, Char.ofNat 114, Char.ofNat 107, Char.ofNat 101, Char.ofNat 101, Char.ofNat 112, Char.ofNat 101, Char.ofNat 114, Char.ofNat 47, Char.ofNat 100, Char.ofNat 111, Char.ofNat 111, Char.ofNat 114, Char.ofNat 107, Char.ofNat 101, Char.ofNat 101, Char.ofNat 112, Char.ofNat 101, Char.ofNat 114, Char.ofNat 108, Char.ofNat 97, Char.ofNat 119, Char.ofNat 49, Char.ofNat 52, Char.ofNat 46, Char.ofNat 65, Char.ofNat 100, Char.ofNat 109, Char.ofNat 105, Char.ofNat 116, Char.ofNat 82, Char.ofNat 111, Char.ofNat 111, Char.ofNat 109, Char.ofNat 32, Char.ofNat 100, Char.ofNat 111, Char.ofNat 111, Char.ofNat 114, Char.ofNat 107, Char.ofNat 101, Char.ofNat 101, Char.ofNat 112, Char.ofNat 101, Char.ofNat 114, Char.ofNat 47, Char.ofNat 100, Char.ofNat 111, Char.ofNat 111, Char.ofNat 114, Char.ofNat 107, Char.ofNat 101, Char.ofNat 101, Char.ofNat 112, Char.ofNat 101, Char.ofNat 114, Char.ofNat 108, Char.ofNat 97, Char.ofNat 119, Char.ofNat 49, Char.ofNat 51, Char.ofNat 46, Char.ofNat 82, Char.ofNat 111, Char.ofNat 111, Char.ofNat 109, Char.ofNat 65, Char.ofNat 108, Char.ofNat 108, Char.ofNat 32, Char.ofNat 100, Char.ofNat 111, Char.ofNat 111, Char.ofNat 114, Char.ofNat 107, Char.ofNat 101, Char.ofNat 101, Char.ofNat 112, Char.ofNat 101, Char.ofNat 114, Char.ofNat 47, Char.ofNat 100, Char.ofNat 111, Char.ofNat 111, Char.ofNat 114, Char.ofNat 107, Char.ofNat 101, Char.ofNat 101, Char.ofNat 112, Char.ofNat 101, Char.ofNat 114, Char.ofNat 108, Char.ofNat 97, Char.ofNat 119, Char.ofNat 49, Char.ofNat 51, Char.ofNat 46, Char.ofNat 82, Char.ofNat 111, Char.ofNat 111, Char.ofNat 109, Char.ofNat 77, Char.ofNat 97, Char.ofNat 100, Char.ofNat 101, Char.ofNat 32, Char.ofNat 100, Char.ofNat 111, Char.ofNat 111, Char.ofNat 114, Char.ofNat 107, Char.ofNat 101, Char.ofNat 101, Char.ofNat 112, Char.ofNat 101, Char.ofNat 114, Char.ofNat 47, Char.ofNat 100, Char.ofNat 111, Char.ofNat 111, Char.ofNat 114, Char.ofNat 107, Char.ofNat 101, Char.ofNat 101, Char.ofNat 112, Char.ofNat 101, Char.ofNat 114, Char.ofNat 108, Char.ofNat 97, Char.ofNat 119, Char.ofNat 49, Char.ofNat 53, Char.ofNat 46, Char.ofNat 83, Char.ofNat 104, Char.ofNat 97, Char.ofNat 112, Char.ofNat 101, Char.ofNat 77, Char.ofNat 97, Char.ofNat 110, Char.ofNat 121, Char.ofNat 32, Char.ofNat 100, Char.ofNat 111, Char.ofNat 111, Char.ofNat 114, Char.ofNat 107, Char.ofNat 101, Char.ofNat 101, Char.ofNat 112, Char.ofNat 101, Char.ofNat 114, Char.ofNat 47, Char.ofNat 100, Char.ofNat 111, Char.ofNat 111, Char.ofNat 114, Char.ofNat 107, Char.ofNat 101, Char.ofNat 101, Char.ofNat 112, Char.ofNat 101, Char.ofNat 114, Char.ofNat 108, Char.ofNat 97, Char.ofNat 119, Char.ofNat 49, Char.ofNat 53, Char.ofNat 46, Char.ofNat 83, Char.ofNat 104, Char.ofNat 97, Char.ofNat 112, Char.ofNat 101, Char.ofNat 67, Char.ofNat 111, Char.ofNat 109, Char.ofNat 101, Char.ofNat 115, Char.ofNat 32, Char.ofNat 100, Char.ofNat 111, Char.ofNat 111, Char.ofNat 114, Char.ofNat 107, Char.ofNat 101, Char.ofNat 101, Char.ofNat 112, Char.ofNat 101, Char.ofNat 114, Char.ofNat 47, Char.ofNat 100, Char.ofNat 111, Char.ofNat 111, Char.ofNat 114, Char.ofNat 107, Char.ofNat 101, Char.ofNat 101, Char.ofNat 112, Char.ofNat 101, Char.ofNat 114, Char.ofNat 108, Char.ofNat 97, Char.ofNat 119, Char.ofNat 49, Char.ofNat 53, Char.ofNat 46, Char.ofNat 83, Char.ofNat 104, Char.ofNat 97, Char.ofNat 112, Char.ofNat 101, Char.ofNat 76, Char.ofNat 105, Char.ofNat 109, Char.ofNat 105, Char.ofNat 116, Char.ofNat 115, Char.ofNat 32, Char.ofNat 100, Char.ofNat 111, Char.ofNat 111, Char.ofNat 114, Char.ofNat 107, Char.ofNat 101, Char.ofNat 101, Char.ofNat 112, Char.ofNat 101, Char.ofNat 114, Char.ofNat 47, Char.ofNat 100, Char.ofNat 111, Char.ofNat 111, Char.ofNat 114, Char.ofNat 107, Char.ofNat 101, Char.ofNat 101, Char.ofNat 112, Char.ofNat 101, Char.ofNat 114, Char.ofNat 108, Char.ofNat 97, Char.ofNat 119, Char.ofNat 49, Char.ofNat 53, Char.ofNat 46, Char.ofNat 83, Char.ofNat 104, Char.ofNat 97, Char.ofNat 112, Char.ofNat 101, Char.ofNat 77, Char.ofNat 111, Char.ofNat 118, Char.ofNat 101, Char.ofNat 115, Char.ofNat 32, Char.ofNat 100, Char.ofNat 111, Char.ofNat 111, Char.ofNat 114, Char.ofNat 107, Char.ofNat 101, Char.ofNat 101, Char.ofNat 112, Char.ofNat 101, Char.ofNat 114, Char.ofNat 47, Char.ofNat 100, Char.ofNat 111, Char.ofNat 111, Char.ofNat 114, Char.ofNat 107, Char.ofNat 101, Char.ofNat 101, Char.ofNat 112, Char.ofNat 101, Char.ofNat 114, Char.ofNat 108, Char.ofNat 97, Char.ofNat 119, Char.ofNat 49, Char.ofNat 53, Char.ofNat 46, Char.ofNat 83, Char.ofNat 104, Char.ofNat 97, Char.ofNat 112, Char.ofNat 101, Char.ofNat 65, Char.ofNat 108, Char.ofNat 108, Char.ofNat 32, Char.ofNat 100, Char.ofNat 111, Char.ofNat 111, Char.ofNat 114, Char.ofNat 107, Char.ofNat 101, Char.ofNat 101, Char.ofNat 112, Char.ofNat 101, Char.ofNat 114, Char.ofNat 47, Char.ofNat 100, Char.ofNat 111, Char.ofNat 111, Char.ofNat 114, Char.ofNat 107, Char.ofNat 101, Char.ofNat 101, Char.ofNat 112, Char.ofNat 101, Char.ofNat 114, Char.ofNat 108, Char.ofNat 97, Char.ofNat 119, Char.ofNat 49, Char.ofNat 53, Char.ofNat 46, Char.ofNat 83, Char.ofNat 104, Char.ofNat 97, Char.ofNat 112, Char.ofNat 101, Char.ofNat 77, Char.ofNat 97, Char.ofNat 100, Char.ofNat 101, Char.ofNat 32, Char.ofNat 100, Char.ofNat 111, Char.ofNat 111, Char.ofNat 114, Char.ofNat 107, Char.ofNat 101, Char.ofNat 101, Char.ofNat 112, Char.ofNat 101, Char.ofNat 114, Char.ofNat 47, Char.ofNat 100, Char.ofNat 111, Char.ofNat 111, Char.ofNat 114, Char.ofNat 107, Char.ofNat 101, Char.ofNat 101, Char.ofNat 112, Char.ofNat 101, Char.ofNat 114, Char.ofNat 108, Char.ofNat 97, Char.ofNat 119, Char.ofNat 49, Char.ofNat 53, Char.ofNat 46, Char.ofNat 83, Char.ofNat 104, Char.ofNat 97, Char.ofNat 112, Char.ofNat 101, Char.ofNat 82, Char.ofNat 101, Char.ofNat 115, Char.ofNat 116, Char.ofNat 32, Char.ofNat 100, Char.ofNat 111, Char.ofNat 111, Char.ofNat 114, Char.ofNat 107, Char.ofNat 101, Char.ofNat 101, Char.ofNat 112, Char.ofNat 101, Char.ofNat 114, Char.ofNat 47, Char.ofNat 100, Char.ofNat 111, Char.ofNat 111, Char.ofNat 114, Char.ofNat 107, Char.ofNat 101, Char.ofNat 101, Char.ofNat 112, Char.ofNat 101, Char.ofNat 114, Char.ofNat 108, Char.ofNat 97, Char.ofNat 119, Char.ofNat 49, Char.ofNat 57, Char.ofNat 46, Char.ofNat 84, Char.ofNat 114, Char.ofNat 105, Char.ofNat 97, Char.ofNat 108, Char.ofNat 67, Char.ofNat 117, Char.ofNat 116, Char.ofNat 115, Char.ofNat 32, Char.ofNat 100, Char.ofNat 111, Char.ofNat 111, Char.ofNat 114, Char.ofNat 107, Char.ofNat 101, Char.ofNat 101, Char.ofNat 112, Char.ofNat 101, Char.ofNat 114, Char.ofNat 47, Char.ofNat 100, Char.ofNat 111, Char.ofNat 111, Char.ofNat 114, Char.ofNat 107, Char.ofNat 101, Char.ofNat 101, Char.ofNat 112, Char.ofNat 101, Char.ofNat 114, Char.ofNat 108, Char.ofNat 97, Char.ofNat 119, Char.ofNat 49, Char.ofNat 57, Char.ofNat 46, Char.ofNat 84, Char.ofNat 114, Char.ofNat 105, Char.ofNat 97, Char.ofNat 108, Char.ofNat 65, Char.ofNat 108, Char.ofNat 108, Char.ofNat 32, Char.ofNat 100, Char.ofNat 111, Char.ofNat 111, Char.ofNat 114, Char.ofNat 107, Char.ofNat 101, Char.ofNat 101, Char.ofNat 112, Char.ofNat 101, Char.ofNat 114, Char.ofNat 47, Char.ofNat 100, Char.ofNat 111, Char.ofNat 111, Char.ofNat 114, Char.ofNat 107, Char.ofNat 101, Char.ofNat 101, Char.ofNat 112, Char.ofNat 101, Char.ofNat 114, Char.ofNat 108, Char.ofNat 97, Char.ofNat 119, Char.ofNat 49, Char.ofNat 57, Char.ofNat 46, Char.ofNat 84, Char.ofNat 114, Char.ofNat 105, Char.ofNat 97, Char.ofNat 108, Char.ofNat 77, Char.ofNat 97, Char.ofNat 100, Char.ofNat 101]
set_option maxRecDepth 100000 in
theorem word : Try.prog.initOrder = String.ofList signs := by kernel_rfl
theorem list : Try.prog.initOrder.toList = signs := by rw [word, String.toList_ofList]
theorem words_app : ∀ (w r : List Char), (∀ c ∈ w, c ≠ Char.ofNat 32) → wordsSigns (w ++ Char.ofNat 32 :: r) = w :: wordsSigns r
  | [], r, _ => rfl
  | c :: w, r, h => by
    have hc : c ≠ Char.ofNat 32 := h c (by simp)
    have ih := words_app w r (fun d hd => h d (by simp [hd]))
    show wordsSigns (c :: (w ++ Char.ofNat 32 :: r)) = _
    rw [wordsSigns.eq_3 _ _ (fun q => hc q), ih]
def w1 : List Char := [Char.ofNat 104, Char.ofNat 97, Char.ofNat 114, Char.ofNat 110, Char.ofNat 101, Char.ofNat 115, Char.ofNat 115]
def w2 : List Char := [Char.ofNat 101, Char.ofNat 57, Char.ofNat 98, Char.ofNat 52, Char.ofNat 101, Char.ofNat 102, Char.ofNat 52, Char.ofNat 49, Char.ofNat 56, Char.ofNat 50, Char.ofNat 56, Char.ofNat 101, Char.ofNat 102, Char.ofNat 50, Char.ofNat 55, Char.ofNat 102, Char.ofNat 51, Char.ofNat 55, Char.ofNat 102, Char.ofNat 48, Char.ofNat 53, Char.ofNat 54, Char.ofNat 50, Char.ofNat 55, Char.ofNat 56, Char.ofNat 50, Char.ofNat 54, Char.ofNat 101, Char.ofNat 101, Char.ofNat 100, Char.ofNat 101, Char.ofNat 57, Char.ofNat 53, Char.ofNat 99, Char.ofNat 56, Char.ofNat 98, Char.ofNat 55, Char.ofNat 57, Char.ofNat 99, Char.ofNat 100, Char.ofNat 98, Char.ofNat 99, Char.ofNat 52, Char.ofNat 99, Char.ofNat 49, Char.ofNat 100, Char.ofNat 54, Char.ofNat 49, Char.ofNat 98, Char.ofNat 101, Char.ofNat 98, Char.ofNat 55, Char.ofNat 57, Char.ofNat 55, Char.ofNat 52, Char.ofNat 102, Char.ofNat 49, Char.ofNat 51, Char.ofNat 53, Char.ofNat 99, Char.ofNat 97, Char.ofNat 49, Char.ofNat 48, Char.ofNat 51]
def w3 : List Char := [Char.ofNat 99, Char.ofNat 117, Char.ofNat 116]
def rest : List Char := [Char.ofNat 97, Char.ofNat 116, Char.ofNat 32, Char.ofNat 100, Char.ofNat 111, Char.ofNat 111, Char.ofNat 114, Char.ofNat 107, Char.ofNat 101, Char.ofNat 101, Char.ofNat 112, Char.ofNat 101, Char.ofNat 114, Char.ofNat 47, Char.ofNat 100, Char.ofNat 111, Char.ofNat 111, Char.ofNat 114, Char.ofNat 107, Char.ofNat 101, Char.ofNat 101, Char.ofNat 112, Char.ofNat 101, Char.ofNat 114, Char.ofNat 108, Char.ofNat 97, Char.ofNat 119, Char.ofNat 49, Char.ofNat 51, Char.ofNat 46, Char.ofNat 82, Char.ofNat 111, Char.ofNat 111, Char.ofNat 109, Char.ofNat 85, Char.ofNat 112, Char.ofNat 32, Char.ofNat 100, Char.ofNat 111, Char.ofNat 111, Char.ofNat 114, Char.ofNat 107, Char.ofNat 101, Char.ofNat 101, Char.ofNat 112, Char.ofNat 101, Char.ofNat 114, Char.ofNat 47, Char.ofNat 100, Char.ofNat 111, Char.ofNat 111, Char.ofNat 114, Char.ofNat 107, Char.ofNat 101, Char.ofNat 101, Char.ofNat 112, Char.ofNat 101, Char.ofNat 114, Char.ofNat 108, Char.ofNat 97, Char.ofNat 119, Char.ofNat 49, Char.ofNat 55, Char.ofNat 46, Char.ofNat 68, Char.ofNat 114, Char.ofNat 105, Char.ofNat 102, Char.ofNat 116, Char.ofNat 65, Char.ofNat 108, Char.ofNat 108, Char.ofNat 32, Char.ofNat 100, Char.ofNat 111, Char.ofNat 111, Char.ofNat 114, Char.ofNat 107, Char.ofNat 101, Char.ofNat 101, Char.ofNat 112, Char.ofNat 101, Char.ofNat 114, Char.ofNat 47, Char.ofNat 100, Char.ofNat 111, Char.ofNat 111, Char.ofNat 114, Char.ofNat 107, Char.ofNat 101, Char.ofNat 101, Char.ofNat 112, Char.ofNat 101, Char.ofNat 114, Char.ofNat 108, Char.ofNat 97, Char.ofNat 119, Char.ofNat 49, Char.ofNat 55, Char.ofNat 46, Char.ofNat 68, Char.ofNat 114, Char.ofNat 105, Char.ofNat 102, Char.ofNat 116, Char.ofNat 84, Char.ofNat 101, Char.ofNat 108, Char.ofNat 108, Char.ofNat 115, Char.ofNat 32, Char.ofNat 100, Char.ofNat 111, Char.ofNat 111, Char.ofNat 114, Char.ofNat 107, Char.ofNat 101, Char.ofNat 101, Char.ofNat 112, Char.ofNat 101, Char.ofNat 114, Char.ofNat 47, Char.ofNat 100, Char.ofNat 111, Char.ofNat 111, Char.ofNat 114, Char.ofNat 107, Char.ofNat 101, Char.ofNat 101, Char.ofNat 112, Char.ofNat 101, Char.ofNat 114, Char.ofNat 108, Char.ofNat 97, Char.ofNat 119, Char.ofNat 50, Char.ofNat 48, Char.ofNat 46, Char.ofNat 69, Char.ofNat 102, Char.ofNat 102, Char.ofNat 101, Char.ofNat 99, Char.ofNat 116, Char.ofNat 65, Char.ofNat 108, Char.ofNat 108, Char.ofNat 32, Char.ofNat 100, Char.ofNat 111, Char.ofNat 111, Char.ofNat 114, Char.ofNat 107, Char.ofNat 101, Char.ofNat 101, Char.ofNat 112, Char.ofNat 101, Char.ofNat 114, Char.ofNat 47, Char.ofNat 100, Char.ofNat 111, Char.ofNat 111, Char.ofNat 114, Char.ofNat 107, Char.ofNat 101, Char.ofNat 101, Char.ofNat 112, Char.ofNat 101, Char.ofNat 114, Char.ofNat 108, Char.ofNat 97, Char.ofNat 119, Char.ofNat 50, Char.ofNat 48, Char.ofNat 46, Char.ofNat 69, Char.ofNat 102, Char.ofNat 102, Char.ofNat 101, Char.ofNat 99, Char.ofNat 116, Char.ofNat 77, Char.ofNat 97, Char.ofNat 100, Char.ofNat 101, Char.ofNat 32, Char.ofNat 100, Char.ofNat 111, Char.ofNat 111, Char.ofNat 114, Char.ofNat 107, Char.ofNat 101, Char.ofNat 101, Char.ofNat 112, Char.ofNat 101, Char.ofNat 114, Char.ofNat 47, Char.ofNat 100, Char.ofNat 111, Char.ofNat 111, Char.ofNat 114, Char.ofNat 107, Char.ofNat 101, Char.ofNat 101, Char.ofNat 112, Char.ofNat 101, Char.ofNat 114, Char.ofNat 108, Char.ofNat 97, Char.ofNat 119, Char.ofNat 50, Char.ofNat 48, Char.ofNat 46, Char.ofNat 69, Char.ofNat 102, Char.ofNat 102, Char.ofNat 101, Char.ofNat 99, Char.ofNat 116, Char.ofNat 68, Char.ofNat 111, Char.ofNat 110, Char.ofNat 101, Char.ofNat 32, Char.ofNat 100, Char.ofNat 111, Char.ofNat 111, Char.ofNat 114, Char.ofNat 107, Char.ofNat 101, Char.ofNat 101, Char.ofNat 112, Char.ofNat 101, Char.ofNat 114, Char.ofNat 47, Char.ofNat 100, Char.ofNat 111, Char.ofNat 111, Char.ofNat 114, Char.ofNat 107, Char.ofNat 101, Char.ofNat 101, Char.ofNat 112, Char.ofNat 101, Char.ofNat 114, Char.ofNat 108, Char.ofNat 97, Char.ofNat 119, Char.ofNat 49, Char.ofNat 52, Char.ofNat 46, Char.ofNat 65, Char.ofNat 100, Char.ofNat 109, Char.ofNat 105, Char.ofNat 116, Char.ofNat 84, Char.ofNat 119, Char.ofNat 105, Char.ofNat 99, Char.ofNat 101, Char.ofNat 32, Char.ofNat 100, Char.ofNat 111, Char.ofNat 111, Char.ofNat 114, Char.ofNat 107, Char.ofNat 101, Char.ofNat 101, Char.ofNat 112, Char.ofNat 101, Char.ofNat 114, Char.ofNat 47, Char.ofNat 100, Char.ofNat 111, Char.ofNat 111, Char.ofNat 114, Char.ofNat 107, Char.ofNat 101, Char.ofNat 101, Char.ofNat 112, Char.ofNat 101, Char.ofNat 114, Char.ofNat 108, Char.ofNat 97, Char.ofNat 119, Char.ofNat 49, Char.ofNat 51, Char.ofNat 46, Char.ofNat 82, Char.ofNat 111, Char.ofNat 111, Char.ofNat 109, Char.ofNat 70, Char.ofNat 105, Char.ofNat 116, Char.ofNat 115, Char.ofNat 32, Char.ofNat 100, Char.ofNat 111, Char.ofNat 111, Char.ofNat 114, Char.ofNat 107, Char.ofNat 101, Char.ofNat 101, Char.ofNat 112, Char.ofNat 101, Char.ofNat 114, Char.ofNat 47, Char.ofNat 100, Char.ofNat 111, Char.ofNat 111, Char.ofNat 114, Char.ofNat 107, Char.ofNat 101, Char.ofNat 101, Char.ofNat 112, Char.ofNat 101, Char.ofNat 114, Char.ofNat 108, Char.ofNat 97, Char.ofNat 119, Char.ofNat 49, Char.ofNat 50, Char.ofNat 46, Char.ofNat 84, Char.ofNat 114, Char.ofNat 101, Char.ofNat 101, Char.ofNat 65, Char.ofNat 108, Char.ofNat 108, Char.ofNat 32, Char.ofNat 100, Char.ofNat 111, Char.ofNat 111, Char.ofNat 114, Char.ofNat 107, Char.ofNat 101, Char.ofNat 101, Char.ofNat 112, Char.ofNat 101, Char.ofNat 114, Char.ofNat 47, Char.ofNat 100, Char.ofNat 111, Char.ofNat 111, Char.ofNat 114, Char.ofNat 107, Char.ofNat 101, Char.ofNat 101, Char.ofNat 112, Char.ofNat 101, Char.ofNat 114, Char.ofNat 108, Char.ofNat 97, Char.ofNat 119, Char.ofNat 49, Char.ofNat 50, Char.ofNat 46, Char.ofNat 84, Char.ofNat 114, Char.ofNat 101, Char.ofNat 101, Char.ofNat 77, Char.ofNat 97, Char.ofNat 100, Char.ofNat 101, Char.ofNat 32, Char.ofNat 100, Char.ofNat 111, Char.ofNat 111, Char.ofNat 114, Char.ofNat 107, Char.ofNat 101, Char.ofNat 101, Char.ofNat 112, Char.ofNat 101, Char.ofNat 114, Char.ofNat 47, Char.ofNat 100, Char.ofNat 111, Char.ofNat 111, Char.ofNat 114, Char.ofNat 107, Char.ofNat 101, Char.ofNat 101, Char.ofNat 112, Char.ofNat 101, Char.ofNat 114, Char.ofNat 108, Char.ofNat 97, Char.ofNat 119, Char.ofNat 49, Char.ofNat 50, Char.ofNat 46, Char.ofNat 84, Char.ofNat 114, Char.ofNat 101, Char.ofNat 101, Char.ofNat 83, Char.ofNat 117, Char.ofNat 109, Char.ofNat 115, Char.ofNat 32, Char.ofNat 100, Char.ofNat 111, Char.ofNat 111, Char.ofNat 114, Char.ofNat 107, Char.ofNat 101, Char.ofNat 101, Char.ofNat 112, Char.ofNat 101, Char.ofNat 114, Char.ofNat 47, Char.ofNat 100, Char.ofNat 111, Char.ofNat 111, Char.ofNat 114, Char.ofNat 107, Char.ofNat 101, Char.ofNat 101, Char.ofNat 112, Char.ofNat 101, Char.ofNat 114, Char.ofNat 108, Char.ofNat 97, Char.ofNat 119, Char.ofNat 49, Char.ofNat 50, Char.ofNat 46, Char.ofNat 84, Char.ofNat 114, Char.ofNat 101, Char.ofNat 101, Char.ofNat 66, Char.ofNat 101, Char.ofNat 108, Char.ofNat 111, Char.ofNat 119, Char.ofNat 32, Char.ofNat 100, Char.ofNat 111, Char.ofNat 111, Char.ofNat 114, Char.ofNat 107, Char.ofNat 101, Char.ofNat 101, Char.ofNat 112, Char.ofNat 101, Char.ofNat 114, Char.ofNat 47, Char.ofNat 100, Char.ofNat 111, Char.ofNat 111, Char.ofNat 114, Char.ofNat 107, Char.ofNat 101, Char.ofNat 101, Char.ofNat 112, Char.ofNat 101, Char.ofNat 114, Char.ofNat 108, Char.ofNat 97, Char.ofNat 119, Char.ofNat 49, Char.ofNat 51, Char.ofNat 46, Char.ofNat 82, Char.ofNat 111, Char.ofNat 111, Char.ofNat 109, Char.ofNat 83, Char.ofNat 104, Char.ofNat 97, Char.ofNat 114, Char.ofNat 101, Char.ofNat 115, Char.ofNat 32, Char.ofNat 100, Char.ofNat 111, Char.ofNat 111, Char.ofNat 114, Char.ofNat 107, Char.ofNat 101, Char.ofNat 101, Char.ofNat 112, Char.ofNat 101, Char.ofNat 114, Char.ofNat 47, Char.ofNat 100, Char.ofNat 111, Char.ofNat 111, Char.ofNat 114, Char.ofNat 107, Char.ofNat 101, Char.ofNat 101, Char.ofNat 112, Char.ofNat 101, Char.ofNat 114, Char.ofNat 108, Char.ofNat 97, Char.ofNat 119, Char.ofNat 49, Char.ofNat 52, Char.ofNat 46, Char.ofNat 65, Char.ofNat 100, Char.ofNat 109, Char.ofNat 105, Char.ofNat 116, Char.ofNat 65, Char.ofNat 108, Char.ofNat 108, Char.ofNat 32, Char.ofNat 100, Char.ofNat 111, Char.ofNat 111, Char.ofNat 114, Char.ofNat 107, Char.ofNat 101, Char.ofNat 101, Char.ofNat 112, Char.ofNat 101, Char.ofNat 114, Char.ofNat 47, Char.ofNat 100, Char.ofNat 111, Char.ofNat 111, Char.ofNat 114, Char.ofNat 107, Char.ofNat 101, Char.ofNat 101, Char.ofNat 112, Char.ofNat 101, Char.ofNat 114, Char.ofNat 108, Char.ofNat 97, Char.ofNat 119, Char.ofNat 49, Char.ofNat 52, Char.ofNat 46, Char.ofNat 65, Char.ofNat 100, Char.ofNat 109, Char.ofNat 105, Char.ofNat 116, Char.ofNat 77, Char.ofNat 97, Char.ofNat 100, Char.ofNat 101, Char.ofNat 32, Char.ofNat 100, Char.ofNat 111, Char.ofNat 111, Char.ofNat 114, Char.ofNat 107, Char.ofNat 101, Char.ofNat 101, Char.ofNat 112, Char.ofNat 101, Char.ofNat 114, Char.ofNat 47, Char.ofNat 100, Char.ofNat 111, Char.ofNat 111, Char.ofNat 114, Char.ofNat 107, Char.ofNat 101, Char.ofNat 101, Char.ofNat 112, Char.ofNat 101, Char.ofNat 114, Char.ofNat 108, Char.ofNat 97, Char.ofNat 119, Char.ofNat 49, Char.ofNat 52, Char.ofNat 46, Char.ofNat 65, Char.ofNat 100, Char.ofNat 109, Char.ofNat 105, Char.ofNat 116, Char.ofNat 82, Char.ofNat 111, Char.ofNat 111, Char.ofNat 109, Char.ofNat 32, Char.ofNat 100, Char.ofNat 111, Char.ofNat 111, Char.ofNat 114, Char.ofNat 107, Char.ofNat 101, Char.ofNat 101, Char.ofNat 112, Char.ofNat 101, Char.ofNat 114, Char.ofNat 47, Char.ofNat 100, Char.ofNat 111, Char.ofNat 111, Char.ofNat 114, Char.ofNat 107, Char.ofNat 101, Char.ofNat 101, Char.ofNat 112, Char.ofNat 101, Char.ofNat 114, Char.ofNat 108, Char.ofNat 97, Char.ofNat 119, Char.ofNat 49, Char.ofNat 51, Char.ofNat 46, Char.ofNat 82, Char.ofNat 111, Char.ofNat 111, Char.ofNat 109, Char.ofNat 65, Char.ofNat 108, Char.ofNat 108, Char.ofNat 32, Char.ofNat 100, Char.ofNat 111, Char.ofNat 111, Char.ofNat 114, Char.ofNat 107, Char.ofNat 101, Char.ofNat 101, Char.ofNat 112, Char.ofNat 101, Char.ofNat 114, Char.ofNat 47, Char.ofNat 100, Char.ofNat 111, Char.ofNat 111, Char.ofNat 114, Char.ofNat 107, Char.ofNat 101, Char.ofNat 101, Char.ofNat 112, Char.ofNat 101, Char.ofNat 114, Char.ofNat 108, Char.ofNat 97, Char.ofNat 119, Char.ofNat 49, Char.ofNat 51, Char.ofNat 46, Char.ofNat 82, Char.ofNat 111, Char.ofNat 111, Char.ofNat 109, Char.ofNat 77, Char.ofNat 97, Char.ofNat 100, Char.ofNat 101, Char.ofNat 32, Char.ofNat 100, Char.ofNat 111, Char.ofNat 111, Char.ofNat 114, Char.ofNat 107, Char.ofNat 101, Char.ofNat 101, Char.ofNat 112, Char.ofNat 101, Char.ofNat 114, Char.ofNat 47, Char.ofNat 100, Char.ofNat 111, Char.ofNat 111, Char.ofNat 114, Char.ofNat 107, Char.ofNat 101, Char.ofNat 101, Char.ofNat 112, Char.ofNat 101, Char.ofNat 114, Char.ofNat 108, Char.ofNat 97, Char.ofNat 119, Char.ofNat 49, Char.ofNat 53, Char.ofNat 46, Char.ofNat 83, Char.ofNat 104, Char.ofNat 97, Char.ofNat 112, Char.ofNat 101, Char.ofNat 77, Char.ofNat 97, Char.ofNat 110, Char.ofNat 121, Char.ofNat 32, Char.ofNat 100, Char.ofNat 111, Char.ofNat 111, Char.ofNat 114, Char.ofNat 107, Char.ofNat 101, Char.ofNat 101, Char.ofNat 112, Char.ofNat 101, Char.ofNat 114, Char.ofNat 47, Char.ofNat 100, Char.ofNat 111, Char.ofNat 111, Char.ofNat 114, Char.ofNat 107, Char.ofNat 101, Char.ofNat 101, Char.ofNat 112, Char.ofNat 101, Char.ofNat 114, Char.ofNat 108, Char.ofNat 97, Char.ofNat 119, Char.ofNat 49, Char.ofNat 53, Char.ofNat 46, Char.ofNat 83, Char.ofNat 104, Char.ofNat 97, Char.ofNat 112, Char.ofNat 101, Char.ofNat 67, Char.ofNat 111, Char.ofNat 109, Char.ofNat 101, Char.ofNat 115, Char.ofNat 32, Char.ofNat 100, Char.ofNat 111, Char.ofNat 111, Char.ofNat 114, Char.ofNat 107, Char.ofNat 101, Char.ofNat 101, Char.ofNat 112, Char.ofNat 101, Char.ofNat 114, Char.ofNat 47, Char.ofNat 100, Char.ofNat 111, Char.ofNat 111, Char.ofNat 114, Char.ofNat 107, Char.ofNat 101, Char.ofNat 101, Char.ofNat 112, Char.ofNat 101, Char.ofNat 114, Char.ofNat 108, Char.ofNat 97, Char.ofNat 119, Char.ofNat 49, Char.ofNat 53, Char.ofNat 46, Char.ofNat 83, Char.ofNat 104, Char.ofNat 97, Char.ofNat 112, Char.ofNat 101, Char.ofNat 76, Char.ofNat 105, Char.ofNat 109, Char.ofNat 105, Char.ofNat 116, Char.ofNat 115, Char.ofNat 32, Char.ofNat 100, Char.ofNat 111, Char.ofNat 111, Char.ofNat 114, Char.ofNat 107, Char.ofNat 101, Char.ofNat 101, Char.ofNat 112, Char.ofNat 101, Char.ofNat 114, Char.ofNat 47, Char.ofNat 100, Char.ofNat 111, Char.ofNat 111, Char.ofNat 114, Char.ofNat 107, Char.ofNat 101, Char.ofNat 101, Char.ofNat 112, Char.ofNat 101, Char.ofNat 114, Char.ofNat 108, Char.ofNat 97, Char.ofNat 119, Char.ofNat 49, Char.ofNat 53, Char.ofNat 46, Char.ofNat 83, Char.ofNat 104, Char.ofNat 97, Char.ofNat 112, Char.ofNat 101, Char.ofNat 77, Char.ofNat 111, Char.ofNat 118, Char.ofNat 101, Char.ofNat 115, Char.ofNat 32, Char.ofNat 100, Char.ofNat 111, Char.ofNat 111, Char.ofNat 114, Char.ofNat 107, Char.ofNat 101, Char.ofNat 101, Char.ofNat 112, Char.ofNat 101, Char.ofNat 114, Char.ofNat 47, Char.ofNat 100, Char.ofNat 111, Char.ofNat 111, Char.ofNat 114, Char.ofNat 107, Char.ofNat 101, Char.ofNat 101, Char.ofNat 112, Char.ofNat 101, Char.ofNat 114, Char.ofNat 108, Char.ofNat 97, Char.ofNat 119, Char.ofNat 49, Char.ofNat 53, Char.ofNat 46, Char.ofNat 83, Char.ofNat 104, Char.ofNat 97, Char.ofNat 112, Char.ofNat 101, Char.ofNat 65, Char.ofNat 108, Char.ofNat 108, Char.ofNat 32, Char.ofNat 100, Char.ofNat 111, Char.ofNat 111, Char.ofNat 114, Char.ofNat 107, Char.ofNat 101, Char.ofNat 101, Char.ofNat 112, Char.ofNat 101, Char.ofNat 114, Char.ofNat 47, Char.ofNat 100, Char.ofNat 111, Char.ofNat 111, Char.ofNat 114, Char.ofNat 107, Char.ofNat 101, Char.ofNat 101, Char.ofNat 112, Char.ofNat 101, Char.ofNat 114, Char.ofNat 108, Char.ofNat 97, Char.ofNat 119, Char.ofNat 49, Char.ofNat 53, Char.ofNat 46, Char.ofNat 83, Char.ofNat 104, Char.ofNat 97, Char.ofNat 112, Char.ofNat 101, Char.ofNat 77, Char.ofNat 97, Char.ofNat 100, Char.ofNat 101, Char.ofNat 32, Char.ofNat 100, Char.ofNat 111, Char.ofNat 111, Char.ofNat 114, Char.ofNat 107, Char.ofNat 101, Char.ofNat 101, Char.ofNat 112, Char.ofNat 101, Char.ofNat 114, Char.ofNat 47, Char.ofNat 100, Char.ofNat 111, Char.ofNat 111, Char.ofNat 114, Char.ofNat 107, Char.ofNat 101, Char.ofNat 101, Char.ofNat 112, Char.ofNat 101, Char.ofNat 114, Char.ofNat 108, Char.ofNat 97, Char.ofNat 119, Char.ofNat 49, Char.ofNat 53, Char.ofNat 46, Char.ofNat 83, Char.ofNat 104, Char.ofNat 97, Char.ofNat 112, Char.ofNat 101, Char.ofNat 82, Char.ofNat 101, Char.ofNat 115, Char.ofNat 116, Char.ofNat 32, Char.ofNat 100, Char.ofNat 111, Char.ofNat 111, Char.ofNat 114, Char.ofNat 107, Char.ofNat 101, Char.ofNat 101, Char.ofNat 112, Char.ofNat 101, Char.ofNat 114, Char.ofNat 47, Char.ofNat 100, Char.ofNat 111, Char.ofNat 111, Char.ofNat 114, Char.ofNat 107, Char.ofNat 101, Char.ofNat 101, Char.ofNat 112, Char.ofNat 101, Char.ofNat 114, Char.ofNat 108, Char.ofNat 97, Char.ofNat 119, Char.ofNat 49, Char.ofNat 57, Char.ofNat 46, Char.ofNat 84, Char.ofNat 114, Char.ofNat 105, Char.ofNat 97, Char.ofNat 108, Char.ofNat 67, Char.ofNat 117, Char.ofNat 116, Char.ofNat 115, Char.ofNat 32, Char.ofNat 100, Char.ofNat 111, Char.ofNat 111, Char.ofNat 114, Char.ofNat 107, Char.ofNat 101, Char.ofNat 101, Char.ofNat 112, Char.ofNat 101, Char.ofNat 114, Char.ofNat 47, Char.ofNat 100, Char.ofNat 111, Char.ofNat 111, Char.ofNat 114, Char.ofNat 107, Char.ofNat 101, Char.ofNat 101, Char.ofNat 112, Char.ofNat 101, Char.ofNat 114, Char.ofNat 108, Char.ofNat 97, Char.ofNat 119, Char.ofNat 49, Char.ofNat 57, Char.ofNat 46, Char.ofNat 84, Char.ofNat 114, Char.ofNat 105, Char.ofNat 97, Char.ofNat 108, Char.ofNat 65, Char.ofNat 108, Char.ofNat 108, Char.ofNat 32, Char.ofNat 100, Char.ofNat 111, Char.ofNat 111, Char.ofNat 114, Char.ofNat 107, Char.ofNat 101, Char.ofNat 101, Char.ofNat 112, Char.ofNat 101, Char.ofNat 114, Char.ofNat 47, Char.ofNat 100, Char.ofNat 111, Char.ofNat 111, Char.ofNat 114, Char.ofNat 107, Char.ofNat 101, Char.ofNat 101, Char.ofNat 112, Char.ofNat 101, Char.ofNat 114, Char.ofNat 108, Char.ofNat 97, Char.ofNat 119, Char.ofNat 49, Char.ofNat 57, Char.ofNat 46, Char.ofNat 84, Char.ofNat 114, Char.ofNat 105, Char.ofNat 97, Char.ofNat 108, Char.ofNat 77, Char.ofNat 97, Char.ofNat 100, Char.ofNat 101]
theorem parts : signs = w1 ++ Char.ofNat 32 :: (w2 ++ Char.ofNat 32 :: (w3 ++ Char.ofNat 32 :: rest)) := by kernel_rfl
theorem behind : ∃ r, behindMainWord (wordsSigns Try.prog.initOrder.toList) = w3 :: r := by
  refine ⟨wordsSigns rest, ?_⟩
  rw [list, parts, words_app w1 _ (by decide), words_app w2 _ (by decide), words_app w3 _ (by decide)]
  generalize wordsSigns rest = r
  rfl
theorem strip (r : List (List Char)) : stripLifts liftWords (w3 :: r) = ([], w3 :: r) := by kernel_rfl
theorem not_carried (r : List (List Char)) : ((w3 :: r).head? == some "carried".toList) = false := by kernel_rfl
theorem is_cut (r : List (List Char)) : ((w3 :: r).head? == some "cut".toList) = true := by kernel_rfl
theorem not_gc : (w3 == "gc".toList || w3 == "spec".toList) = false := by kernel_rfl
theorem cut_ : (w3 == "cut".toList) = true := by kernel_rfl
theorem lifts_of {P : Program} {r : List (List Char)} (h : behindMainWord (wordsSigns P.initOrder.toList) = w3 :: r) : P.liftsFinal = false := by
  unfold Program.liftsFinal Program.headLifts
  simp only [h, strip, not_carried, is_cut, if_true, Bool.false_and, Bool.false_or, List.contains_nil]
theorem make_of {P : Program} {r : List (List Char)} (h : behindMainWord (wordsSigns P.initOrder.toList) = w3 :: r) : P.make = some .cut := by
  unfold Program.make
  simp only [h, not_gc, cut_, Bool.true_or, if_true, Bool.false_eq_true, if_false]
theorem lifts : Try.prog.liftsFinal = false := by obtain ⟨r, h⟩ := behind; exact lifts_of h
theorem make : Try.prog.make = some .cut := by obtain ⟨r, h⟩ := behind; exact make_of h
theorem later : Try.prog.laysLater = false := by kernel_rfl
theorem reflects : Try.prog.bearsReflect = false := by kernel_rfl
theorem door : Try.prog.doorFits [] = true := by kernel_rfl
theorem may_of {P : Program} {r : List (List Char)} (h : behindMainWord (wordsSigns P.initOrder.toList) = w3 :: r) (h1 : P.laysLater = false) (h2 : P.bearsReflect = false) (h3 : P.doorFits [] = true) : P.mayEnter = true := by
  unfold Program.mayEnter
  simp only [h, strip, is_cut, h1, h2, h3, List.contains_nil, Bool.not_false, Bool.or_true, Bool.and_true, Bool.and_self]
theorem mayEnter : Try.prog.mayEnter = true := by obtain ⟨r, h⟩ := behind; exact may_of h later reflects door
theorem stopsHeard : Try.prog.stopsHeard = true := by kernel_rfl
theorem laidOut : laidOutB Try.prog = true := by kernel_rfl
theorem mapsRowed : mapsRowed Try.prog = true := by kernel_rfl
theorem stops : (Try.prog.stops == []) = true := by kernel_rfl
theorem stopKnobs : (Try.prog.stopKnobs == []) = true := by kernel_rfl
end Go.Proofs.Ytcgefpklljclgaa.Head

-- PRINTED WORDS (module Derived/Print/Sized.lean): go-gate-2's, for the rows of laws over slices: an AI agent of Go's test side, Tue Nov 17 2026; no person has read it. Lean checks it.
namespace Go.Proofs.YtcgefpklljclgaaW.PrintWords
open Go.ChangeShapes Go.WideShapes
/-- A row's slice of whole numbers is no longer than its weight allows. -/
theorem sized_ints {H : Type} {enc : TypeId × Value → H} {P : Program} {W : World} {base : Nat} {spare : Nat → Bool} {held : Bool} {t e : TypeId} {k : IntKind} {a : Option Addr} {len cap : Nat} {d : DataW H} {ps : List MemPlace} {ts : List TypeId} {ds : List (DataW H)} {j : Nat}
    (hsz : (DataW.weightsEach P ts ds).all (· ≤ reachBytes) = true) (ht : ts[j]? = some t) (hd : ds[j]? = some d) (hu : P.underlying t = some (.slice e)) (he : P.underlying e = some (.int k)) (hc : P.cellsOf e = 1) {B : Nat} (hB : P.bytesOf e = B)
    (h : DataW.Trod enc P W base spare held t (.slice a len cap) d ps) : len * B ≤ 140737488351232 := by
  obtain ⟨fuel, hf⟩ := h
  rcases open_ints hu he hc hf with ⟨hcs, _⟩ | ⟨x, l, c, zs, hcs, _, hl, _, hz, hx, _, _⟩
  · simp [Value.cells] at hcs
    obtain ⟨rfl, rfl, rfl⟩ := hcs
    simp
  · simp [Value.cells] at hcs
    obtain ⟨rfl, rfl, rfl⟩ := hcs
    obtain ⟨hx, _⟩ := Prod.mk.inj hx
    subst hx
    have z := sized_slice hsz ht hd hu
    rw [hB] at z
    have hl2 : len ≤ zs.length := by
      rw [hz]
      split
      · exact hl
      · exact Nat.le_refl _
    have h1 : (lits (H := H) k (zs.take len)).length + (lits (H := H) k (zs.drop len)).length = zs.length := by
      simp [lits]
      omega
    rw [h1] at z
    exact Nat.le_trans (Nat.mul_le_mul_right _ hl2) z
end Go.Proofs.YtcgefpklljclgaaW.PrintWords
