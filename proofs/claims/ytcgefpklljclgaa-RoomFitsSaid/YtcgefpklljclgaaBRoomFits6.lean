/- A part of the proof of RoomFits: the machine's side by the kit's print, contracts and lemmas by this session. -/
import Derived.Shelf.Abstract
import Derived.WalkSpells
import Derived.Test.YtcgefpklljclgaaRows
import Derived.WalkKit
import Derived.ProofKit
import Derived.OpenShut
import Derived.JoinedOf
import Derived.SizedLaws
import Derived.ChangeSlices
import Derived.Test.YtcgefpklljclgaaBRoomFits1
import Derived.Test.YtcgefpklljclgaaBRoomFits3
import Derived.Test.YtcgefpklljclgaaBRoomFits5
namespace Go.Proofs.Ytcgefpklljclgaa.Print
open Go.RowKit Go.Proofs.YtcgefpklljclgaaW.PrintWords Go.Proofs.YtcgefpklljclgaaW.PrintLast Go.Proofs.YtcgefpklljclgaaW.PrintMore
attribute [local go_sem] max2_int min2_int max_two min_two max_three min_three max_four min_four   -- for this text's walks alone
set_option linter.unusedVariables false
set_option linter.unusedSimpArgs false
/-! ### vec_May: function 115 -/
def vec_May.f (a0_0 : Int) (a0_1 : Int) (a0_2 : Int) : Option (Bool) := (vec_Le.f 0 0 0 a0_0 a0_1 a0_2).bind fun t2 => (if t2 = true then ((vec_Most.f).bind fun bt3 => ((vec_Le.f a0_0 a0_1 a0_2 bt3.1 bt3.2.1 bt3.2.2).bind fun t6 => (some t6))) else (some false))
def vec_May.T1 : Bool × List (List Nat × List Nat) := (true, [([], []), ([], []), ([0, 1], [0, 1]), ([2, 2], [2]), ([3], [3]), ([3, 3], [3]), ([4, 5, 5, 3], [3, 4, 5]), ([3, 6], [3, 6]), ([7, 6, 0, 1, 2, 3, 4, 5, 6, 7], [7])])
def vec_May.B1 : List Nat := [0, 0, 3, 7, 15, 15, 63, 127, 255]
theorem vec_May.tab1 : rtab .any (opsOf Try.f115 1) = vec_May.T1 := by kernel_rfl
theorem vec_May.bits1 : waitsOk vec_May.T1.2 vec_May.B1 = true := by kernel_rfl
set_option maxHeartbeats 8000000 in
set_option maxRecDepth 100000 in
theorem vec_May.calls (a0_0 : Int) (a0_1 : Int) (a0_2 : Int) (r : Bool) (w : World) (h : vec_May.f a0_0 a0_1 a0_2 = some r) :
  Calls Try.prog 115 #[.agg #[.int .i64 a0_0, .int .i64 a0_1, .int .i64 a0_2]] w fun e w' => e = .returned (.bool r) ∧ Below w.heap.size w w' := by
 have hu27 := Try.underlying27
 have HB := Aside0.mk (Below.refl w.heap.size w)
 have H : ((vec_Le.f 0 0 0 a0_0 a0_1 a0_2).bind fun t2 => (if t2 = true then ((vec_Most.f).bind fun bt3 => ((vec_Le.f a0_0 a0_1 a0_2 bt3.1 bt3.2.1 bt3.2.2).bind fun t6 => (some t6))) else (some false))) = some r := h
 clear h
 replace H := Option.bind_eq_some_iff.mp H
 obtain ⟨t2, A20, H⟩ := H
 replace H : (if t2 = true then ((vec_Most.f).bind fun bt3 => ((vec_Le.f a0_0 a0_1 a0_2 bt3.1 bt3.2.1 bt3.2.2).bind fun t6 => (some t6))) else (some false)) = some r := H
 have A2 := Aside0.mk A20
 clear A20
 by_cases c3 : t2 = true
 ·subst c3
  have H1 : ((vec_Most.f).bind fun bt3 => ((vec_Le.f a0_0 a0_1 a0_2 bt3.1 bt3.2.1 bt3.2.2).bind fun t6 => (some t6))) = some r := by rw [if_pos rfl] at H; exact H
  clear H
  have H := H1
  clear H1
  replace H := Option.bind_eq_some_iff.mp H
  obtain ⟨⟨t3, t4, t5⟩, A40, H⟩ := H
  replace H : ((vec_Le.f a0_0 a0_1 a0_2 t3 t4 t5).bind fun t6 => (some t6)) = some r := H
  have A4 := Aside0.mk A40
  clear A40
  replace H := Option.bind_eq_some_iff.mp H
  obtain ⟨t6, A50, H⟩ := H
  replace H : (some t6) = some r := H
  have A5 := Aside0.mk A50
  clear A50
  obtain rfl := Option.some.inj H
  go_enter Try.func115, Try.ntmps115
  try go_wp2_with (first | ((with_reducible refine gate_dst (N := 1) rfl ?_); refine box_event ?hg (N := 1) ?hd (cs := #[.int .i64 a0_0, .int .i64 a0_1, .int .i64 a0_2]) (t := 27) ?hr ?_; (case hd => rfl); (case hg => rfl); (case hr => first | (go_simp; done) | (go_simp; rfl)); intro gb1 hg w6 hbox hb; have n0_ := Aside0.mk (below_step (by repeat (first | (with_reducible first | exact HB.out | apply below_alloc | apply pw_below_drewN | apply below_drew1) | exact HB.out)) hb); have n1_ := Aside0.mk (hbox); have n2_ := Aside0.mk ((by rw [hg]; exact (below_size (by repeat (first | (with_reducible first | exact HB.out | apply below_alloc | apply pw_below_drewN | apply below_drew1) | exact HB.out))) : w.heap.size ≤ gb1)); have n3_ := Aside0.mk ((by rw [hg]; exact (below_size (by repeat (first | (with_reducible first | exact HB.out | apply below_alloc | apply pw_below_drewN | apply below_drew1) | exact HB.out))) : w.heap.size ≤ gb1)); clear HB; have HB := n0_; have BK1 := n1_; have GW1 := n2_; have GE1 := n3_; clear n0_ n1_ n2_ n3_; clear hb hbox hg))
  have n0_ := Aside0.mk (blk_drew BK1.out)
  have n1_ := Aside0.mk (below_drew1 HB.out)
  clear BK1
  clear HB
  have BK1 := n0_
  have HB := n1_
  clear n0_ n1_
  refine start_ (n := 9) (S := fun w' => w'.cell? ⟨gb1, 0, none⟩ = some (.int .i64 a0_0) ∧ w'.cell? ⟨gb1, 1, none⟩ = some (.int .i64 a0_1) ∧ w'.cell? ⟨gb1, 2, none⟩ = some (.int .i64 a0_2)) (ds := []) #[false, false, false, false, false, false, false, false, false] (by kernel_rfl) rfl rfl ⟨(blk_cell BK1.out 0).trans rfl, (blk_cell BK1.out 1).trans rfl, (blk_cell BK1.out 2).trans rfl⟩ (fun hHeld => ?_); refine with_tabW vec_May.tab1 vec_May.bits1 (fun HT_ HW_ => ?_)
  generalize w6.drew = w7 at BK1 HB hHeld ⊢
  refine pure_ (i := 0) (N := some 3) (v := ?_) (a' := ?_) #[true, false, false, false, false, false, false, false, false] rfl rfl (any_of HT_.out (by kernel_rfl)) (fun _ _ _ h => h) (Or.inl ⟨by rfl, ?_⟩) ?_ ?_
  rotate_left
  ·intro w'
   go_simp
   with_reducible rfl
  rotate_left
  ·simp only [Act.put, List.setIfInBounds_toArray, List.set_cons_zero, List.set_cons_succ, i64_w, i32_w]
   rfl
  refine take_ (i := 1) (N := some 4) (v := ?_) (a' := ?_) #[true, true, false, false, false, false, false, false, false] rfl rfl (take_ofW HT_.out HW_.out (by kernel_rfl)) (fun _ _ _ h => h) (Or.inl ⟨by rfl, ?_⟩) hHeld ?_ ?_
  rotate_left
  ·rintro w' ⟨s0, s1, s2⟩
   go_simp
   with_reducible rfl
  rotate_left
  ·simp only [Act.put, List.setIfInBounds_toArray, List.set_cons_zero, List.set_cons_succ, i64_w, i32_w]
   rfl
  refine one_ (i := 2) (N := some 5) #[true, true, true, false, false, false, false, false, false] rfl rfl (one_of HT_.out (by kernel_rfl)) (by decide) (fun K hK => ?_)
  refine goes_ Try.func118 (by kernel_rfl) rfl #[.agg #[.int .i64 0, .int .i64 0, .int .i64 0], .agg #[.int .i64 a0_0, .int .i64 a0_1, .int .i64 a0_2]] (by rfl) rfl rfl (by (try simp only [List.map_toArray, List.map_cons, List.map_nil]); first | done | rfl | (simp only [List.length_drop, List.length_take]; rfl)) ?_
  with_reducible refine (vec_Le.calls 0 0 0 a0_0 a0_1 a0_2 true _ A2.out).mono ?_
  rintro e w8 ⟨rfl, hb⟩
  refine ⟨_, rfl, ?_⟩
  have n0_ := Aside0.mk (blk_below (g := gb1) (o := .cells #[.int .i64 a0_0, .int .i64 a0_1, .int .i64 a0_2] 27 (0, 0)) (by (with_reducible repeat (first | refine blk_drewN ?_ _ | refine blk_drew ?_ | refine blk_alloc ?_ _)); exact BK1.out) hb)
  have n1_ := Aside0.mk (below_step (by repeat (first | (with_reducible first | exact HB.out | apply below_alloc | apply pw_below_drewN | apply below_drew1 | refine below_set ?_ GE1.out) | exact HB.out)) hb)
  clear BK1
  clear HB
  have BK1 := n0_
  have HB := n1_
  clear n0_ n1_
  (try clear hb)
  (try clear hb2)
  (try clear hk)
  (try clear hi)
  refine hK.out _ _ ⟨(blk_cell BK1.out 0).trans rfl, (blk_cell BK1.out 1).trans rfl, (blk_cell BK1.out 2).trans rfl⟩ (fun hHeld => ?_)
  clear hK K
  refine norm_ (a' := ?_) ?_ ?_
  rotate_left
  ·show Act.put _ (some 5) _ = _
   simp only [Act.put, List.setIfInBounds_toArray, List.set_cons_zero, List.set_cons_succ, i64_w, i32_w]
   rfl
  refine pure_ (i := 3) (N := some 6) (v := ?_) (a' := ?_) #[true, true, true, true, false, false, false, false, false] rfl rfl (any_of HT_.out (by kernel_rfl)) (fun _ _ _ h => h) (Or.inl ⟨by rfl, ?_⟩) ?_ ?_
  rotate_left
  ·intro w'
   go_simp
   with_reducible rfl
  rotate_left
  ·simp only [Act.put, List.setIfInBounds_toArray, List.set_cons_zero, List.set_cons_succ, i64_w, i32_w]
   rfl
  refine take_ (i := 4) (N := some 7) (v := ?_) (a' := ?_) #[true, true, true, true, true, false, false, false, false] rfl rfl (take_ofW HT_.out HW_.out (by kernel_rfl)) (fun _ _ _ h => h) (Or.inl ⟨by rfl, ?_⟩) hHeld ?_ ?_
  rotate_left
  ·rintro w' ⟨s0, s1, s2⟩
   go_simp
   with_reducible rfl
  rotate_left
  ·simp only [Act.put, List.setIfInBounds_toArray, List.set_cons_zero, List.set_cons_succ, i64_w, i32_w]
   rfl
  refine one_ (i := 5) (N := some 8) #[true, true, true, true, true, true, false, false, false] rfl rfl (one_of HT_.out (by kernel_rfl)) (by decide) (fun K hK => ?_)
  refine goes_ Try.func157 (by kernel_rfl) rfl #[] (by rfl) rfl rfl (by (try simp only [List.map_toArray, List.map_cons, List.map_nil]); first | done | rfl | (simp only [List.length_drop, List.length_take]; rfl)) ?_
  with_reducible refine (vec_Most.calls  t3 t4 t5 _ A4.out).mono ?_
  rintro e w9 ⟨rfl, hb⟩
  refine ⟨_, rfl, ?_⟩
  have n0_ := Aside0.mk (blk_below (g := gb1) (o := .cells #[.int .i64 a0_0, .int .i64 a0_1, .int .i64 a0_2] 27 (0, 0)) (by (with_reducible repeat (first | refine blk_drewN ?_ _ | refine blk_drew ?_ | refine blk_alloc ?_ _)); exact BK1.out) hb)
  have n1_ := Aside0.mk (below_step (by repeat (first | (with_reducible first | exact HB.out | apply below_alloc | apply pw_below_drewN | apply below_drew1 | refine below_set ?_ GE1.out) | exact HB.out)) hb)
  clear BK1
  clear HB
  have BK1 := n0_
  have HB := n1_
  clear n0_ n1_
  (try clear hb)
  (try clear hb2)
  (try clear hk)
  (try clear hi)
  refine hK.out _ _ ⟨(blk_cell BK1.out 0).trans rfl, (blk_cell BK1.out 1).trans rfl, (blk_cell BK1.out 2).trans rfl⟩ (fun hHeld => ?_)
  clear hK K
  refine norm_ (a' := ?_) ?_ ?_
  rotate_left
  ·show Act.put _ (some 8) _ = _
   simp only [Act.put, List.setIfInBounds_toArray, List.set_cons_zero, List.set_cons_succ, i64_w, i32_w]
   rfl
  refine one_ (i := 6) (N := some 9) #[true, true, true, true, true, true, true, false, false] rfl rfl (one_of HT_.out (by kernel_rfl)) (by decide) (fun K hK => ?_)
  refine goes_ Try.func118 (by kernel_rfl) rfl #[.agg #[.int .i64 a0_0, .int .i64 a0_1, .int .i64 a0_2], .agg #[.int .i64 t3, .int .i64 t4, .int .i64 t5]] (by rfl) rfl rfl (by (try simp only [List.map_toArray, List.map_cons, List.map_nil]); first | done | rfl | (simp only [List.length_drop, List.length_take]; rfl)) ?_
  with_reducible refine (vec_Le.calls a0_0 a0_1 a0_2 t3 t4 t5 t6 _ A5.out).mono ?_
  rintro e w10 ⟨rfl, hb⟩
  refine ⟨_, rfl, ?_⟩
  have n0_ := Aside0.mk (blk_below (g := gb1) (o := .cells #[.int .i64 a0_0, .int .i64 a0_1, .int .i64 a0_2] 27 (0, 0)) (by (with_reducible repeat (first | refine blk_drewN ?_ _ | refine blk_drew ?_ | refine blk_alloc ?_ _)); exact BK1.out) hb)
  have n1_ := Aside0.mk (below_step (by repeat (first | (with_reducible first | exact HB.out | apply below_alloc | apply pw_below_drewN | apply below_drew1 | refine below_set ?_ GE1.out) | exact HB.out)) hb)
  clear BK1
  clear HB
  have BK1 := n0_
  have HB := n1_
  clear n0_ n1_
  (try clear hb)
  (try clear hb2)
  (try clear hk)
  (try clear hi)
  refine hK.out _ _ ⟨(blk_cell BK1.out 0).trans rfl, (blk_cell BK1.out 1).trans rfl, (blk_cell BK1.out 2).trans rfl⟩ (fun hHeld => ?_)
  clear hK K
  refine norm_ (a' := ?_) ?_ ?_
  rotate_left
  ·show Act.put _ (some 9) _ = _
   simp only [Act.put, List.setIfInBounds_toArray, List.set_cons_zero, List.set_cons_succ, i64_w, i32_w]
   rfl
  refine pure_ (i := 7) (N := some 10) (v := ?_) (a' := ?_) #[true, true, true, true, true, true, true, true, false] rfl rfl (any_of HT_.out (by kernel_rfl)) (fun _ _ _ h => h) (Or.inl ⟨by rfl, ?_⟩) ?_ ?_
  rotate_left
  ·intro w'
   go_simp
   with_reducible rfl
  rotate_left
  ·simp only [Act.put, List.setIfInBounds_toArray, List.set_cons_zero, List.set_cons_succ, i64_w, i32_w]
   rfl
  refine pure_ (i := 8) (N := some 2) (v := ?_) (a' := ?_) #[true, true, true, true, true, true, true, true, true] rfl rfl (any_of HT_.out (by kernel_rfl)) (fun _ _ _ h => h) (Or.inl ⟨by rfl, ?_⟩) ?_ ?_
  rotate_left
  ·intro w'
   go_simp
   with_reducible rfl
  rotate_left
  ·simp only [Act.put, List.setIfInBounds_toArray, List.set_cons_zero, List.set_cons_succ, i64_w, i32_w]
   rfl
  refine done_ (done_of HT_.out (by kernel_rfl)) ?_
  try go_wp2
  go_ret
  exact ⟨by first | rfl | (simp [errW_none, errW_some] <;> rfl) | (simp [*, errW_none, errW_some] <;> rfl), by repeat (first | (with_reducible first | exact HB.out | apply below_alloc | apply pw_below_drewN | apply below_drew1 | refine below_set ?_ GE1.out) | exact HB.out)⟩
 ·replace c3 := Bool.eq_false_iff.mpr c3
  subst c3
  have H1 : (some false) = some r := by rw [if_neg (show ¬ (false = true) by decide)] at H; exact H
  clear H
  have H := H1
  clear H1
  obtain rfl := Option.some.inj H
  go_enter Try.func115, Try.ntmps115
  try go_wp2_with (first | ((with_reducible refine gate_dst (N := 1) rfl ?_); refine box_event ?hg (N := 1) ?hd (cs := #[.int .i64 a0_0, .int .i64 a0_1, .int .i64 a0_2]) (t := 27) ?hr ?_; (case hd => rfl); (case hg => rfl); (case hr => first | (go_simp; done) | (go_simp; rfl)); intro gb1 hg w11 hbox hb; have n0_ := Aside0.mk (below_step (by repeat (first | (with_reducible first | exact HB.out | apply below_alloc | apply pw_below_drewN | apply below_drew1) | exact HB.out)) hb); have n1_ := Aside0.mk (hbox); have n2_ := Aside0.mk ((by rw [hg]; exact (below_size (by repeat (first | (with_reducible first | exact HB.out | apply below_alloc | apply pw_below_drewN | apply below_drew1) | exact HB.out))) : w.heap.size ≤ gb1)); have n3_ := Aside0.mk ((by rw [hg]; exact (below_size (by repeat (first | (with_reducible first | exact HB.out | apply below_alloc | apply pw_below_drewN | apply below_drew1) | exact HB.out))) : w.heap.size ≤ gb1)); clear HB; have HB := n0_; have BK1 := n1_; have GW1 := n2_; have GE1 := n3_; clear n0_ n1_ n2_ n3_; clear hb hbox hg))
  have n0_ := Aside0.mk (blk_drew BK1.out)
  have n1_ := Aside0.mk (below_drew1 HB.out)
  clear BK1
  clear HB
  have BK1 := n0_
  have HB := n1_
  clear n0_ n1_
  refine start_ (n := 9) (S := fun w' => w'.cell? ⟨gb1, 0, none⟩ = some (.int .i64 a0_0) ∧ w'.cell? ⟨gb1, 1, none⟩ = some (.int .i64 a0_1) ∧ w'.cell? ⟨gb1, 2, none⟩ = some (.int .i64 a0_2)) (ds := []) #[false, false, false, false, false, false, false, false, false] (by kernel_rfl) rfl rfl ⟨(blk_cell BK1.out 0).trans rfl, (blk_cell BK1.out 1).trans rfl, (blk_cell BK1.out 2).trans rfl⟩ (fun hHeld => ?_); refine with_tabW vec_May.tab1 vec_May.bits1 (fun HT_ HW_ => ?_)
  generalize w11.drew = w12 at BK1 HB hHeld ⊢
  refine pure_ (i := 0) (N := some 3) (v := ?_) (a' := ?_) #[true, false, false, false, false, false, false, false, false] rfl rfl (any_of HT_.out (by kernel_rfl)) (fun _ _ _ h => h) (Or.inl ⟨by rfl, ?_⟩) ?_ ?_
  rotate_left
  ·intro w'
   go_simp
   with_reducible rfl
  rotate_left
  ·simp only [Act.put, List.setIfInBounds_toArray, List.set_cons_zero, List.set_cons_succ, i64_w, i32_w]
   rfl
  refine take_ (i := 1) (N := some 4) (v := ?_) (a' := ?_) #[true, true, false, false, false, false, false, false, false] rfl rfl (take_ofW HT_.out HW_.out (by kernel_rfl)) (fun _ _ _ h => h) (Or.inl ⟨by rfl, ?_⟩) hHeld ?_ ?_
  rotate_left
  ·rintro w' ⟨s0, s1, s2⟩
   go_simp
   with_reducible rfl
  rotate_left
  ·simp only [Act.put, List.setIfInBounds_toArray, List.set_cons_zero, List.set_cons_succ, i64_w, i32_w]
   rfl
  refine one_ (i := 2) (N := some 5) #[true, true, true, false, false, false, false, false, false] rfl rfl (one_of HT_.out (by kernel_rfl)) (by decide) (fun K hK => ?_)
  refine goes_ Try.func118 (by kernel_rfl) rfl #[.agg #[.int .i64 0, .int .i64 0, .int .i64 0], .agg #[.int .i64 a0_0, .int .i64 a0_1, .int .i64 a0_2]] (by rfl) rfl rfl (by (try simp only [List.map_toArray, List.map_cons, List.map_nil]); first | done | rfl | (simp only [List.length_drop, List.length_take]; rfl)) ?_
  with_reducible refine (vec_Le.calls 0 0 0 a0_0 a0_1 a0_2 false _ A2.out).mono ?_
  rintro e w13 ⟨rfl, hb⟩
  refine ⟨_, rfl, ?_⟩
  have n0_ := Aside0.mk (blk_below (g := gb1) (o := .cells #[.int .i64 a0_0, .int .i64 a0_1, .int .i64 a0_2] 27 (0, 0)) (by (with_reducible repeat (first | refine blk_drewN ?_ _ | refine blk_drew ?_ | refine blk_alloc ?_ _)); exact BK1.out) hb)
  have n1_ := Aside0.mk (below_step (by repeat (first | (with_reducible first | exact HB.out | apply below_alloc | apply pw_below_drewN | apply below_drew1 | refine below_set ?_ GE1.out) | exact HB.out)) hb)
  clear BK1
  clear HB
  have BK1 := n0_
  have HB := n1_
  clear n0_ n1_
  (try clear hb)
  (try clear hb2)
  (try clear hk)
  (try clear hi)
  refine hK.out _ _ ⟨(blk_cell BK1.out 0).trans rfl, (blk_cell BK1.out 1).trans rfl, (blk_cell BK1.out 2).trans rfl⟩ (fun hHeld => ?_)
  clear hK K
  refine norm_ (a' := ?_) ?_ ?_
  rotate_left
  ·show Act.put _ (some 5) _ = _
   simp only [Act.put, List.setIfInBounds_toArray, List.set_cons_zero, List.set_cons_succ, i64_w, i32_w]
   rfl
  refine pure_ (i := 3) (N := some 6) (v := ?_) (a' := ?_) #[true, true, true, true, false, false, false, false, false] rfl rfl (any_of HT_.out (by kernel_rfl)) (fun _ _ _ h => h) (Or.inl ⟨by rfl, ?_⟩) ?_ ?_
  rotate_left
  ·intro w'
   go_simp
   with_reducible rfl
  rotate_left
  ·simp only [Act.put, List.setIfInBounds_toArray, List.set_cons_zero, List.set_cons_succ, i64_w, i32_w]
   rfl
  refine pure_ (i := 4) (N := some 7) (v := undef) (a' := ?_) #[true, true, true, true, true, false, false, false, false] rfl rfl (any_of HT_.out (by kernel_rfl)) (fun _ _ _ h => h) (Or.inr ⟨by rfl, rfl⟩) ?_ ?_
  rotate_left
  ·simp only [Act.put, List.setIfInBounds_toArray, List.set_cons_zero, List.set_cons_succ, i64_w, i32_w]
   rfl
  refine pure_ (i := 5) (N := some 8) (v := undef) (a' := ?_) #[true, true, true, true, true, true, false, false, false] rfl rfl (any_of HT_.out (by kernel_rfl)) (fun _ _ _ h => h) (Or.inr ⟨by rfl, rfl⟩) ?_ ?_
  rotate_left
  ·simp only [Act.put, List.setIfInBounds_toArray, List.set_cons_zero, List.set_cons_succ, i64_w, i32_w]
   rfl
  refine pure_ (i := 6) (N := some 9) (v := undef) (a' := ?_) #[true, true, true, true, true, true, true, false, false] rfl rfl (any_of HT_.out (by kernel_rfl)) (fun _ _ _ h => h) (Or.inr ⟨by rfl, rfl⟩) ?_ ?_
  rotate_left
  ·simp only [Act.put, List.setIfInBounds_toArray, List.set_cons_zero, List.set_cons_succ, i64_w, i32_w]
   rfl
  refine pure_ (i := 7) (N := some 10) (v := ?_) (a' := ?_) #[true, true, true, true, true, true, true, true, false] rfl rfl (any_of HT_.out (by kernel_rfl)) (fun _ _ _ h => h) (Or.inl ⟨by rfl, ?_⟩) ?_ ?_
  rotate_left
  ·intro w'
   go_simp
   with_reducible rfl
  rotate_left
  ·simp only [Act.put, List.setIfInBounds_toArray, List.set_cons_zero, List.set_cons_succ, i64_w, i32_w]
   rfl
  refine pure_ (i := 8) (N := some 2) (v := ?_) (a' := ?_) #[true, true, true, true, true, true, true, true, true] rfl rfl (any_of HT_.out (by kernel_rfl)) (fun _ _ _ h => h) (Or.inl ⟨by rfl, ?_⟩) ?_ ?_
  rotate_left
  ·intro w'
   go_simp
   with_reducible rfl
  rotate_left
  ·simp only [Act.put, List.setIfInBounds_toArray, List.set_cons_zero, List.set_cons_succ, i64_w, i32_w]
   rfl
  refine done_ (done_of HT_.out (by kernel_rfl)) ?_
  try go_wp2
  go_ret
  exact ⟨by first | rfl | (simp [errW_none, errW_some] <;> rfl) | (simp [*, errW_none, errW_some] <;> rfl), by repeat (first | (with_reducible first | exact HB.out | apply below_alloc | apply pw_below_drewN | apply below_drew1 | refine below_set ?_ GE1.out) | exact HB.out)⟩
end Go.Proofs.Ytcgefpklljclgaa.Print

namespace Go.Proofs.Ytcgefpklljclgaa.Print
open Go.RowKit Go.Proofs.YtcgefpklljclgaaW.PrintWords Go.Proofs.YtcgefpklljclgaaW.PrintLast Go.Proofs.YtcgefpklljclgaaW.PrintMore
attribute [local go_sem] max2_int min2_int max_two min_two max_three min_three max_four min_four   -- for this text's walks alone
set_option linter.unusedVariables false
set_option linter.unusedSimpArgs false
/-! ### idx_Str: function 164 -/
theorem at_str {w : World} {A : Option Addr} {n : Nat} {xs : List ByteArray} (h : Kd.C Kd.string w A n xs) (i : Int) (h0 : 0 ≤ i) (h1 : i < n) : ∃ ad, A = some ad ∧ w.cell? (ad.add i.toNat) = some (.string (rdOf ByteArray.empty xs i)) := by
  obtain ⟨ad, c, e, _, hK, hc⟩ := Kd.C_get h ByteArray.empty i h0 h1
  have hc0 : ∀ j u, c[j]? = some u → w.cell? (ad.add (i.toNat * 1 + j)) = some u := hc
  obtain rfl : c = [.string (xs.getD i.toNat ByteArray.empty)] := hK
  have := hc0 0 _ rfl
  rw [Nat.mul_one, Nat.add_zero] at this
  exact ⟨ad, e, this⟩
-- uses fidx
set_option maxHeartbeats 1000000 in
set_option maxRecDepth 100000 in
theorem idxStr_calls (g : Nat) (lb : Array Value) (p : ByteArray → Bool) (eg : ∀ args w, (callFunc g args).run Try.prog w = .ok (.enter g args) w) (w : World) (A : Option Addr) (c : Nat) (l : List ByteArray)
    (hp : ∀ W x, x ∈ l → Below w.heap.size w W → Calls Try.prog g (#[.string x] ++ lb) W fun e w' => e = .returned (.bool (p x)) ∧ Below W.heap.size W w')
    (hr0 : Kd.C Kd.string w A l.length l) (hc0 : l.length ≤ c) :
    Calls Try.prog 164 #[.slice A l.length c, .func (.func g) #[] lb] w fun e w' => e = .returned (.int .i64 (fidx p l 0)) ∧ Below w.heap.size w w' := by
  have HR0 := Aside0.mk hr0
  have HP := Aside0.mk hp
  have HEG := Aside0.mk eg
  have hm : l.length ≤ 9223372036854775807 := hr0.2.1
  clear hr0 hp eg
  go_enter Try.func164, Try.ntmps164
  go_wp2
  go_loopg [5, 8] l.length (fun kq s5 s8 wr => ∃ i : Nat, i ≤ l.length ∧ l.length - i ≤ kq ∧ s8 = .int .i64 i ∧ Aside0 (Below w.heap.size w wr) ∧ Aside0 (fidx p l 0 = fidx p (l.drop i) i))
  case atStart => exact ⟨0, by omega, by omega, rfl, ⟨Below.refl _ _⟩, ⟨rfl⟩⟩
  case round =>
    obtain ⟨i, hi, hg, rfl, HB, HF⟩ := hrel
    by_cases hlt : i < l.length
    · have hltz : (i : Int) < (l.length : Int) := by omega
      obtain ⟨ad, e1, h0⟩ := at_str HR0.out (i : Int) (by omega) (by omega)
      cases e1
      simp only [Int.toNat_natCast] at h0
      replace h0 := (HB.out.cell (World.block_lt_of_cell? w _ h0)).trans h0
      have hd : Aside0 _ := ⟨fidx_drop p ByteArray.empty l i hlt⟩
      have HC := Aside0.mk (HP.out wr (rdOf ByteArray.empty l i) (by simp [rdOf, hlt]) HB.out)
      generalize hy : rdOf ByteArray.empty l i = y at h0 HC
      have hq : p (l.getD i ByteArray.empty) = p y := by rw [← hy]; simp [rdOf]
      have HQ := Aside0.mk hq
      clear hy hq
      have eg := HEG.out
      cases hb : p y with
      | true =>
        rw [hb] at HC HQ
        clear hb
        go_wp2_with (go_at_fn g; refine HC.out.mono ?_; rintro e w' ⟨rfl, hb'⟩; have HB' := Aside0.mk (below_step HB.out hb'); clear hb')
        go_ret
        refine ⟨?_, HB'.out⟩
        rw [HF.out, hd.out, HQ.out]
        rfl
      | false =>
        rw [hb] at HC HQ
        clear hb
        go_wp2_with (go_at_fn g; refine HC.out.mono ?_; rintro e w' ⟨rfl, hb'⟩; have HB' := Aside0.mk (below_step HB.out hb'); clear hb')
        go_roundg (l.length - (i + 1))
        case measure => omega
        case rel => exact ⟨i + 1, by omega, by omega, by go_num, HB', ⟨by rw [HF.out, hd.out, HQ.out]; rfl⟩⟩
    · obtain rfl : i = l.length := by omega
      go_wp2
      go_ret
      refine ⟨?_, HB.out⟩
      rw [HF.out, List.drop_length]
      rfl
end Go.Proofs.Ytcgefpklljclgaa.Print

namespace Go.Proofs.Ytcgefpklljclgaa.Print
open Go.RowKit Go.Proofs.YtcgefpklljclgaaW.PrintWords Go.Proofs.YtcgefpklljclgaaW.PrintLast Go.Proofs.YtcgefpklljclgaaW.PrintMore
attribute [local go_sem] max2_int min2_int max_two min_two max_three min_three max_four min_four   -- for this text's walks alone
set_option linter.unusedVariables false
set_option linter.unusedSimpArgs false
/-! ### contains_Str: function 129 -/
theorem fidx_any {α : Type} (p : α → Bool) : ∀ (l : List α) (i : Int), 0 ≤ i → decide (0 ≤ fidx p l i) = l.any p
  | [], _, _ => rfl
  | x :: l, i, h => by
    unfold fidx
    rw [List.any_cons]
    by_cases hx : p x = true
    · rw [if_pos hx, hx]; simpa using h
    · rw [if_neg hx, fidx_any p l (i + 1) (by omega)]
      simp [hx]
set_option maxHeartbeats 1000000 in
set_option maxRecDepth 100000 in
theorem containsStr_calls (g : Nat) (lb : Array Value) (p : ByteArray → Bool) (eg : ∀ args w, (callFunc g args).run Try.prog w = .ok (.enter g args) w) (w : World) (A : Option Addr) (c : Nat) (l : List ByteArray)
    (hp : ∀ W x, x ∈ l → Below w.heap.size w W → Calls Try.prog g (#[.string x] ++ lb) W fun e w' => e = .returned (.bool (p x)) ∧ Below W.heap.size W w')
    (hr0 : Kd.C Kd.string w A l.length l) (hc0 : l.length ≤ c) :
    Calls Try.prog 129 #[.slice A l.length c, .func (.func g) #[] lb] w fun e w' => e = .returned (.bool (l.any p)) ∧ Below w.heap.size w w' := by
  have HC := Aside0.mk (idxStr_calls g lb p eg w A c l hp hr0 hc0)
  rw [← fidx_any p l 0 (by omega)]
  generalize fidx p l 0 = r at HC
  clear hp hr0 eg
  go_enter Try.func129, Try.ntmps129
  go_wp2_with (go_at_call 164; refine HC.out.mono ?_; rintro e w' ⟨rfl, hb'⟩; have HB' := Aside0.mk hb'; clear hb')
  go_ret
  exact ⟨rfl, HB'.out⟩
end Go.Proofs.Ytcgefpklljclgaa.Print

namespace Go.Proofs.Ytcgefpklljclgaa.Print
open Go.RowKit Go.Proofs.YtcgefpklljclgaaW.PrintWords Go.Proofs.YtcgefpklljclgaaW.PrintLast Go.Proofs.YtcgefpklljclgaaW.PrintMore
attribute [local go_sem] max2_int min2_int max_two min_two max_three min_three max_four min_four   -- for this text's walks alone
set_option linter.unusedVariables false
set_option linter.unusedSimpArgs false
/-! ### admit_live_at: function 132 -/
def admit_live_at.f (l0_0 : List (S31)) (a1 : ByteArray) : Option (Int) := (tree_Find.f l0_0 a1).bind fun t2 => (some t2)
set_option maxHeartbeats 8000000 in
set_option maxRecDepth 100000 in
theorem admit_live_at.calls (A0_0 : Option Addr) (c0_0 : Nat) (l0_0 : List (S31)) (a1 : ByteArray) (r : Int) (w : World) (hr0_0 : Kd.C k31 w A0_0 l0_0.length l0_0) (hc0_0 : l0_0.length ≤ c0_0) (h : admit_live_at.f l0_0 a1 = some r) :
  Calls Try.prog 132 #[.agg #[.slice A0_0 l0_0.length c0_0], .string a1] w fun e w' => e = .returned (.int .i64 r) ∧ Below w.heap.size w w' := by
 have hu147 := Try.underlying147
 have HR0_0 := Aside0.mk hr0_0
 have HC0_0 := Aside0.mk hc0_0
 clear hr0_0 hc0_0
 have HB := Aside0.mk (Below.refl w.heap.size w)
 have H : ((tree_Find.f l0_0 a1).bind fun t2 => (some t2)) = some r := h
 clear h
 replace H := Option.bind_eq_some_iff.mp H
 obtain ⟨t2, A30, H⟩ := H
 replace H : (some t2) = some r := H
 have A3 := Aside0.mk A30
 clear A30
 obtain rfl := Option.some.inj H
 go_enter Try.func132, Try.ntmps132
 go_wp2_with (first | ((with_reducible refine gate_dst (N := 2) rfl ?_); refine box_event ?hg (N := 2) ?hd (cs := #[.slice A0_0 l0_0.length c0_0]) (t := 147) ?hr ?_; (case hd => rfl); (case hg => rfl); (case hr => first | (go_simp; done) | (go_simp; rfl)); intro gb1 hg w4 hbox hb; have n0_ := Aside0.mk (below_step (by repeat (first | (with_reducible first | exact HB.out | apply below_alloc | apply pw_below_drewN | apply below_drew1) | exact HB.out)) hb); have n1_ := Aside0.mk (hbox); have n2_ := Aside0.mk ((by rw [hg]; exact (below_size (by repeat (first | (with_reducible first | exact HB.out | apply below_alloc | apply pw_below_drewN | apply below_drew1) | exact HB.out))) : w.heap.size ≤ gb1)); have n3_ := Aside0.mk ((by rw [hg]; exact (below_size (by repeat (first | (with_reducible first | exact HB.out | apply below_alloc | apply pw_below_drewN | apply below_drew1) | exact HB.out))) : w.heap.size ≤ gb1)); clear HB; have HB := n0_; have BK1 := n1_; have GW1 := n2_; have GE1 := n3_; clear n0_ n1_ n2_ n3_; clear hb hbox hg; have hcz5_0 : w4.cell? ⟨gb1, 0, none⟩ = some (.slice A0_0 l0_0.length c0_0) := (blk_cell BK1.out 0).trans rfl; have hfz5_0 := blk_frozen BK1.out 0) | ((with_reducible refine gate_callee (f := 71) rfl ?_); refine goesL_ (some 8) rfl rfl Try.func71 (by kernel_rfl) rfl #[.slice A0_0 l0_0.length c0_0, .string a1] rfl (by (try simp only [List.map_toArray, List.map_cons, List.map_nil]); first | done | rfl | (simp only [List.length_drop, List.length_take]; rfl)) ?_; (with_reducible refine (tree_Find.calls _ _ l0_0 a1 t2 _ ?side1 ?side2 A3.out).mono ?_); (case side1 => repeat (first | exact (Kd.C_below HR0_0.out HB.out) | (with_reducible refine Kd.C_alloc ?_ _) | (with_reducible refine Kd.C_drewN ?_ _) | (with_reducible refine Kd.C_drew ?_))); (case side2 => exact HC0_0.out); rintro e w6 ⟨rfl, hb⟩; refine ⟨_, rfl, ?_⟩; have n0_ := Aside0.mk (blk_below (g := gb1) (o := .cells #[.slice A0_0 l0_0.length c0_0] 147 (0, 0)) (by (with_reducible repeat (first | refine blk_drewN ?_ _ | refine blk_drew ?_ | refine blk_alloc ?_ _)); exact BK1.out) hb); have n1_ := Aside0.mk (below_step (by repeat (first | (with_reducible first | exact HB.out | apply below_alloc | apply pw_below_drewN | apply below_drew1 | refine below_set ?_ GE1.out) | exact HB.out)) hb); clear BK1; clear HB; have BK1 := n0_; have HB := n1_; clear n0_ n1_; (try clear hb); (try clear hb2); (try clear hk); (try clear hi)))
 go_ret
 exact ⟨by first | rfl | (simp [errW_none, errW_some] <;> rfl) | (simp [*, errW_none, errW_some] <;> rfl), by repeat (first | (with_reducible first | exact HB.out | apply below_alloc | apply pw_below_drewN | apply below_drew1 | refine below_set ?_ GE1.out) | exact HB.out)⟩
end Go.Proofs.Ytcgefpklljclgaa.Print

namespace Go.Proofs.Ytcgefpklljclgaa.Print
open Go.RowKit Go.Proofs.YtcgefpklljclgaaW.PrintWords Go.Proofs.YtcgefpklljclgaaW.PrintLast Go.Proofs.YtcgefpklljclgaaW.PrintMore
attribute [local go_sem] max2_int min2_int max_two min_two max_three min_three max_four min_four   -- for this text's walks alone
set_option linter.unusedVariables false
set_option linter.unusedSimpArgs false
/-! ### admit_all: function 116 -/
set_option maxHeartbeats 1000000 in
set_option maxRecDepth 100000 in
theorem admit1_calls (W : World) (b : Nat) (v : S27) (hb : W.heap[b]? = some (.cells #[.int .i64 v.f0, .int .i64 v.f1, .int .i64 v.f2] 27 (0, 0))) (x : S31) (r1 r2 r3 : Int) (q : Bool)
    (h1 : vec_Add.f [x.f4, v] = some (r1, r2, r3)) (h2 : vec_Le.f r1 r2 r3 x.f2.f0 x.f2.f1 x.f2.f2 = some q) :
    Calls Try.prog 117 #[.agg (itemCells x), .pointer (some ⟨b, 0, none⟩)] W fun e w' => e = .returned (.bool q) ∧ Below W.heap.size W w' := by
  unfold itemCells
  have hu31 := Try.underlying31
  have hu27 := Try.underlying27
  have h0 := (blk_cell hb 0).trans rfl
  have h01 := (blk_cell hb 1).trans rfl
  have h02 := (blk_cell hb 2).trans rfl
  have hl : b < W.heap.size := blk_lt hb
  clear hb
  go_enter Try.func117, Try.ntmps117
  obtain ⟨W1, hW1⟩ : ∃ W1, W1 = W.alloc (.cells #[.string x.f0, .string x.f1, .int .i64 x.f2.f0, .int .i64 x.f2.f1, .int .i64 x.f2.f2, .int .i64 x.f3.f0, .int .i64 x.f3.f1, .int .i64 x.f3.f2, .int .i64 x.f4.f0, .int .i64 x.f4.f1, .int .i64 x.f4.f2, .int .i64 x.f5] 31) := ⟨_, rfl⟩
  have hn : W1.heap[W.heap.size]? = some (.cells #[.string x.f0, .string x.f1, .int .i64 x.f2.f0, .int .i64 x.f2.f1, .int .i64 x.f2.f2, .int .i64 x.f3.f0, .int .i64 x.f3.f1, .int .i64 x.f3.f2, .int .i64 x.f4.f0, .int .i64 x.f4.f1, .int .i64 x.f4.f2, .int .i64 x.f5] 31 (0, 0)) := by rw [hW1]; exact blk_new _ _
  have hB : Below W.heap.size W W1 := by rw [hW1]; exact below_alloc (Below.refl _ _) _
  have k0 : W1.cell? ⟨b, 0, none⟩ = some (.int .i64 v.f0) := pw_cell_below hB h0
  have k1 : W1.cell? ⟨b, 1, none⟩ = some (.int .i64 v.f1) := pw_cell_below hB h01
  have k2 : W1.cell? ⟨b, 2, none⟩ = some (.int .i64 v.f2) := pw_cell_below hB h02
  have l0 : W1.cell? ⟨W.heap.size, 8, none⟩ = some (.int .i64 x.f4.f0) := (blk_cell hn 8).trans rfl
  have l1 : W1.cell? ⟨W.heap.size, 9, none⟩ = some (.int .i64 x.f4.f1) := (blk_cell hn 9).trans rfl
  have l2 : W1.cell? ⟨W.heap.size, 10, none⟩ = some (.int .i64 x.f4.f2) := (blk_cell hn 10).trans rfl
  have l3 : W1.cell? ⟨W.heap.size, 2, none⟩ = some (.int .i64 x.f2.f0) := (blk_cell hn 2).trans rfl
  have l4 : W1.cell? ⟨W.heap.size, 3, none⟩ = some (.int .i64 x.f2.f1) := (blk_cell hn 3).trans rfl
  have l5 : W1.cell? ⟨W.heap.size, 4, none⟩ = some (.int .i64 x.f2.f2) := (blk_cell hn 4).trans rfl
  go_wp2_with fail
  rw [← hW1]
  have HW := Aside0.mk hW1
  have HA := Aside0.mk h1
  have HL := Aside0.mk h2
  clear hW1 hn h0 h01 h02 h1 h2 hl
  have hBd : Below W.heap.size W W1.drew := below_drew hB
  go_region_held3 (fun w' => w'.cell? ⟨b, 0, none⟩ = some (.int .i64 v.f0) ∧ w'.cell? ⟨b, 1, none⟩ = some (.int .i64 v.f1) ∧ w'.cell? ⟨b, 2, none⟩ = some (.int .i64 v.f2) ∧ w'.cell? ⟨W.heap.size, 8, none⟩ = some (.int .i64 x.f4.f0) ∧ w'.cell? ⟨W.heap.size, 9, none⟩ = some (.int .i64 x.f4.f1) ∧ w'.cell? ⟨W.heap.size, 10, none⟩ = some (.int .i64 x.f4.f2) ∧ w'.cell? ⟨W.heap.size, 2, none⟩ = some (.int .i64 x.f2.f0) ∧ w'.cell? ⟨W.heap.size, 3, none⟩ = some (.int .i64 x.f2.f1) ∧ w'.cell? ⟨W.heap.size, 4, none⟩ = some (.int .i64 x.f2.f2) ∧ Below W.heap.size W w')
    (first | (go_keep; done) | (go_keep; exact below_drew (below_alloc hB _)) | (go_split_ands; refine ⟨?_, ?_, ?_, ?_, ?_, ?_, ?_, ?_, ?_, ?_⟩ <;> first | exact below_step (by first | assumption | exact below_drew (below_alloc hB _)) hb | exact pw_cell_below hb (by first | assumption | (go_keep; done))))
    (first | (go_at_call 119; refine (vec_Add.calls (some ⟨_, 0, none⟩) 2 [x.f4, v] r1 r2 r3 _ (vec_two_row _ _ (blk_drew (blk_new _ _))) (Nat.le_refl _) HA.out).mono ?_; rintro e w' ⟨rfl, hb⟩) | (go_at_call 118; refine (vec_Le.calls _ _ _ _ _ _ _ _ HL.out).mono ?_; rintro e w' ⟨rfl, hb⟩))
  rename_i hHeld
  have HBf := Aside0.mk hHeld.2.2.2.2.2.2.2.2.2
  clear hHeld
  go_wp2
  go_ret
  exact ⟨rfl, HBf.out⟩
set_option maxHeartbeats 2000000 in
set_option maxRecDepth 100000 in
theorem admitAll1_calls (W : World) (bi bp : Nat) (g : Nat) (lbi : Array Value) (p : S31 → Bool) (up : Value) (A : Option Addr) (c : Nat) (l : List S31) (s : ByteArray) (j : Int)
    (eg : ∀ args w, (callFunc g args).run Try.prog w = .ok (.enter g args) w)
    (hi : W.heap[bi]? = some (.cells #[.func (.func g) #[] lbi] 153 (0, 0))) (hq : W.heap[bp]? = some (.cells #[.slice A l.length c, up] 149 (0, 0)))
    (hr : Kd.C k31 W A l.length l) (hc : l.length ≤ c) (hj : tree_Find.f l s = some j) (h0 : 0 ≤ j) (h1 : j < (l.length : Int))
    (hp : ∀ W' x, Below W.heap.size W W' → Calls Try.prog g (#[.agg (itemCells x)] ++ lbi) W' fun e w' => e = .returned (.bool (p x)) ∧ Below W'.heap.size W' w') :
    Calls Try.prog 161 #[.string s, .pointer (some ⟨bi, 0, none⟩), .pointer (some ⟨bp, 0, none⟩)] W fun e w' => e = .returned (.bool (!p (rd_T31 l j))) ∧ Below W.heap.size W w' := by
  have hu31 := Try.underlying31
  have hu149 := Try.underlying149
  have hu147 := Try.underlying147
  obtain ⟨ad, e1, k0, k1, k2, k3, k4, k5, k6, k7, k8, k9, k10, k11⟩ := at_T31 hr j h0 h1
  cases e1
  have i0 : W.cell? ⟨bi, 0, none⟩ = some (.func (.func g) #[] lbi) := (blk_cell hi 0).trans rfl
  have p0 : W.cell? ⟨bp, 0, none⟩ = some (.slice (some ad) l.length c) := (blk_cell hq 0).trans rfl
  have HR := Aside0.mk hr
  have HC := Aside0.mk hc
  have HJ := Aside0.mk hj
  have HP := Aside0.mk (hp · (rd_T31 l j))
  have HEG := Aside0.mk eg
  have hbx := itemCells.eq_1 (rd_T31 l j)
  generalize rd_T31 l j = x at k0 k1 k2 k3 k4 k5 k6 k7 k8 k9 k10 k11 HP hbx ⊢
  rw [hbx] at HP
  have hB : Below W.heap.size W W := Below.refl _ _
  have hBd : Below W.heap.size W W.drew := below_drew hB
  clear hi hq hr hc hj hp eg hbx
  have eg := HEG.out
  have q0 := eq_true h0
  have q1 := eq_true h1
  clear h0 h1
  go_enter Try.func161, Try.ntmps161
  go_wp2_with fail
  go_region_held3 (fun w' => w'.cell? ⟨bi, 0, none⟩ = some (.func (.func g) #[] lbi) ∧ w'.cell? ⟨bp, 0, none⟩ = some (.slice (some ad) l.length c) ∧ w'.cell? (ad.add (j.toNat * 12)) = some (.string x.f0) ∧ w'.cell? ⟨(ad.add (j.toNat * 12)).block, (ad.add (j.toNat * 12)).off + 1, none⟩ = some (.string x.f1) ∧ w'.cell? ⟨(ad.add (j.toNat * 12)).block, (ad.add (j.toNat * 12)).off + 2, none⟩ = some (.int .i64 x.f2.f0) ∧ w'.cell? ⟨(ad.add (j.toNat * 12)).block, (ad.add (j.toNat * 12)).off + 3, none⟩ = some (.int .i64 x.f2.f1) ∧ w'.cell? ⟨(ad.add (j.toNat * 12)).block, (ad.add (j.toNat * 12)).off + 4, none⟩ = some (.int .i64 x.f2.f2) ∧ w'.cell? ⟨(ad.add (j.toNat * 12)).block, (ad.add (j.toNat * 12)).off + 5, none⟩ = some (.int .i64 x.f3.f0) ∧ w'.cell? ⟨(ad.add (j.toNat * 12)).block, (ad.add (j.toNat * 12)).off + 6, none⟩ = some (.int .i64 x.f3.f1) ∧ w'.cell? ⟨(ad.add (j.toNat * 12)).block, (ad.add (j.toNat * 12)).off + 7, none⟩ = some (.int .i64 x.f3.f2) ∧ w'.cell? ⟨(ad.add (j.toNat * 12)).block, (ad.add (j.toNat * 12)).off + 8, none⟩ = some (.int .i64 x.f4.f0) ∧ w'.cell? ⟨(ad.add (j.toNat * 12)).block, (ad.add (j.toNat * 12)).off + 9, none⟩ = some (.int .i64 x.f4.f1) ∧ w'.cell? ⟨(ad.add (j.toNat * 12)).block, (ad.add (j.toNat * 12)).off + 10, none⟩ = some (.int .i64 x.f4.f2) ∧ w'.cell? ⟨(ad.add (j.toNat * 12)).block, (ad.add (j.toNat * 12)).off + 11, none⟩ = some (.int .i64 x.f5) ∧ Below W.heap.size W w')
    (first | (go_keep; done) | (go_split_ands; refine ⟨?_, ?_, ?_, ?_, ?_, ?_, ?_, ?_, ?_, ?_, ?_, ?_, ?_, ?_, ?_⟩ <;> first | exact below_step (by assumption) hb | exact pw_cell_below hb (by first | assumption | (go_keep; done))))
    (first | (go_at_call 132; refine (admit_live_at.calls _ _ l s j _ (Kd.C_below HR.out (by assumption)) HC.out HJ.out).mono ?_; rintro e w' ⟨rfl, hb⟩) | (go_at_fn g; refine (HP.out _ (by first | assumption | (go_split_ands; assumption))).mono ?_; rintro e w' ⟨rfl, hb⟩))
  rename_i hHeld
  have HBf := Aside0.mk hHeld.2.2.2.2.2.2.2.2.2.2.2.2.2.2
  clear hHeld
  go_wp2
  go_ret
  exact ⟨rfl, HBf.out⟩
/-- is each of the way up so? (each must be there) -/
def admAllF (p : S31 → Bool) (l : List S31) (us : List ByteArray) : Option Bool :=
  if us.all (fun s => decide (0 ≤ (tree_Find.f l s).getD 0) && decide ((tree_Find.f l s).getD 0 < (l.length : Int))) = true then some (us.all fun s => p (rd_T31 l ((tree_Find.f l s).getD 0))) else none
set_option maxHeartbeats 2000000 in
set_option maxRecDepth 100000 in
theorem admitAll_calls (g : Nat) (lbi : Array Value) (p : S31 → Bool) (A Au : Option Addr) (c cu : Nat) (l : List S31) (us : List ByteArray) (q : Bool) (w : World)
    (eg : ∀ args w, (callFunc g args).run Try.prog w = .ok (.enter g args) w) (hr : Kd.C k31 w A l.length l) (hc : l.length ≤ c) (hu : Kd.C Kd.string w Au us.length us) (hcu : us.length ≤ cu)
    (hp : ∀ W' x, Below w.heap.size w W' → Calls Try.prog g (#[.agg (itemCells x)] ++ lbi) W' fun e w' => e = .returned (.bool (p x)) ∧ Below W'.heap.size W' w') (h : admAllF p l us = some q) :
    Calls Try.prog 116 #[.agg #[.slice A l.length c, .slice Au us.length cu], .func (.func g) #[] lbi] w fun e w' => e = .returned (.bool q) ∧ Below w.heap.size w w' := by
  have hu149 := Try.underlying149
  have hall : us.all (fun s => decide (0 ≤ (tree_Find.f l s).getD 0) && decide ((tree_Find.f l s).getD 0 < (l.length : Int))) = true ∧ us.all (fun s => p (rd_T31 l ((tree_Find.f l s).getD 0))) = q := by
    unfold admAllF at h
    split at h
    · exact ⟨by assumption, Option.some.inj h⟩
    · cases h
  obtain ⟨hall, rfl⟩ := hall
  obtain ⟨W1, hW1⟩ : ∃ W1, W1 = (w.alloc (.cells #[.slice A l.length c, .slice Au us.length cu] 149)).alloc (.cells #[.func (.func g) #[] lbi] 153) := ⟨_, rfl⟩
  have hn0 : W1.heap[w.heap.size]? = some (.cells #[.slice A l.length c, .slice Au us.length cu] 149 (0, 0)) := by rw [hW1]; exact blk_alloc (blk_new _ _) _
  have hn1 : W1.heap[w.heap.size + 1]? = some (.cells #[.func (.func g) #[] lbi] 153 (0, 0)) := by
    rw [hW1]
    have := blk_new (w.alloc (.cells #[.slice A l.length c, .slice Au us.length cu] 149)) (.cells #[.func (.func g) #[] lbi] 153)
    simpa using this
  have hB : Below w.heap.size w W1 := by rw [hW1]; exact below_alloc (below_alloc (Below.refl _ _) _) _
  have HC := Aside0.mk (containsStr_calls 161 #[.pointer (some ⟨w.heap.size + 1, 0, none⟩), .pointer (some ⟨w.heap.size, 0, none⟩)] (fun s => !p (rd_T31 l ((tree_Find.f l s).getD 0))) (enters_of Try.func161 (by kernel_rfl) rfl) W1 Au cu us
    (fun W x hx hb => by
      have hj := List.all_eq_true.1 hall x hx
      rw [Bool.and_eq_true, decide_eq_true_iff, decide_eq_true_iff] at hj
      exact admitAll1_calls W (w.heap.size + 1) w.heap.size g lbi p (.slice Au us.length cu) A c l x ((tree_Find.f l x).getD 0) eg (blk_below hn1 hb) (blk_below hn0 hb) (Kd.C_below (Kd.C_below hr hB) hb) hc rfl hj.1 hj.2 (fun W' y hb' => hp W' y (below_step (below_step hB hb) hb')))
    (Kd.C_below hu hB) hcu)
  have hneg : (!us.any fun s => !p (rd_T31 l ((tree_Find.f l s).getD 0))) = us.all (fun s => p (rd_T31 l ((tree_Find.f l s).getD 0))) := by rw [List.not_any_eq_all_not]; simp
  rw [← hneg]
  generalize (us.any fun s => !p (rd_T31 l ((tree_Find.f l s).getD 0))) = q at HC
  have HW := Aside0.mk hW1
  have HB := Aside0.mk hB
  have u0 : W1.cell? ⟨w.heap.size, 1, none⟩ = some (.slice Au us.length cu) := (blk_cell hn0 1).trans rfl
  have HU := Aside0.mk u0
  clear h hneg hall hn0 hn1 hB hW1 hp eg hr hu u0
  have hx : ((w.alloc (.cells #[.slice A l.length c, .slice Au us.length cu] 149)).alloc (.cells #[.func (.func g) #[] lbi] 153)).cell? ⟨w.heap.size, 1, none⟩ = some (.slice Au us.length cu) := by rw [← HW.out]; exact HU.out
  go_enter Try.func116, Try.ntmps116
  go_wp2_with (go_at_call 129; rw [← HW.out]; refine HC.out.mono ?_; rintro e w' ⟨rfl, hb'⟩; have HB' := Aside0.mk (below_step HB.out hb'); clear hb')
  go_ret
  exact ⟨rfl, HB'.out⟩
end Go.Proofs.Ytcgefpklljclgaa.Print

namespace Go.Proofs.Ytcgefpklljclgaa.Print
open Go.RowKit Go.Proofs.YtcgefpklljclgaaW.PrintWords Go.Proofs.YtcgefpklljclgaaW.PrintLast Go.Proofs.YtcgefpklljclgaaW.PrintMore
attribute [local go_sem] max2_int min2_int max_two min_two max_three min_three max_four min_four   -- for this text's walks alone
set_option linter.unusedVariables false
set_option linter.unusedSimpArgs false
/-! ### slices_Clone_Item: function 153 -/
/-- what slices.Clone makes: the same elements -/
def slices_Clone_Item.f (l0 : List (S31)) : Option (List (S31)) := if l0.length < 1256584717458 then some l0 else none
set_option maxHeartbeats 8000000 in
set_option maxRecDepth 100000 in
theorem slices_Clone_Item.calls (A0 : Option Addr) (c0 : Nat) (l0 : List (S31)) (r : List (S31)) (w : World) (hr0 : Kd.C k31 w A0 l0.length l0) (hc0 : l0.length ≤ c0) (h : slices_Clone_Item.f l0 = some r) :
    Calls Try.prog 153 #[.slice A0 l0.length c0] w fun e w' => ∃ v0_ : Value, e = .returned (v0_) ∧ Kd.R k31 31 w' w.heap.size (fun _ => True) v0_ r ∧ Below w.heap.size w w' := by
  have hlim : l0.length < 1256584717458 ∧ l0 = r := by
    unfold slices_Clone_Item.f at h
    split at h
    · exact ⟨by assumption, Option.some.inj h⟩
    · cases h
  obtain ⟨hlim, rfl⟩ := hlim
  have hnil := fun (W : World) (n c : Nat) => Lib.run_eql_slice_nil (P := Try.prog) W 24 31 A0 n c 0 0 Try.underlying24
  cases A0 with
  | none =>
    have hl : l0 = [] := by
      cases l0 with
      | nil => rfl
      | cons x l => exact absurd (hr0.2.2 (by simp)) (by simp)
    subst hl
    clear hr0
    go_enter Try.func153, Try.ntmps153
    go_wp2
    go_ret
    exact ⟨_, rfl, Kd.R_nil _ _ _ _ _, Below.refl _ _⟩
  | some ad =>
    have HR0 := Aside0.mk hr0
    have HC0 := Aside0.mk hc0
    have LM := Aside0.mk hlim
    clear hr0 hc0 hlim h
    have HB := Aside0.mk (Below.refl w.heap.size w)
    go_enter Try.func153, Try.ntmps153
    go_wp2_with (first | ((with_reducible refine gate_dst (N := 5) rfl ?_); refine Kd.R_lit k31 _ 31 ?hg (N := 5) ?hd (xs := ([] : List (S31))) (inner := []) (ok := fun _ => True) (okp := fun _ => True) ?hr ?hp (fun _ hk => hk) trivial (Below.refl _ _) (Nat.le_refl _) (by simp) ?_; (case hd => rfl); (case hg => rfl); (case hr => first | (go_simp; done) | (go_simp; rfl)); (case hp => exact (Reps.none _ _)); intro v2 w3 ho4 hb hg_ hnew_; clear hg_ hnew_; have n0_ := Aside0.mk (Kd.R_lower ho4 (below_size HB.out)); have n1_ := Aside0.mk (below_step HB.out hb); clear HB; have HO3 := n0_; have HB := n1_; clear n0_ n1_; clear hb ho4) | ((with_reducible refine gate_builtin (b := .append) (xs := #[.tmp 5, .tmp 6]) rfl ?_); at_builtin; refine Kd.R_append_rows k31 (w0 := w) w.heap.size rfl (.tmp 5) (.tmp 6) 24 31 (.agg #[(.string ⟨#[]⟩), (.string ⟨#[]⟩), (.int .i64 0), (.int .i64 0), (.int .i64 0), (.int .i64 0), (.int .i64 0), (.int .i64 0), (.int .i64 0), (.int .i64 0), (.int .i64 0), (.int .i64 0)]) 112 rfl Try.underlying24 info31 rfl (by decide) (by omega) v2 [] l0 _ _ _ (fun _ => True) (fun _ => False) rfl rfl ?aO ?aR (fun _ _ h => h) (fun _ h => h.elim) ?aF ?aB ?aS ?aL ?_; (case aR => exact (Kd.C_below HR0.out HB.out)); (case aB => exact HB.out); (case aF => exact (fun _ _ => trivial)); (case aO => exact HO3.out); (case aS => exact (below_size HB.out)); (case aL => have := LM.out; simp; omega); intro v5 w5 ho hb hg hat; have n0_ := Aside0.mk (hb); have n1_ := Aside0.mk (ho); clear HB; clear HO3; have HB := n0_; have HO6 := n1_; clear n0_ n1_; clear ho hb hg hat))
    go_ret
    exact ⟨_, rfl, HO6.out, HB.out⟩
end Go.Proofs.Ytcgefpklljclgaa.Print

namespace Go.Proofs.Ytcgefpklljclgaa.Print
open Go.RowKit Go.Proofs.YtcgefpklljclgaaW.PrintWords Go.Proofs.YtcgefpklljclgaaW.PrintLast Go.Proofs.YtcgefpklljclgaaW.PrintMore
attribute [local go_sem] max2_int min2_int max_two min_two max_three min_three max_four min_four   -- for this text's walks alone
set_option linter.unusedVariables false
set_option linter.unusedSimpArgs false
/-! ### admit_changed: function 120 -/
/-- an item's use, all in all, or its own, is turned -/
def subF (op : S27 → S27) (x : S31) : S31 := ⟨x.f0, x.f1, x.f2, x.f3, op x.f4, x.f5⟩
def ownF (op : S27 → S27) (x : S31) : S31 := ⟨x.f0, x.f1, x.f2, op x.f3, x.f4, x.f5⟩
def setAt (f : S31 → S31) (out : List S31) (j : Int) : List S31 := out.set j.toNat (f (rd_T31 out j))
def subs (op : S27 → S27) (l : List S31) (us : List ByteArray) (out : List S31) : List S31 := us.foldl (fun out s => setAt (subF op) out ((tree_Find.f l s).getD 0)) out
def found (l : List S31) (us : List ByteArray) : Bool := us.all (fun s => decide (0 ≤ (tree_Find.f l s).getD 0) && decide ((tree_Find.f l s).getD 0 < (l.length : Int)))
def changedF (op : S27 → S27) (l : List S31) (us : List ByteArray) : Option (List S31) :=
  if found l us = true ∧ 0 < us.length then (slices_Clone_Item.f l).bind fun out => some (setAt (ownF op) (subs op l us out) ((tree_Find.f l (rdOf ByteArray.empty us 0)).getD 0)) else none
theorem setAt_len (f : S31 → S31) (out : List S31) (j : Int) : (setAt f out j).length = out.length := by unfold setAt; simp
theorem subs_take (op : S27 → S27) (l : List S31) (us : List ByteArray) (out : List S31) (i : Nat) (h : i < us.length) : subs op l (us.take (i + 1)) out = setAt (subF op) (subs op l (us.take i) out) ((tree_Find.f l (rdOf ByteArray.empty us i)).getD 0) := by
  unfold subs
  rw [List.take_succ_eq_append_getElem h, List.foldl_append, show rdOf ByteArray.empty us (i : Int) = us[i] from by simp [rdOf, h]]
  rfl
theorem subs_len (op : S27 → S27) (l : List S31) : ∀ (us : List ByteArray) (out : List S31), (subs op l us out).length = out.length
  | [], _ => rfl
  | s :: us, out => by
    show (subs op l us (setAt _ out _)).length = _
    rw [subs_len op l us, setAt_len]
/-- a row that isn't empty: where it lies -/
theorem row_head {α : Type} {d : Kd α} {e base : Nat} {ok : Nat → Prop} {w : World} {v : Value} {xs : List α} (h : d.R e w base ok v xs) (hn : 0 < xs.length) : ∃ (g c : Nat), v = .slice (some ⟨g, 0, none⟩) xs.length c ∧ base ≤ g ∧ g < w.heap.size := by
  obtain ⟨_, inner, ⟨_, h | ⟨g, cap, cur, rfl, hg, hh, _⟩⟩, _⟩ := h
  · omega
  · exact ⟨g, cap, rfl, hg, blk_lt hh⟩
set_option maxHeartbeats 4000000 in
set_option maxRecDepth 100000 in
theorem admitChanged_calls (g : Nat) (lb : Array Value) (op : S27 → S27) (A Au : Option Addr) (c cu : Nat) (l : List S31) (us : List ByteArray) (r : List S31) (w : World)
    (eg : ∀ args w, (callFunc g args).run Try.prog w = .ok (.enter g args) w) (hr : Kd.C k31 w A l.length l) (hc : l.length ≤ c) (hu : Kd.C Kd.string w Au us.length us) (hcu : us.length ≤ cu)
    (hp : ∀ W' u, Below w.heap.size w W' → Calls Try.prog g (#[.agg #[.int .i64 u.f0, .int .i64 u.f1, .int .i64 u.f2]] ++ lb) W' fun e w' => e = .returned (.agg #[.int .i64 (op u).f0, .int .i64 (op u).f1, .int .i64 (op u).f2]) ∧ Below W'.heap.size W' w')
    (h : changedF op l us = some r) :
    Calls Try.prog 120 #[.agg #[.slice A l.length c, .slice Au us.length cu], .func (.func g) #[] lb] w fun e w' => ∃ v0_ : Value, e = .returned v0_ ∧ Kd.R k31 31 w' w.heap.size (fun _ => True) v0_ r ∧ Below w.heap.size w w' := by
  have hu149 := Try.underlying149
  have hu147 := Try.underlying147
  have hu31 := Try.underlying31
  have hu27 := Try.underlying27
  have hx : (found l us = true ∧ 0 < us.length) ∧ ∃ out, slices_Clone_Item.f l = some out ∧ setAt (ownF op) (subs op l us out) ((tree_Find.f l (rdOf ByteArray.empty us 0)).getD 0) = r := by
    unfold changedF at h
    split at h
    · obtain ⟨out, h1, h2⟩ := Option.bind_eq_some_iff.1 h
      exact ⟨by assumption, out, h1, Option.some.inj h2⟩
    · cases h
  obtain ⟨⟨hf, hpos⟩, out, hcl, rfl⟩ := hx
  have hfind : ∀ i : Nat, i < us.length → ∃ j : Int, tree_Find.f l (rdOf ByteArray.empty us i) = some j ∧ 0 ≤ j ∧ j < (l.length : Int) := fun i hi => by
    have := List.all_eq_true.1 hf (rdOf ByteArray.empty us i) (by simp [rdOf, hi])
    rw [Bool.and_eq_true, decide_eq_true_iff, decide_eq_true_iff] at this
    exact ⟨_, rfl, this.1, this.2⟩
  have hol : out.length = l.length := by
    unfold slices_Clone_Item.f at hcl
    split at hcl
    · rw [Option.some.inj hcl]
    · cases hcl
  have hlen := fun us' => (subs_len op l us' out).trans hol
  have hm : us.length ≤ 9223372036854775807 := hu.2.1
  have HR := Aside0.mk hr
  have HC := Aside0.mk hc
  have HU := Aside0.mk hu
  have HP := Aside0.mk hp
  have HEG := Aside0.mk eg
  have HF := Aside0.mk hfind
  have HCL := Aside0.mk hcl
  have HL := Aside0.mk hlen
  have HT := Aside0.mk (subs_take op l us out)
  have HB := Aside0.mk (Below.refl w.heap.size w)
  clear h hr hc hu hp eg hfind hcl hlen hf hol
  go_enter Try.func120, Try.ntmps120
  go_wp2_with fail
  obtain ⟨w1, hw1⟩ : ∃ w1, w1 = w.alloc (.cells #[.slice A l.length c, .slice Au us.length cu] 149) := ⟨_, rfl⟩
  have hs1 : w1.heap.size = w.heap.size + 1 := by rw [hw1]; simp
  have hb1 : w1.heap[w.heap.size]? = some (.cells #[.slice A l.length c, .slice Au us.length cu] 149 (0, 0)) := by rw [hw1]; exact blk_new _ _
  have hB1 : Below w.heap.size w w1 := by rw [hw1]; exact below_alloc (Below.refl _ _) _
  rw [← hw1]
  have HS1 := Aside0.mk hs1
  clear hw1 hs1
  refine (slices_Clone_Item.calls _ _ l out _ (Kd.C_below HR.out hB1) HC.out HCL.out).mono ?_
  rintro e w2 ⟨v5, rfl, ho, hb⟩
  rw [HS1.out] at ho
  have HO := Aside0.mk ho
  have HK := Aside0.mk (blk_below hb1 hb)
  have HB2 := Aside0.mk (below_step hB1 hb)
  have hz2 : w.heap.size + 1 ≤ w2.heap.size := by rw [← HS1.out]; exact hb.size
  clear ho hb hb1 hB1
  have c0 := (blk_cell HK.out 0).trans rfl
  have c1 := (blk_cell HK.out 1).trans rfl
  go_wp2
  go_loopg [7, 8, 17] us.length (fun kq s7 s8 s17 wr => ∃ i : Nat, i ≤ us.length ∧ us.length - i ≤ kq ∧ s17 = .int .i64 i ∧ Aside0 (Below w.heap.size w wr) ∧ Aside0 (wr.heap[w.heap.size]? = some (.cells #[.slice A l.length c, .slice Au us.length cu] 149 (0, 0))) ∧ Aside0 (Kd.R k31 31 wr (w.heap.size + 1) (fun _ => True) v5 (subs op l (us.take i) out)))
  case atStart => exact ⟨0, by omega, by omega, rfl, HB2, HK, HO⟩
  case round =>
    clear HO HK HB2 c0 c1
    obtain ⟨i, hi, hg, rfl, HB3, HK, HO⟩ := hrel
    have c0 := (blk_cell HK.out 0).trans rfl
    have c1 := (blk_cell HK.out 1).trans rfl
    by_cases hlt : i < us.length
    · have hltz : (i : Int) < (us.length : Int) := by omega
      obtain ⟨j, hj, hj0, hj1⟩ := HF.out i hlt
      obtain ⟨ad, e1, h0⟩ := at_str HU.out (i : Int) (by omega) (by omega)
      cases e1
      simp only [Int.toNat_natCast] at h0
      replace h0 := (HB3.out.cell (World.block_lt_of_cell? w _ h0)).trans h0
      have HJ := Aside0.mk hj
      have hl1 : (subs op l (us.take i) out).length = l.length := HL.out _
      obtain ⟨gb, cap, hv5, hgb, hgl⟩ := row_head HO.out (by omega)
      rw [hl1] at hv5
      subst hv5
      obtain ⟨ad2, cc, e3, hcl, hK, hcc0⟩ := Kd.C_get (Kd.R_reads' HO.out).2.2 z31 j hj0 (by rw [hl1]; exact hj1)
      cases e3
      have hcc : ∀ j' u, cc[j']? = some u → wr.cell? (Addr.add ⟨gb, 0, none⟩ (j.toNat * 12 + j')) = some u := hcc0
      obtain rfl := k31_open hK
      have HT1 := Aside0.mk (HT.out i hlt)
      rw [HJ.out] at HT1
      have hy0 : (subs op l (us.take i) out).getD j.toNat z31 = rd_T31 (subs op l (us.take i) out) j := rfl
      rw [hy0] at hcc
      generalize hy : rd_T31 (subs op l (us.take i) out) j = y at hcc
      have HY := Aside0.mk hy
      have HS := Aside0.mk hl1
      have HCJ := Aside0.mk (show ∀ j' u, (itemCells y).toList[j']? = some u → wr.cell? ⟨gb, j.toNat * 12 + j', none⟩ = some u from fun j' u hu => by
        have := hcc j' u hu
        rwa [Addr.add_lit, Nat.zero_add] at this)
      clear hj hy hl1 hcc0 hcc hK hcl hy0
      have HJ0 := Aside0.mk hj0
      have HJ1 := Aside0.mk hj1
      have q0 := eq_true hj0
      have q1 := eq_true hj1
      go_wp2_with fail
      refine (admit_live_at.calls _ _ l _ j _ (Kd.C_below HR.out HB3.out) HC.out HJ.out).mono ?_
      rintro e w3 ⟨rfl, hb⟩
      have HB4 := Aside0.mk (below_step HB3.out hb)
      have HO4 := Aside0.mk (Kd.R_below HO.out hb)
      have HK4 := Aside0.mk (blk_below HK.out hb)
      have k8 : w3.cell? ⟨gb, j.toNat * 12 + 8, none⟩ = some (.int .i64 y.f4.f0) := (hb.cell (p := ⟨gb, j.toNat * 12 + 8, none⟩) hgl).trans (HCJ.out 8 _ rfl)
      have k9 : w3.cell? ⟨gb, j.toNat * 12 + 8 + 1, none⟩ = some (.int .i64 y.f4.f1) := (hb.cell (p := ⟨gb, j.toNat * 12 + 8 + 1, none⟩) hgl).trans (HCJ.out 9 _ rfl)
      have k10 : w3.cell? ⟨gb, j.toNat * 12 + 8 + 2, none⟩ = some (.int .i64 y.f4.f2) := (hb.cell (p := ⟨gb, j.toNat * 12 + 8 + 2, none⟩) hgl).trans (HCJ.out 10 _ rfl)
      have hl3 : gb < w3.heap.size := Nat.lt_of_lt_of_le hgl hb.size
      have HCJ4 := Aside0.mk (fun j' u hu => (hb.cell (p := ⟨gb, j.toNat * 12 + j', none⟩) hgl).trans (HCJ.out j' u hu))
      clear hb c0 c1 HB3 HO HK HCJ
      have c0 := (blk_cell HK4.out 0).trans rfl
      have c1 := (blk_cell HK4.out 1).trans rfl
      have eg := HEG.out
      go_wp2_with fail
      refine (HP.out w3 y.f4 HB4.out).mono ?_
      rintro e w4 ⟨rfl, hb⟩
      have HB5 := Aside0.mk (below_step HB4.out hb)
      have HO5 := Aside0.mk (Kd.R_below HO4.out hb)
      have HK5 := Aside0.mk (blk_below HK4.out hb)
      have HCJ5 := Aside0.mk (fun j' u hu => (hb.cell (p := ⟨gb, j.toNat * 12 + j', none⟩) hl3).trans (HCJ4.out j' u hu))
      clear hb HB4 HO4 HK4 HCJ4 c0 c1 k8 k9 k10
      go_wp2_with ((with_reducible refine gate_store (t := 27) (p := 35) (v := .tmp 33) rfl ?_); go_must (refine Kd.R_store k31 (w0 := w4) (w.heap.size + 1) rfl rfl 27 (.tmp 35) (.tmp 33) rfl 31 (g := gb) (n := l.length) (cap := cap) (o' := j.toNat * 12 + 8) j 8 (subs op l (us.take i) out) (subF op y) (.agg #[.int .i64 (op y.f4).f0, .int .i64 (op y.f4).f1, .int .i64 (op y.f4).f2]) [.int .i64 (op y.f4).f0, .int .i64 (op y.f4).f1, .int .i64 (op y.f4).f2] (itemCells y).toList (fun _ => True) (fun _ => False) rfl rfl rfl rfl ?ct ?c1 HO5.out ?c2 ?c3 rfl HCJ5.out (by show 8 + 3 ≤ 12; omega) ?cM (fun _ h => h.elim) (Below.refl _ _) ?_); (case ct => kernel_rfl); (case c1 => intro q hq; simp only [List.mem_cons, List.not_mem_nil, or_false] at hq; rcases hq with rfl | rfl | rfl <;> rfl); (case c2 => exact HJ0.out); (case c3 => exact HJ1.out); (case cM => exact k31_mkM _ _ _ (subF op y)); intro w5 ho hb hg; have HB6 := Aside0.mk (pw_below_grown HB5.out (some gb) HB5.out.size hg (fun k e => by cases e; omega)); have HK6 := Aside0.mk (blk_grown HK5.out hg (by intro e; cases e; omega)); have HO6 := Aside0.mk ho; have HZ6 := Aside0.mk hg.size; clear ho hb hg)
      go_roundg (us.length - (i + 1))
      case measure => omega
      case rel =>
        refine ⟨i + 1, by omega, by omega, by go_num, HB6, HK6, ⟨?_⟩⟩
        rw [HT1.out]
        show Kd.R _ _ _ _ _ _ ((subs op l (us.take i) out).set j.toNat (subF op (rd_T31 (subs op l (us.take i) out) j)))
        rw [HY.out]
        exact HO6.out
    · obtain rfl : i = us.length := by omega
      rw [List.take_length] at HO
      obtain ⟨j, hj, hj0, hj1⟩ := HF.out 0 hpos
      obtain ⟨ad, e1, h0⟩ := at_str HU.out 0 (by omega) (by omega)
      cases e1
      rw [Int.toNat_zero, show ad.add 0 = ad from by simp [Addr.add]] at h0
      replace h0 := (HB3.out.cell (World.block_lt_of_cell? w _ h0)).trans h0
      have HJ := Aside0.mk hj
      have hl1 : (subs op l us out).length = l.length := HL.out _
      obtain ⟨gb, cap, hv5, hgb, hgl⟩ := row_head HO.out (by omega)
      rw [hl1] at hv5
      subst hv5
      have HJ0 := Aside0.mk hj0
      have HJ1 := Aside0.mk hj1
      have HL1 := Aside0.mk hl1
      have q0 := eq_true hj0
      have q1 := eq_true hj1
      have q2 := eq_true hpos
      clear hj hj0 hj1 hl1 hpos
      have hB0 : Below wr.heap.size wr wr := Below.refl _ _
      have hBd : Below wr.heap.size wr wr.drew := below_drew hB0
      go_wp2_with fail
      go_region_held3 (fun w' => w'.cell? ⟨w.heap.size, 0, none⟩ = some (.slice A l.length c) ∧ w'.cell? ⟨w.heap.size, 1, none⟩ = some (.slice (some ad) us.length cu) ∧ w'.cell? ad = some (.string (rdOf ByteArray.empty us 0)) ∧ Below wr.heap.size wr w')
        (first | (go_keep; done) | (go_split_ands; refine ⟨?_, ?_, ?_, ?_⟩ <;> first | exact below_step (by assumption) hb | exact pw_cell_below hb (by first | assumption | (go_keep; done))))
        (first | (go_at_call 132; refine (admit_live_at.calls _ _ l _ j _ (Kd.C_below HR.out (by first | exact HB3.out | exact below_drew HB3.out)) HC.out HJ.out).mono ?_; rintro e w' ⟨rfl, hb⟩))
      rename_i hHeld
      have hBz : Below wr.heap.size wr w' := hHeld.2.2.2
      have HO4 := Aside0.mk (Kd.R_below HO.out hBz)
      have HK4 := Aside0.mk (blk_below HK.out hBz)
      have HB4 := Aside0.mk (below_step HB3.out hBz)
      have hl3 : gb < w'.heap.size := Nat.lt_of_lt_of_le hgl hBz.size
      clear hHeld hb hBz HO HK HB3 c0 c1 h0
      obtain ⟨ad2, cc, e3, hcl, hK, hcc0⟩ := Kd.C_get (Kd.R_reads' HO4.out).2.2 z31 j HJ0.out (by rw [HL1.out]; exact HJ1.out)
      cases e3
      have hcc : ∀ j' u, cc[j']? = some u → w'.cell? (Addr.add ⟨gb, 0, none⟩ (j.toNat * 12 + j')) = some u := hcc0
      obtain rfl := k31_open hK
      have hy0 : (subs op l us out).getD j.toNat z31 = rd_T31 (subs op l us out) j := rfl
      rw [hy0] at hcc
      generalize hy : rd_T31 (subs op l us out) j = y at hcc
      have HY := Aside0.mk hy
      have HCJ4 := Aside0.mk (show ∀ j' u, (itemCells y).toList[j']? = some u → w'.cell? ⟨gb, j.toNat * 12 + j', none⟩ = some u from fun j' u hu => by
        have := hcc j' u hu
        rwa [Addr.add_lit, Nat.zero_add] at this)
      clear hy hcc0 hcc hK hcl hy0
      have k5 : w'.cell? ⟨gb, j.toNat * 12 + 5, none⟩ = some (.int .i64 y.f3.f0) := HCJ4.out 5 _ rfl
      have k6 : w'.cell? ⟨gb, j.toNat * 12 + 5 + 1, none⟩ = some (.int .i64 y.f3.f1) := HCJ4.out 6 _ rfl
      have k7 : w'.cell? ⟨gb, j.toNat * 12 + 5 + 2, none⟩ = some (.int .i64 y.f3.f2) := HCJ4.out 7 _ rfl
      have eg := HEG.out
      go_wp2_with fail
      refine (HP.out w' y.f3 HB4.out).mono ?_
      rintro e w4 ⟨rfl, hb⟩
      have HB5 := Aside0.mk (below_step HB4.out hb)
      have HO5 := Aside0.mk (Kd.R_below HO4.out hb)
      have HK5 := Aside0.mk (blk_below HK4.out hb)
      have HCJ5 := Aside0.mk (fun j' u hu => (hb.cell (p := ⟨gb, j.toNat * 12 + j', none⟩) hl3).trans (HCJ4.out j' u hu))
      clear hb HB4 HO4 HK4 HCJ4 k5 k6 k7
      go_wp2_with ((with_reducible refine gate_store (t := 27) (p := 54) (v := .tmp 52) rfl ?_); go_must (refine Kd.R_store k31 (w0 := w4) (w.heap.size + 1) rfl rfl 27 (.tmp 54) (.tmp 52) rfl 31 (g := gb) (n := l.length) (cap := cap) (o' := j.toNat * 12 + 5) j 5 (subs op l us out) (ownF op y) (.agg #[.int .i64 (op y.f3).f0, .int .i64 (op y.f3).f1, .int .i64 (op y.f3).f2]) [.int .i64 (op y.f3).f0, .int .i64 (op y.f3).f1, .int .i64 (op y.f3).f2] (itemCells y).toList (fun _ => True) (fun _ => False) rfl rfl rfl rfl ?ct ?c1 HO5.out ?c2 ?c3 rfl HCJ5.out (by show 5 + 3 ≤ 12; omega) ?cM (fun _ h => h.elim) (Below.refl _ _) ?_); (case ct => kernel_rfl); (case c1 => intro q hq; simp only [List.mem_cons, List.not_mem_nil, or_false] at hq; rcases hq with rfl | rfl | rfl <;> rfl); (case c2 => exact HJ0.out); (case c3 => exact HJ1.out); (case cM => exact k31_mkM _ _ _ (ownF op y)); intro w5 ho hb hg; have HB6 := Aside0.mk (pw_below_grown HB5.out (some gb) HB5.out.size hg (fun k e => by cases e; omega)); have HK6 := Aside0.mk (blk_grown HK5.out hg (by intro e; cases e; omega)); have HO6 := Aside0.mk ho; have HZ6 := Aside0.mk hg.size; clear ho hb hg)
      go_ret
      refine ⟨_, rfl, ?_, HB6.out⟩
      rw [show rdOf ByteArray.empty us 0 = rdOf ByteArray.empty us ((0 : Nat) : Int) from rfl, HJ.out]
      show Kd.R _ _ _ _ _ _ ((subs op l us out).set j.toNat (ownF op (rd_T31 (subs op l us out) j)))
      rw [HY.out]
      exact Kd.R_lower HO6.out (Nat.le_succ _)
end Go.Proofs.Ytcgefpklljclgaa.Print

namespace Go.Proofs.Ytcgefpklljclgaa.Print
open Go.RowKit Go.Proofs.YtcgefpklljclgaaW.PrintWords Go.Proofs.YtcgefpklljclgaaW.PrintLast Go.Proofs.YtcgefpklljclgaaW.PrintMore
attribute [local go_sem] max2_int min2_int max_two min_two max_three min_three max_four min_four   -- for this text's walks alone
set_option linter.unusedVariables false
set_option linter.unusedSimpArgs false
/-! ### admit_Admit: function 60 -/
/-- one amount added to another, as the program adds -/
def opAdd (v u : S27) : S27 := ⟨((vec_Add.f [u, v]).getD (0, 0, 0)).1, ((vec_Add.f [u, v]).getD (0, 0, 0)).2.1, ((vec_Add.f [u, v]).getD (0, 0, 0)).2.2⟩
def leV (a b : S27) : Bool := (vec_Le.f a.f0 a.f1 a.f2 b.f0 b.f1 b.f2).getD false
theorem leV_eq (a b : S27) : vec_Le.f a.f0 a.f1 a.f2 b.f0 b.f1 b.f2 = some (leV a b) := by
  unfold leV vec_Le.f
  split <;> (try split) <;> rfl
set_option maxHeartbeats 1000000 in
set_option maxRecDepth 100000 in
theorem admit2_calls (W : World) (b : Nat) (v u : S27) (hb : W.heap[b]? = some (.cells #[.int .i64 v.f0, .int .i64 v.f1, .int .i64 v.f2] 27 (0, 0))) :
    Calls Try.prog 121 #[.agg #[.int .i64 u.f0, .int .i64 u.f1, .int .i64 u.f2], .pointer (some ⟨b, 0, none⟩)] W fun e w' => e = .returned (.agg #[.int .i64 (opAdd v u).f0, .int .i64 (opAdd v u).f1, .int .i64 (opAdd v u).f2]) ∧ Below W.heap.size W w' := by
  have hu27 := Try.underlying27
  obtain ⟨⟨q1, q2, q3⟩, hq⟩ : ∃ q : Int × Int × Int, vec_Add.f [u, v] = some q := ⟨_, rfl⟩
  rw [show opAdd v u = ⟨q1, q2, q3⟩ from by unfold opAdd; rw [hq]; rfl]
  have HQ := Aside0.mk hq
  clear hq
  have h0 := (blk_cell hb 0).trans rfl
  have h01 := (blk_cell hb 1).trans rfl
  have h02 := (blk_cell hb 2).trans rfl
  have hl : b < W.heap.size := blk_lt hb
  clear hb
  go_enter Try.func121, Try.ntmps121
  go_wp2_with fail
  obtain ⟨w3, hw3⟩ : ∃ w3, w3 = (W.alloc (.cells #[.int .i64 u.f0, .int .i64 u.f1, .int .i64 u.f2] 27)).alloc (.cells #[.int .i64 0, .int .i64 0, .int .i64 0] 27) := ⟨_, rfl⟩
  have hs3 : w3.heap.size = W.heap.size + 1 + 1 := by rw [hw3]; simp
  have hz3 : w3.heap[W.heap.size + 1]? = some (.cells #[.int .i64 0, .int .i64 0, .int .i64 0] 27 (0, 0)) := by rw [hw3]; have := blk_new (W.alloc (.cells #[.int .i64 u.f0, .int .i64 u.f1, .int .i64 u.f2] 27)) (.cells #[.int .i64 0, .int .i64 0, .int .i64 0] 27); simpa using this
  have hb3 : Below W.heap.size W w3 := by rw [hw3]; exact below_alloc (below_alloc (Below.refl _ _) _) _
  rw [← hw3, ← hs3]
  clear hw3
  have hn := blk_new w3 (.cells #[.int .i64 u.f0, .int .i64 u.f1, .int .i64 u.f2, .int .i64 v.f0, .int .i64 v.f1, .int .i64 v.f2] 27)
  refine (vec_Add.calls (some ⟨_, 0, none⟩) 2 [u, v] q1 q2 q3 _ (vec_two_row u v hn) (Nat.le_refl _) HQ.out).mono ?_
  rintro e w1 ⟨rfl, hb⟩
  have HB := Aside0.mk (below_step (below_step hb3 (below_alloc (Below.refl _ _) _)) hb)
  have HZ := Aside0.mk (blk_below (blk_alloc hz3 (.cells #[.int .i64 u.f0, .int .i64 u.f1, .int .i64 u.f2, .int .i64 v.f0, .int .i64 v.f1, .int .i64 v.f2] 27)) hb)
  have HS3 := Aside0.mk hs3
  clear hb hn hb3 hz3 hs3 h0 h01 h02
  have g0 := (blk_cell HZ.out 0).trans rfl
  have g1 := (blk_cell HZ.out 1).trans rfl
  have g2 := (blk_cell HZ.out 2).trans rfl
  have z0 := blk_frozen HZ.out 0
  have z1 := blk_frozen HZ.out 1
  have z2 := blk_frozen HZ.out 2
  have hs1 : W.heap.size + 1 < w1.heap.size := blk_lt HZ.out
  go_wp2
  refine bodyPost_ret (results_cell_row rfl _ _ (W.heap.size + 1) 27 #[.int .i64 q1, .int .i64 q2, .int .i64 q3] (0, 0) _ rfl (blk_put (blk_put (blk_put HZ.out 0 _ rfl) 1 _ rfl) 2 _ rfl) Try.underlying27 rfl (by kernel_rfl)) rfl ?_
  have hle : W.heap.size ≤ W.heap.size + 1 := by omega
  exact ⟨rfl, below_set (below_set (below_set HB.out hle) hle) hle⟩
set_option maxHeartbeats 1000000 in
set_option maxRecDepth 100000 in
theorem admitMade_calls (k : Nat) (A0 : Option Addr) (c0 : Nat) (l0 : List (S31)) (a1 : ByteArray) (us : List ByteArray) (w : World) (hr0 : Kd.C k31 w A0 l0.length l0) (hc0 : l0.length ≤ c0) (h : tree_Up.f k l0 a1 = some us) :
    Calls Try.prog 114 #[.slice A0 l0.length c0, .string a1] w fun e w' => ∃ (Au : Option Addr) (cu : Nat), e = .returned (.agg #[.slice A0 l0.length c0, .slice Au us.length cu]) ∧ Kd.C Kd.string w' Au us.length us ∧ us.length ≤ cu ∧ Below w.heap.size w w' := by
  have hu149 := Try.underlying149
  have hu147 := Try.underlying147
  have hn := blk_new w (.cells #[.slice none 0 0, .slice none 0 0] 149)
  have hB : Below w.heap.size w (w.alloc (.cells #[.slice none 0 0, .slice none 0 0] 149)) := below_alloc (Below.refl _ _) _
  have HC := Aside0.mk (tree_Up.calls k A0 c0 l0 a1 us _ (Kd.C_below hr0 hB) hc0 h)
  have HN := Aside0.mk hn
  have HB := Aside0.mk hB
  clear hr0 h hn hB
  go_enter Try.func114, Try.ntmps114
  go_wp2_with fail
  refine HC.out.mono ?_
  rintro e w1 ⟨v, rfl, ho, hb⟩
  obtain ⟨Au, cu, rfl, hl, hR⟩ := Kd.R_reads ho
  have HO := Aside0.mk ho
  have HN1 := Aside0.mk (blk_below HN.out hb)
  have HB1 := Aside0.mk (below_step HB.out hb)
  have HR := Aside0.mk hR
  clear ho hb hR HN HB HC
  have g0 := (blk_cell HN1.out 0).trans rfl
  have g1 := (blk_cell HN1.out 1).trans rfl
  have z0 := blk_frozen HN1.out 0
  have z1 := blk_frozen HN1.out 1
  have hs1 : w.heap.size < w1.heap.size := blk_lt HN1.out
  go_wp2
  refine bodyPost_ret (results_cell_row rfl _ _ w.heap.size 149 #[.slice A0 l0.length c0, .slice Au us.length cu] (0, 0) _ rfl (blk_put (blk_put HN1.out 0 _ rfl) 1 _ rfl) Try.underlying149 rfl (by kernel_rfl)) rfl ?_
  exact ⟨Au, cu, rfl, (Kd.R_reads' (Kd.R_set (Kd.R_set HO.out HN1.out (by decide) 0 _) (blk_put HN1.out 0 _ rfl) (by decide) 1 _)).2.2, hl, below_set (below_set HB1.out (Nat.le_refl _)) (Nat.le_refl _)⟩
/-- what Admit makes -/
def admit_Admit.f (k : Nat) (l0 : List (S31)) (a1 : ByteArray) (a2_0 : Int) (a2_1 : Int) (a2_2 : Int) : Option ((List (S31)) × Int) :=
  (tree_Up.f k l0 a1).bind fun us => (vec_May.f a2_0 a2_1 a2_2).bind fun m => if m = true then (if us.length = 0 then some ([], 2) else (admAllF (fun x => leV (opAdd ⟨a2_0, a2_1, a2_2⟩ x.f4) x.f2) l0 us).bind fun q => if q = true then (changedF (opAdd ⟨a2_0, a2_1, a2_2⟩) l0 us).bind fun r => some (r, 0) else some ([], 12)) else some ([], 1)
theorem admit_Admit.mono : ∀ a0 a1 a2 a3 a4 k, LeO (admit_Admit.f k a0 a1 a2 a3 a4) (admit_Admit.f (k + 1) a0 a1 a2 a3 a4) := by
  intro a0 a1 a2 a3 a4 k
  unfold admit_Admit.f
  exact LeO.bind (tree_Up.mono _ _ k) (fun _ => LeO.refl _)
set_option maxHeartbeats 4000000 in
set_option maxRecDepth 100000 in
theorem admit_Admit.calls (k : Nat) (A0 : Option Addr) (c0 : Nat) (l0 : List (S31)) (a1 : ByteArray) (a2_0 : Int) (a2_1 : Int) (a2_2 : Int) (r1 : List (S31)) (r2 : Int) (w : World) (hr0 : Kd.C k31 w A0 l0.length l0) (hc0 : l0.length ≤ c0) (h : admit_Admit.f k l0 a1 a2_0 a2_1 a2_2 = some (r1, r2)) :
    Calls Try.prog 60 #[.slice A0 l0.length c0, .string a1, .agg #[.int .i64 a2_0, .int .i64 a2_1, .int .i64 a2_2]] w fun e w' => ∃ v0_ : Value, e = .returned (.tuple #[v0_, .int .i64 r2]) ∧ Kd.R k31 31 w' w.heap.size (fun _ => True) v0_ r1 ∧ Below w.heap.size w w' := by
  have hu149 := Try.underlying149
  have hu27 := Try.underlying27
  obtain ⟨us, hus, h1⟩ := Option.bind_eq_some_iff.1 h
  obtain ⟨m, hm, h2⟩ := Option.bind_eq_some_iff.1 h1
  obtain ⟨w1, hw1⟩ : ∃ w1, w1 = w.alloc (.cells #[.int .i64 a2_0, .int .i64 a2_1, .int .i64 a2_2] 27) := ⟨_, rfl⟩
  have hv1 : w1.heap[w.heap.size]? = some (.cells #[.int .i64 a2_0, .int .i64 a2_1, .int .i64 a2_2] 27 (0, 0)) := by rw [hw1]; exact blk_new _ _
  have hB1 : Below w.heap.size w w1 := by rw [hw1]; exact below_alloc (Below.refl _ _) _
  have HC := Aside0.mk (admitMade_calls k A0 c0 l0 a1 us w1 (Kd.C_below hr0 hB1) hc0 hus)
  have HR := Aside0.mk hr0
  have HM := Aside0.mk hm
  have HH := Aside0.mk h2
  have HW1 := Aside0.mk hw1
  have HV1 := Aside0.mk hv1
  have HB1 := Aside0.mk hB1
  clear hus h h1 h2 hm hr0 hw1 hv1 hB1
  go_enter Try.func60, Try.ntmps60
  go_wp2_with fail
  rw [← HW1.out]
  refine HC.out.mono ?_
  rintro e w2 ⟨Au, cu, rfl, hu, hcu, hb⟩
  have HU := Aside0.mk hu
  have HB2 := Aside0.mk (below_step HB1.out hb)
  have HV2 := Aside0.mk (blk_below HV1.out hb)
  clear hu hb HC HV1 HB1 HW1
  have g0 := (blk_cell HV2.out 0).trans rfl
  have g1 := (blk_cell HV2.out 1).trans rfl
  have g2 := (blk_cell HV2.out 2).trans rfl
  have hlv : w.heap.size < w2.heap.size := blk_lt HV2.out
  go_wp2_with fail
  obtain ⟨w3, hw3⟩ : ∃ w3, w3 = w2.alloc (.cells #[.slice A0 l0.length c0, .slice Au us.length cu] 149) := ⟨_, rfl⟩
  have hp3 : w3.heap[w2.heap.size]? = some (.cells #[.slice A0 l0.length c0, .slice Au us.length cu] 149 (0, 0)) := by rw [hw3]; exact blk_new _ _
  have hb3 : Below w2.heap.size w2 w3 := by rw [hw3]; exact below_alloc (Below.refl _ _) _
  rw [← hw3]
  refine (vec_May.calls _ _ _ _ _ HM.out).mono ?_
  rintro e w4 ⟨rfl, hb⟩
  have HB := Aside0.mk (below_step (below_step HB2.out hb3) hb)
  have HP := Aside0.mk (blk_below hp3 hb)
  have HV := Aside0.mk (blk_below (blk_below HV2.out hb3) hb)
  have HU4 := Aside0.mk (Kd.C_below (Kd.C_below HU.out hb3) hb)
  have HR4 := Aside0.mk (Kd.C_below HR.out HB.out)
  clear hw3 hp3 hb3 hb g0 g1 g2 HU HV2 HB2 HR
  have p0 := (blk_cell HP.out 0).trans rfl
  have p1 := (blk_cell HP.out 1).trans rfl
  have hlp : w2.heap.size < w4.heap.size := blk_lt HP.out
  cases m with
  | false =>
    have HH1 : Aside0 _ := ⟨Option.some.inj HH.out⟩
    have e1 : r1 = [] := (congrArg Prod.fst HH1.out).symm
    have e2 : r2 = 1 := (congrArg Prod.snd HH1.out).symm
    subst e1 e2
    go_wp2
    go_ret2
    exact ⟨_, rfl, Kd.R_nil _ _ _ _ _, HB.out⟩
  | true =>
    by_cases hz : us.length = 0
    · have HH1 : Aside0 _ := ⟨Option.some.inj ((if_pos hz).symm.trans HH.out)⟩
      have e1 : r1 = [] := (congrArg Prod.fst HH1.out).symm
      have e2 : r2 = 2 := (congrArg Prod.snd HH1.out).symm
      subst e1 e2
      have hzb : ((us.length : Int) == 0) = true := by rw [hz]; rfl
      clear HH HH1
      go_wp2
      go_ret2
      exact ⟨_, rfl, Kd.R_nil _ _ _ _ _, HB.out⟩
    · have hh := (if_neg hz).symm.trans HH.out
      obtain ⟨q, hq, h3⟩ := Option.bind_eq_some_iff.1 hh
      have hzb : ((us.length : Int) == 0) = false := beq_eq_false_iff_ne.2 (by omega)
      have HQ := Aside0.mk (admitAll_calls 117 #[.pointer (some ⟨w.heap.size, 0, none⟩)] (fun x => leV (opAdd ⟨a2_0, a2_1, a2_2⟩ x.f4) x.f2) A0 Au c0 cu l0 us q w4 (enters_of Try.func117 (by kernel_rfl) rfl) HR4.out hc0 HU4.out hcu
        (fun W' x hb => admit1_calls W' w.heap.size ⟨a2_0, a2_1, a2_2⟩ (blk_below HV.out hb) x _ _ _ _ (show vec_Add.f [x.f4, ⟨a2_0, a2_1, a2_2⟩] = some ((opAdd ⟨a2_0, a2_1, a2_2⟩ x.f4).f0, (opAdd ⟨a2_0, a2_1, a2_2⟩ x.f4).f1, (opAdd ⟨a2_0, a2_1, a2_2⟩ x.f4).f2) from rfl) (leV_eq _ _)) hq)
      have HH3 := Aside0.mk h3
      clear hh hq h3 HH hz
      go_wp2_with fail
      refine HQ.out.mono ?_
      rintro e w5 ⟨rfl, hb⟩
      have HB5 := Aside0.mk (below_step HB.out hb)
      have HP5 := Aside0.mk (blk_below HP.out hb)
      have HV5 := Aside0.mk (blk_below HV.out hb)
      have HU5 := Aside0.mk (Kd.C_below HU4.out hb)
      have HR5 := Aside0.mk (Kd.C_below HR4.out hb)
      clear hb HB HP HV HU4 HR4 p0 p1 HQ
      have p0 := (blk_cell HP5.out 0).trans rfl
      have p1 := (blk_cell HP5.out 1).trans rfl
      have hlp5 : w2.heap.size < w5.heap.size := blk_lt HP5.out
      cases q with
      | false =>
        have HH1 : Aside0 _ := ⟨Option.some.inj HH3.out⟩
        have e1 : r1 = [] := (congrArg Prod.fst HH1.out).symm
        have e2 : r2 = 12 := (congrArg Prod.snd HH1.out).symm
        subst e1 e2
        clear HH3 HH1
        go_wp2
        go_ret2
        exact ⟨_, rfl, Kd.R_nil _ _ _ _ _, HB5.out⟩
      | true =>
        obtain ⟨r, hr, h4⟩ := Option.bind_eq_some_iff.1 HH3.out
        have e1 : r = r1 := congrArg Prod.fst (Option.some.inj h4)
        have e2 : r2 = 0 := (congrArg Prod.snd (Option.some.inj h4)).symm
        subst e1 e2
        have HCH := Aside0.mk (admitChanged_calls 121 #[.pointer (some ⟨w.heap.size, 0, none⟩)] (opAdd ⟨a2_0, a2_1, a2_2⟩) A0 Au c0 cu l0 us r w5 (enters_of Try.func121 (by kernel_rfl) rfl) HR5.out hc0 HU5.out hcu
          (fun W' u hb => admit2_calls W' w.heap.size ⟨a2_0, a2_1, a2_2⟩ u (blk_below HV5.out hb)) hr)
        clear hr h4 HH3
        go_wp2_with fail
        refine HCH.out.mono ?_
        rintro e w6 ⟨v, rfl, ho, hb⟩
        have HB6 := Aside0.mk (below_step HB5.out hb)
        have HO6 := Aside0.mk (Kd.R_lower ho HB5.out.size)
        clear ho hb HCH
        go_wp2
        go_ret2
        exact ⟨_, rfl, HO6.out, HB6.out⟩
end Go.Proofs.Ytcgefpklljclgaa.Print

namespace Go.Proofs.Ytcgefpklljclgaa.Print
open Go.RowKit Go.Proofs.YtcgefpklljclgaaW.PrintWords Go.Proofs.YtcgefpklljclgaaW.PrintLast Go.Proofs.YtcgefpklljclgaaW.PrintMore
attribute [local go_sem] max2_int min2_int max_two min_two max_three min_three max_four min_four   -- for this text's walks alone
set_option linter.unusedVariables false
set_option linter.unusedSimpArgs false
theorem eqA31 (d : Nat) (w : World) (x0 y0 : ByteArray) (x1 y1 : ByteArray) (x2 y2 : Int) (x3 y3 : Int) (x4 y4 : Int) (x5 y5 : Int) (x6 y6 : Int) (x7 y7 : Int) (x8 y8 : Int) (x9 y9 : Int) (x10 y10 : Int) (x11 y11 : Int) :
    (Op.equalIn (d + 3) 31 (.agg #[.string x0, .string x1, .int .i64 x2, .int .i64 x3, .int .i64 x4, .int .i64 x5, .int .i64 x6, .int .i64 x7, .int .i64 x8, .int .i64 x9, .int .i64 x10, .int .i64 x11]) (.agg #[.string y0, .string y1, .int .i64 y2, .int .i64 y3, .int .i64 y4, .int .i64 y5, .int .i64 y6, .int .i64 y7, .int .i64 y8, .int .i64 y9, .int .i64 y10, .int .i64 y11])).run Try.prog w = .ok (x0.toList == y0.toList && (x1.toList == y1.toList && ((x2 == y2 && (x3 == y3 && (x4 == y4))) && ((x5 == y5 && (x6 == y6 && (x7 == y7))) && ((x8 == y8 && (x9 == y9 && (x10 == y10))) && (x11 == y11)))))) w := by
  refine eqA_of Try.underlying31 (by kernel_rfl) ?_
  refine eqf_cons (by rfl) (by go_simp; rfl) (by go_simp; rfl) (by go_simp) ?_
  refine eqf_cons (by rfl) (by go_simp; rfl) (by go_simp; rfl) (by go_simp) ?_
  refine eqf_cons (by rfl) (by go_simp) (by go_simp) (eqA27 (d + 0) w _ _ _ _ _ _) ?_
  refine eqf_cons (by rfl) (by go_simp) (by go_simp) (eqA27 (d + 0) w _ _ _ _ _ _) ?_
  refine eqf_cons (by rfl) (by go_simp) (by go_simp) (eqA27 (d + 0) w _ _ _ _ _ _) ?_
  exact eqf_last (by rfl) (by go_simp; rfl) (by go_simp; rfl) (by go_simp)
end Go.Proofs.Ytcgefpklljclgaa.Print

namespace Go.Proofs.Ytcgefpklljclgaa.Print
open Go.RowKit Go.Proofs.YtcgefpklljclgaaW.PrintWords Go.Proofs.YtcgefpklljclgaaW.PrintLast Go.Proofs.YtcgefpklljclgaaW.PrintMore
attribute [local go_sem] max2_int min2_int max_two min_two max_three min_three max_four min_four   -- for this text's walks alone
set_option linter.unusedVariables false
set_option linter.unusedSimpArgs false
attribute [local go_sem high] eqA31
/-! ### r10_SameItems: function 62 -/
def r10_SameItems.l0 : Nat → List (S31) → List (S31) → Int → Option (Bool)
 | 0, _, _, _ => none
 | k + 1, x0, x1, x5 => if x5 < (x0.length : Int) then (if 0 ≤ x5 then (if x5 < (x1.length : Int) then (if (!((((rd_T31 x0 x5).f0).toList) == (((rd_T31 x1 x5).f0).toList)) || (!((((rd_T31 x0 x5).f1).toList) == (((rd_T31 x1 x5).f1).toList)) || ((!(((rd_T31 x0 x5).f2.f0) == ((rd_T31 x1 x5).f2.f0)) || (!(((rd_T31 x0 x5).f2.f1) == ((rd_T31 x1 x5).f2.f1)) || (!(((rd_T31 x0 x5).f2.f2) == ((rd_T31 x1 x5).f2.f2))))) || ((!(((rd_T31 x0 x5).f3.f0) == ((rd_T31 x1 x5).f3.f0)) || (!(((rd_T31 x0 x5).f3.f1) == ((rd_T31 x1 x5).f3.f1)) || (!(((rd_T31 x0 x5).f3.f2) == ((rd_T31 x1 x5).f3.f2))))) || ((!(((rd_T31 x0 x5).f4.f0) == ((rd_T31 x1 x5).f4.f0)) || (!(((rd_T31 x0 x5).f4.f1) == ((rd_T31 x1 x5).f4.f1)) || (!(((rd_T31 x0 x5).f4.f2) == ((rd_T31 x1 x5).f4.f2))))) || (!(((rd_T31 x0 x5).f5) == ((rd_T31 x1 x5).f5)))))))) = true then (some false) else (r10_SameItems.l0 k x0 x1 (wrap64 (x5 + 1)))) else (none)) else (none)) else (some true)
def r10_SameItems.f (k : Nat) (l0 : List (S31)) (l1 : List (S31)) : Option (Bool) := if (l0.length : Int) = (l1.length : Int) then (r10_SameItems.l0 k l0 l1 0) else (some false)
theorem r10_SameItems.mono_l : ∀ k, (∀ y0 y1 y2, LeO (r10_SameItems.l0 k y0 y1 y2) (r10_SameItems.l0 (k + 1) y0 y1 y2))
 | 0 => fun _ _ _ r h => by simp [r10_SameItems.l0] at h
 | k + 1 => by
  have ih0 := r10_SameItems.mono_l k
  ·intro y0 y1 y2
   unfold r10_SameItems.l0
   repeat' first
   | (with_reducible exact ih0 _ _ _)
   | (with_reducible exact LeO.refl _)
   | (with_reducible exact LeO.none _)
   | (with_reducible refine LeO.ite ?_ ?_)
   | (with_reducible refine LeO.bind ?_ (fun _ => ?_))
   | exact ih0 _ _ _
   | exact LeO.none _
   | refine LeO.ite ?_ ?_
   | refine LeO.bind ?_ (fun _ => ?_)
theorem r10_SameItems.mono : ∀ a0 a1 k, LeO (r10_SameItems.f k a0 a1) (r10_SameItems.f (k + 1) a0 a1) := by
 intro a0 a1 k
 have ih0 := r10_SameItems.mono_l k
 unfold r10_SameItems.f
 repeat' first
   | (with_reducible exact ih0 _ _ _)
   | (with_reducible exact LeO.refl _)
   | (with_reducible exact LeO.none _)
   | (with_reducible refine LeO.ite ?_ ?_)
   | (with_reducible refine LeO.bind ?_ (fun _ => ?_))
   | exact ih0 _ _ _
   | exact LeO.none _
   | refine LeO.ite ?_ ?_
   | refine LeO.bind ?_ (fun _ => ?_)
set_option maxHeartbeats 8000000 in
set_option maxRecDepth 100000 in
theorem r10_SameItems.calls (k : Nat) (A0 : Option Addr) (c0 : Nat) (l0 : List (S31)) (A1 : Option Addr) (c1 : Nat) (l1 : List (S31)) (r : Bool) (w : World) (hr0 : Kd.C k31 w A0 l0.length l0) (hc0 : l0.length ≤ c0) (hr1 : Kd.C k31 w A1 l1.length l1) (hc1 : l1.length ≤ c1) (h : r10_SameItems.f k l0 l1 = some r) :
  Calls Try.prog 62 #[.slice A0 l0.length c0, .slice A1 l1.length c1] w fun e w' => e = .returned (.bool r) ∧ Drawn0 w w' := by
 have hu31 := Try.underlying31
 have HR0 := Aside0.mk hr0
 have HC0 := Aside0.mk hc0
 clear hr0 hc0
 have HR1 := Aside0.mk hr1
 have HC1 := Aside0.mk hc1
 clear hr1 hc1
 have H : (if (l0.length : Int) = (l1.length : Int) then (r10_SameItems.l0 k l0 l1 0) else (some false)) = some r := h
 clear h
 by_cases c3 : (l0.length : Int) = (l1.length : Int)
 ·rw [if_pos c3] at H
  have c3b0 : ((l0.length : Int) == (l1.length : Int)) = true := beq_iff_eq.mpr c3
  have c3b1 : ((l0.length : Int) != (l1.length : Int)) = false := bne_eq_false_iff_eq.mpr c3
  have c3b2 : (l0.length == l1.length) = true := by first | simpa using c3 | (simp at c3 ⊢; omega)
  clear c3
  have H' := Aside0.mk H
  clear H
  go_enter Try.func62, Try.ntmps62
  go_wp2
  repeat (go_quiet (fail); try go_wp2)
  go_loopg [5] k (fun kq v5 w' => ∃ (x5_1 : Int), v5 = .int .i64 x5_1 ∧ Aside0 (r10_SameItems.l0 kq l0 l1 x5_1 = some r) ∧ Aside0 (kq ≤ k) ∧ Drawn0 w w')
  case atStart => exact ⟨(0), (by first | rfl | (simp; done) | (simp [*]; done)), H', ⟨Nat.le_refl _⟩, by repeat (first | exact Drawn0.refl _ | apply Drawn0.step)⟩
  case round =>
   clear H'
   try clear c1
   try clear p2
   try clear c3
   try clear c3b0
   try clear c3b1
   try clear c3b2
   obtain ⟨x5_1, rfl, HA, HK1, ⟨m1, rfl⟩⟩ := hrel
   cases gk with
   | zero => exact absurd HA.out (by simp [r10_SameItems.l0])
   | succ k1 =>
    have H := HA.out
    clear HA
    simp only [r10_SameItems.l0] at H
    by_cases c4 : x5_1 < (l0.length : Int)
    ·rw [if_pos c4] at H
     have c4b0 : decide (x5_1 < (l0.length : Int)) = true := decide_eq_true c4
     clear c4
     by_cases c5 : 0 ≤ x5_1
     ·rw [if_pos c5] at H
      have c5b0 : decide (0 ≤ x5_1) = true := decide_eq_true c5
      clear c5
      by_cases c6 : x5_1 < (l1.length : Int)
      ·rw [if_pos c6] at H
       have c6b0 : decide (x5_1 < (l1.length : Int)) = true := decide_eq_true c6
       clear c6
       by_cases c7 : (!((((rd_T31 l0 x5_1).f0).toList) == (((rd_T31 l1 x5_1).f0).toList)) || (!((((rd_T31 l0 x5_1).f1).toList) == (((rd_T31 l1 x5_1).f1).toList)) || ((!(((rd_T31 l0 x5_1).f2.f0) == ((rd_T31 l1 x5_1).f2.f0)) || (!(((rd_T31 l0 x5_1).f2.f1) == ((rd_T31 l1 x5_1).f2.f1)) || (!(((rd_T31 l0 x5_1).f2.f2) == ((rd_T31 l1 x5_1).f2.f2))))) || ((!(((rd_T31 l0 x5_1).f3.f0) == ((rd_T31 l1 x5_1).f3.f0)) || (!(((rd_T31 l0 x5_1).f3.f1) == ((rd_T31 l1 x5_1).f3.f1)) || (!(((rd_T31 l0 x5_1).f3.f2) == ((rd_T31 l1 x5_1).f3.f2))))) || ((!(((rd_T31 l0 x5_1).f4.f0) == ((rd_T31 l1 x5_1).f4.f0)) || (!(((rd_T31 l0 x5_1).f4.f1) == ((rd_T31 l1 x5_1).f4.f1)) || (!(((rd_T31 l0 x5_1).f4.f2) == ((rd_T31 l1 x5_1).f4.f2))))) || (!(((rd_T31 l0 x5_1).f5) == ((rd_T31 l1 x5_1).f5)))))))) = true
       ·rw [if_pos c7] at H
        have c7b0 : (!((((rd_T31 l0 x5_1).f0).toList) == (((rd_T31 l1 x5_1).f0).toList)) || (!((((rd_T31 l0 x5_1).f1).toList) == (((rd_T31 l1 x5_1).f1).toList)) || ((!(((rd_T31 l0 x5_1).f2.f0) == ((rd_T31 l1 x5_1).f2.f0)) || (!(((rd_T31 l0 x5_1).f2.f1) == ((rd_T31 l1 x5_1).f2.f1)) || (!(((rd_T31 l0 x5_1).f2.f2) == ((rd_T31 l1 x5_1).f2.f2))))) || ((!(((rd_T31 l0 x5_1).f3.f0) == ((rd_T31 l1 x5_1).f3.f0)) || (!(((rd_T31 l0 x5_1).f3.f1) == ((rd_T31 l1 x5_1).f3.f1)) || (!(((rd_T31 l0 x5_1).f3.f2) == ((rd_T31 l1 x5_1).f3.f2))))) || ((!(((rd_T31 l0 x5_1).f4.f0) == ((rd_T31 l1 x5_1).f4.f0)) || (!(((rd_T31 l0 x5_1).f4.f1) == ((rd_T31 l1 x5_1).f4.f1)) || (!(((rd_T31 l0 x5_1).f4.f2) == ((rd_T31 l1 x5_1).f4.f2))))) || (!(((rd_T31 l0 x5_1).f5) == ((rd_T31 l1 x5_1).f5)))))))) = true := c7
        clear c7
        obtain rfl := Option.some.inj H
        have p1 : 0 ≤ (x5_1 : Int) := of_decide_eq_true (by first | (with_reducible assumption) | assumption)
        have q1 : x5_1 < (l0.length : Int) := of_decide_eq_true (by first | (with_reducible assumption) | assumption)
        obtain ⟨ad1, e1, hx1_0, hx1_1, hx1_2, hx1_3, hx1_4, hx1_5, hx1_6, hx1_7, hx1_8, hx1_9, hx1_10, hx1_11⟩ := at_T31 HR0.out x5_1 p1 q1
        cases e1
        replace p1 := eq_true p1
        replace q1 := eq_true q1
        have p2 : 0 ≤ (x5_1 : Int) := of_decide_eq_true (by first | (with_reducible assumption) | assumption)
        have q2 : x5_1 < (l1.length : Int) := of_decide_eq_true (by first | (with_reducible assumption) | assumption)
        obtain ⟨ad2, e2, hx2_0, hx2_1, hx2_2, hx2_3, hx2_4, hx2_5, hx2_6, hx2_7, hx2_8, hx2_9, hx2_10, hx2_11⟩ := at_T31 HR1.out x5_1 p2 q2
        cases e2
        replace p2 := eq_true p2
        replace q2 := eq_true q2
        go_wp2
        repeat (go_quiet (fail); try go_wp2)
        go_ret
        exact ⟨by first | rfl | (simp; done) | (simp [*]; done), by repeat (first | exact Drawn0.refl _ | apply Drawn0.step)⟩
       ·rw [if_neg c7] at H
        have c7b0 : (!((((rd_T31 l0 x5_1).f0).toList) == (((rd_T31 l1 x5_1).f0).toList)) || (!((((rd_T31 l0 x5_1).f1).toList) == (((rd_T31 l1 x5_1).f1).toList)) || ((!(((rd_T31 l0 x5_1).f2.f0) == ((rd_T31 l1 x5_1).f2.f0)) || (!(((rd_T31 l0 x5_1).f2.f1) == ((rd_T31 l1 x5_1).f2.f1)) || (!(((rd_T31 l0 x5_1).f2.f2) == ((rd_T31 l1 x5_1).f2.f2))))) || ((!(((rd_T31 l0 x5_1).f3.f0) == ((rd_T31 l1 x5_1).f3.f0)) || (!(((rd_T31 l0 x5_1).f3.f1) == ((rd_T31 l1 x5_1).f3.f1)) || (!(((rd_T31 l0 x5_1).f3.f2) == ((rd_T31 l1 x5_1).f3.f2))))) || ((!(((rd_T31 l0 x5_1).f4.f0) == ((rd_T31 l1 x5_1).f4.f0)) || (!(((rd_T31 l0 x5_1).f4.f1) == ((rd_T31 l1 x5_1).f4.f1)) || (!(((rd_T31 l0 x5_1).f4.f2) == ((rd_T31 l1 x5_1).f4.f2))))) || (!(((rd_T31 l0 x5_1).f5) == ((rd_T31 l1 x5_1).f5)))))))) = false := by simpa using c7
        clear c7
        have H' := Aside0.mk H
        clear H
        have p1 : 0 ≤ (x5_1 : Int) := of_decide_eq_true (by first | (with_reducible assumption) | assumption)
        have q1 : x5_1 < (l0.length : Int) := of_decide_eq_true (by first | (with_reducible assumption) | assumption)
        obtain ⟨ad1, e1, hx1_0, hx1_1, hx1_2, hx1_3, hx1_4, hx1_5, hx1_6, hx1_7, hx1_8, hx1_9, hx1_10, hx1_11⟩ := at_T31 HR0.out x5_1 p1 q1
        cases e1
        replace p1 := eq_true p1
        replace q1 := eq_true q1
        have p2 : 0 ≤ (x5_1 : Int) := of_decide_eq_true (by first | (with_reducible assumption) | assumption)
        have q2 : x5_1 < (l1.length : Int) := of_decide_eq_true (by first | (with_reducible assumption) | assumption)
        obtain ⟨ad2, e2, hx2_0, hx2_1, hx2_2, hx2_3, hx2_4, hx2_5, hx2_6, hx2_7, hx2_8, hx2_9, hx2_10, hx2_11⟩ := at_T31 HR1.out x5_1 p2 q2
        cases e2
        replace p2 := eq_true p2
        replace q2 := eq_true q2
        go_wp2
        repeat (go_quiet (fail); try go_wp2)
        go_roundg k1
        case measure => have := HK1.out; omega
        case rel => exact ⟨(wrap64 (x5_1 + 1)), (by first | rfl | (simp; done) | (simp [*]; done)), H', ⟨by have := HK1.out; omega⟩, by repeat (first | exact Drawn0.refl _ | apply Drawn0.step)⟩
      ·rw [if_neg c6] at H
       exact absurd H (by simp)
     ·rw [if_neg c5] at H
      exact absurd H (by simp)
    ·rw [if_neg c4] at H
     have c4b0 : decide (x5_1 < (l0.length : Int)) = false := decide_eq_false c4
     clear c4
     obtain rfl := Option.some.inj H
     go_wp2
     repeat (go_quiet (fail); try go_wp2)
     go_ret
     exact ⟨by first | rfl | (simp; done) | (simp [*]; done), by repeat (first | exact Drawn0.refl _ | apply Drawn0.step)⟩
 ·rw [if_neg c3] at H
  have c3b0 : ((l0.length : Int) == (l1.length : Int)) = false := beq_eq_false_iff_ne.mpr c3
  have c3b1 : ((l0.length : Int) != (l1.length : Int)) = true := bne_iff_ne.mpr c3
  have c3b2 : (l0.length == l1.length) = false := by first | simpa using c3 | (simp at c3 ⊢; omega)
  obtain rfl := Option.some.inj H
  go_enter Try.func62, Try.ntmps62
  go_wp2
  repeat (go_quiet (fail); try go_wp2)
  go_ret
  exact ⟨by first | rfl | (simp; done) | (simp [*]; done), by repeat (first | exact Drawn0.refl _ | apply Drawn0.step)⟩
end Go.Proofs.Ytcgefpklljclgaa.Print

namespace Go.Proofs.Ytcgefpklljclgaa.Print
open Go.RowKit Go.Proofs.YtcgefpklljclgaaW.PrintWords Go.Proofs.YtcgefpklljclgaaW.PrintLast Go.Proofs.YtcgefpklljclgaaW.PrintMore
set_option linter.unusedVariables false
set_option linter.unusedSimpArgs false
end Go.Proofs.Ytcgefpklljclgaa.Print

namespace Go.Proofs.Ytcgefpklljclgaa.Print
open Go.RowKit Go.Proofs.YtcgefpklljclgaaW.PrintWords Go.Proofs.YtcgefpklljclgaaW.PrintLast Go.Proofs.YtcgefpklljclgaaW.PrintMore
set_option linter.unusedVariables false
set_option linter.unusedSimpArgs false
theorem fits_awake_ev : Ev (fun k => law13_awake.f k) true := Ev.of (g := fun k => law13_awake.f k) (fun k => law13_awake.mono k) (k := 20) (by kernel_rfl)
theorem least_att (c : Comp) (ws : List Item) : ∀ (a : Vec), c.of (leastV ws a) = c.of a ∨ ∃ x ∈ ws, c.of (leastV ws a) = c.of (freeV x) := by
  induction ws with
  | nil => intro a; exact .inl rfl
  | cons x ws ih =>
    intro a
    rw [least_cons]
    rcases ih (vmin a (freeV x)) with h | ⟨y, hy, h⟩
    · rw [h, of_vmin]
      by_cases q : c.of a ≤ c.of (freeV x)
      · left; omega
      · right; exact ⟨x, by simp, by omega⟩
    · right; exact ⟨y, by simp [hy], h⟩
theorem mem_ways {l : List Item} (hl : RightP l) {n : ByteArray} {x : Item} (hx : x ∈ l) (hm : x.f0 ∈ up l n) : x ∈ ways l n :=
  List.mem_map.2 ⟨x.f0, hm, fnd_rd (hl.look hx)⟩
def tightB (v : Vec) (x : Item) : Bool := decide ((freeV x).f0 = v.f0 ∨ (freeV x).f1 = v.f1 ∨ (freeV x).f2 = v.f2)
def tightL (ws : List Item) (v : Vec) : List ByteArray := (ws.filter (tightB v)).map (·.f0)
theorem room_tight_eq {ws : List Item} {v : Vec} {x : Item} (h : ItemOK x) : room_looker_tight.f ws v.f0 v.f1 v.f2 x.f0 x.f1 x.f2.f0 x.f2.f1 x.f2.f2 x.f3.f0 x.f3.f1 x.f3.f2 x.f4.f0 x.f4.f1 x.f4.f2 x.f5 = some (tightB v x) := by
  unfold room_looker_tight.f
  rw [room_free_eq h]
  simp only [Option.bind_some]
  unfold tightB
  by_cases h0 : (freeV x).f0 = v.f0
  · rw [if_pos h0]; simp [h0]
  · rw [if_neg h0]
    by_cases h1 : (freeV x).f1 = v.f1
    · rw [if_pos h1]; simp [h1]
    · rw [if_neg h1]
      congr 1
      rw [Bool.eq_iff_iff]
      simp [h0, h1]
theorem room_Tight_l0 (ws : List Item) (v : Vec) (hw : ∀ x ∈ ws, ItemOK x) (hs : ws.length < 1000000) : ∀ (d i : Nat) (acc : List ByteArray), ws.length - i = d → i ≤ ws.length → acc.length ≤ i →
    Ev (fun k => room_Tight.l0 k acc ws ws.length i ws v.f0 v.f1 v.f2) (acc ++ tightL (ws.drop i) v)
  | 0, i, acc, hd, hi, ha => by
    obtain rfl : i = ws.length := by omega
    rw [List.drop_length]
    refine Ev.step (f := fun _ => some acc) (fun k => ?_) (by rw [show acc ++ tightL [] v = acc from List.append_nil _]; exact Ev.now _)
    simp only [room_Tight.l0]
    rw [if_neg (by omega)]
  | d + 1, i, acc, hd, hi, ha => by
    have hlt : i < ws.length := by omega
    have hrd : rd_T31 ws (i : Int) = ws[i] := by rw [rd_item, Int.toNat_natCast]; simp [hlt]
    have hx : ItemOK ws[i] := hw _ (List.getElem_mem hlt)
    rw [List.drop_eq_getElem_cons hlt]
    by_cases ht : tightB v ws[i] = true
    · refine Ev.step (f := fun k => room_Tight.l0 k (acc ++ [ws[i].f0]) ws ws.length ((i + 1 : Nat) : Int) ws v.f0 v.f1 v.f2) (fun k => ?_) ?_
      · simp only [room_Tight.l0]
        rw [if_pos (by omega), if_pos (by omega), if_pos (by omega), hrd, room_tight_eq hx]
        simp only [Option.bind_some]
        rw [if_pos ht, if_pos (by omega), w64 (by omega) (by omega)]
        rfl
      · have := room_Tight_l0 ws v hw hs d (i + 1) (acc ++ [ws[i].f0]) (by omega) (by omega) (by simp; omega)
        rw [show tightL (ws[i] :: ws.drop (i + 1)) v = ws[i].f0 :: tightL (ws.drop (i + 1)) v from by unfold tightL; rw [List.filter_cons_of_pos ht]; rfl]
        rw [List.append_assoc] at this
        exact this
    · refine Ev.step (f := fun k => room_Tight.l0 k acc ws ws.length ((i + 1 : Nat) : Int) ws v.f0 v.f1 v.f2) (fun k => ?_) ?_
      · simp only [room_Tight.l0]
        rw [if_pos (by omega), if_pos (by omega), if_pos (by omega), hrd, room_tight_eq hx]
        simp only [Option.bind_some]
        rw [if_neg ht, w64 (by omega) (by omega)]
        rfl
      · have := room_Tight_l0 ws v hw hs d (i + 1) acc (by omega) (by omega) (by omega)
        rw [show tightL (ws[i] :: ws.drop (i + 1)) v = tightL (ws.drop (i + 1)) v from by unfold tightL; rw [List.filter_cons_of_neg ht]]
        exact this
theorem room_Tight_ev {l : List Item} (hl : RightP l) (n : ByteArray) : Ev (fun k => room_Tight.f k l n) (tightL (ways l n) (roomV l n)) := by
  have hlen := hl.len
  refine Ev.bind (room_made_ev hl n) ?_
  have h := room_Tight_l0 (ways l n) (roomV l n) (right_ways hl n) (by unfold ways; rw [List.length_map]; have := up_len l n; omega) _ 0 [] rfl (by omega) (by simp)
  rw [List.drop_zero, List.nil_append] at h
  exact h
theorem room_att {l : List Item} (hl : RightP l) {n : ByteArray} (hn : ∃ x, look l n = some x) (c : Comp) : ∃ x ∈ ways l n, c.of (roomV l n) = c.of (freeV x) := by
  obtain ⟨x, hx⟩ := hn
  have hm := look_mem hx
  have hw : x ∈ ways l n := mem_ways hl hm.1 (by rw [hm.2]; exact up_self hx)
  rcases least_att c (ways l n) most with h | h
  · refine ⟨x, hw, ?_⟩
    have h1 := least_le c (a := most) hw
    have h2 := free_may (hl.ok x hm.1) c
    have h3 : c.of most = 1099511627776 := by cases c <;> rfl
    unfold roomV
    omega
  · exact h
/-- what the room just holds, and no more -/
theorem room_fits {l : List Item} (hl : RightP l) (n : ByteArray) : ∀ x ∈ l, x.f0 ∈ up l n → LeP (vadd x.f4 (roomV l n)) x.f2 := fun x hx hm c => by
  have h1 := least_le c (a := most) (mem_ways hl hx hm)
  rw [of_vadd]
  unfold freeV at h1
  rw [of_vsub] at h1
  unfold roomV
  omega
theorem room_more {l : List Item} (hl : RightP l) {n : ByteArray} (hn : ∃ x, look l n = some x) {v : Vec} (hv : ∃ c : Comp, c.of (roomV l n) < c.of v) : ¬ ∀ x ∈ l, x.f0 ∈ up l n → LeP (vadd x.f4 v) x.f2 := by
  obtain ⟨c, hc⟩ := hv
  obtain ⟨x, hx, h⟩ := room_att hl hn c
  intro q
  have h2 := q x (ways_mem hx).1 (ways_mem hx).2 c
  unfold freeV at h
  rw [of_vadd] at h2
  rw [of_vsub] at h
  omega
theorem fits_l0 {l : List Item} (h : MadeP l) (p : ByteArray) (hp : ∃ x, look l p = some x) (hr1 : RightP (admL l p (roomV l p))) : ∀ (d i : Nat), (tightL (ways l p) (roomV l p)).length - i = d → i ≤ (tightL (ways l p) (roomV l p)).length →
    Ev (fun k => law13_RoomFits.l0 k (tightL (ways l p) (roomV l p)) i (admL l p (roomV l p)) 0) true
  | 0, i, hd, hi => by
    refine Ev.step (f := fun k => (law13_awake.f k).bind fun t5 => some t5) (fun k => ?_) (Ev.bind fits_awake_ev (Ev.now _))
    simp only [law13_RoomFits.l0]
    rw [if_neg (by omega)]
  | d + 1, i, hd, hi => by
    have hr := h.right
    have hlen := h.len
    have hlt : i < (tightL (ways l p) (roomV l p)).length := by omega
    have hb : (tightL (ways l p) (roomV l p)).length ≤ 1000 := by
      unfold tightL ways
      rw [List.length_map]
      have := List.length_filter_le (tightB (roomV l p)) ((up l p).map (fun u => rd_T31 l (fnd l u)))
      rw [List.length_map] at this
      have := up_len l p
      omega
    have hrd : rdOf ByteArray.empty (tightL (ways l p) (roomV l p)) (i : Int) = (tightL (ways l p) (roomV l p))[i] := by simp [rdOf, hlt]
    have hmem : (tightL (ways l p) (roomV l p))[i] ∈ tightL (ways l p) (roomV l p) := List.getElem_mem hlt
    generalize (tightL (ways l p) (roomV l p))[i] = s at hrd hmem
    obtain ⟨x, hx, rfl⟩ := List.mem_map.1 hmem
    obtain ⟨hxw, hxt⟩ := List.mem_filter.1 hx
    obtain ⟨hxl, hxu⟩ := ways_mem hxw
    have hlk : look (admL l p (roomV l p)) x.f0 = some (admF (up l p) p (roomV l p) x) := by
      have := look_map (f := admF (up l p) p (roomV l p)) (fun _ => rfl) l x.f0
      rw [hr.look hxl] at this
      exact this
    have hf := r10_Find_ev (admL l p (roomV l p)) x.f0 (by have := hr1.len; omega)
    have h0 := fnd_ge.2 ⟨_, hlk⟩
    have h1 := fnd_lt (admL l p (roomV l p)) x.f0
    have hg := fnd_rd hlk
    have e4 : (admF (up l p) p (roomV l p) x).f4 = vadd x.f4 (roomV l p) := if_pos hxu
    have e2 : (admF (up l p) p (roomV l p) x).f2 = x.f2 := rfl
    have ht : (freeV x).f0 = (roomV l p).f0 ∨ (freeV x).f1 = (roomV l p).f1 ∨ (freeV x).f2 = (roomV l p).f2 := of_decide_eq_true hxt
    have t0 : (freeV x).f0 = x.f2.f0 - x.f4.f0 := rfl
    have t1 : (freeV x).f1 = x.f2.f1 - x.f4.f1 := rfl
    have t2 : (freeV x).f2 = x.f2.f2 - x.f4.f2 := rfl
    have s0 : (vadd x.f4 (roomV l p)).f0 = x.f4.f0 + (roomV l p).f0 := rfl
    have s1 : (vadd x.f4 (roomV l p)).f1 = x.f4.f1 + (roomV l p).f1 := rfl
    have s2 : (vadd x.f4 (roomV l p)).f2 = x.f4.f2 + (roomV l p).f2 := rfl
    have rest := fits_l0 h p hp hr1 d (i + 1) (by omega) (by omega)
    refine Ev.step (f := fun k => (r10_Find.f k (admL l p (roomV l p)) x.f0).bind fun t27 => (if t27 < 0 then (some false) else (if 0 ≤ t27 then (if t27 < ((admL l p (roomV l p)).length : Int) then (if ((rd_T31 (admL l p (roomV l p)) t27).f4.f0) = ((rd_T31 (admL l p (roomV l p)) t27).f2.f0) then (law13_RoomFits.l0 k (tightL (ways l p) (roomV l p)) (wrap64 ((i : Int) + 1)) (admL l p (roomV l p)) 0) else (if ((rd_T31 (admL l p (roomV l p)) t27).f4.f1) = ((rd_T31 (admL l p (roomV l p)) t27).f2.f1) then (law13_RoomFits.l0 k (tightL (ways l p) (roomV l p)) (wrap64 ((i : Int) + 1)) (admL l p (roomV l p)) 0) else (if ((rd_T31 (admL l p (roomV l p)) t27).f4.f2) = ((rd_T31 (admL l p (roomV l p)) t27).f2.f2) then (law13_RoomFits.l0 k (tightL (ways l p) (roomV l p)) (wrap64 ((i : Int) + 1)) (admL l p (roomV l p)) 0) else (some false)))) else (none)) else (none)))) (fun k => ?_) ?_
    · simp only [law13_RoomFits.l0]
      rw [if_pos (by omega), if_pos (by omega), hrd]
    · refine Ev.bind hf ?_
      rw [w64 (by omega) (by omega)]
      refine Ev.congr (fun k => ?_) rest
      rw [if_neg (by omega), if_pos h0, if_pos (by omega), hg, e4, e2, s0, s1, s2]
      by_cases q0 : x.f4.f0 + (roomV l p).f0 = x.f2.f0
      · rw [if_pos q0]; rfl
      · rw [if_neg q0]
        by_cases q1 : x.f4.f1 + (roomV l p).f1 = x.f2.f1
        · rw [if_pos q1]; rfl
        · rw [if_neg q1, if_pos (by omega)]; rfl
theorem fits_j1 {l : List Item} (h : MadeP l) (p : ByteArray) (hp : ∃ x, look l p = some x) {v : Vec} (hv : MayP v) (hmore : ∃ c : Comp, c.of (roomV l p) < c.of v) :
    Ev (fun k => law13_RoomFits.j1 k l p (tightL (ways l p) (roomV l p)) (roomV l p).f0 (roomV l p).f1 (roomV l p).f2 v.f0 v.f1 v.f2) true := by
  have hr := h.right
  have hroom : MayP (roomV l p) := least_may (right_ways hr p) most_may
  have hfit := room_fits hr p
  obtain ⟨x, hx⟩ := hp
  have eA : admR l p (roomV l p) = (admL l p (roomV l p), 0) := by
    unfold admR
    rw [if_neg (show ¬ ¬ MayP (roomV l p) from fun q => q hroom), hx, if_neg (by simp), if_pos hfit]
  have eB : admR l p v = ([], 12) := by
    unfold admR
    rw [if_neg (show ¬ ¬ MayP v from fun q => q hv), hx, if_neg (by simp), if_neg (room_more hr ⟨x, hx⟩ hmore)]
  have hr1 := (admR_right hr (n := p) (v := roomV l p) (by rw [eA])).2.1
  refine Ev.step (f := fun k => (r10_Admit.f k l p (roomV l p).f0 (roomV l p).f1 (roomV l p).f2).bind fun bt17 => (if bt17.2 = 0 then ((r10_Admit.f k l p v.f0 v.f1 v.f2).bind fun bt22 => (law13_RoomFits.j2 k (tightL (ways l p) (roomV l p)) (bt22.2 != 12) bt17.1 bt17.2)) else (law13_RoomFits.j2 k (tightL (ways l p) (roomV l p)) true bt17.1 bt17.2))) (fun k => rfl) ?_
  refine Ev.bind (r10_Admit_ev hr p (roomV l p)) ?_
  rw [eA]
  simp only [reduceIte]
  refine Ev.bind (r10_Admit_ev hr p v) ?_
  rw [eB]
  refine Ev.step (f := fun k => law13_RoomFits.l0 k (tightL (ways l p) (roomV l p)) 0 (admL l p (roomV l p)) 0) (fun k => ?_) (fits_l0 h p ⟨x, hx⟩ hr1 _ 0 rfl (by omega))
  simp only [law13_RoomFits.j2]
  rfl
end Go.Proofs.Ytcgefpklljclgaa.Print
namespace Go.Proofs.Ytcgefpklljclgaa.Pure
open Go.RowKit Go.Proofs.Ytcgefpklljclgaa.Print Go.Proofs.YtcgefpklljclgaaW.PrintWords Go.Proofs.YtcgefpklljclgaaW.PrintLast
set_option linter.unusedVariables false
set_option linter.unusedSimpArgs false
theorem RoomFits : law13_RoomFits.Pure := by
  intro l0 a1 a2 hm hs hw w1 w2
  have b1 := u8_bd w1; have b2 := u8_bd w2
  have hawake : Ev (fun k => (law13_awake.f k).bind fun t => some t) true := Ev.bind fits_awake_ev (Ev.now _)
  unfold law13_RoomFits.f
  by_cases h90 : (l0.length : Int) > 90
  · exact Ev.rounds (Ev.congr (fun k => if_pos h90) hawake)
  obtain ⟨l, hlev, hM⟩ := made_all (ns := l0) (fun x hx => u8_bd (hw x hx)) (by omega)
  refine Ev.rounds (Ev.congr (fun k => if_neg h90) (Ev.bind hlev ?_))
  by_cases hz : (l.length : Int) = 0
  · exact Ev.congr (fun k => if_pos hz) hawake
  refine Ev.congr (fun k => if_neg hz) ?_
  have hr := hM.right
  have hlen := hr.len
  rw [w64 (n := a1) (by omega) (by omega)]
  have q1 := tmod_in (a := a1) (b := (l.length : Int)) b1.1 (by omega)
  have hp : ∃ x, Print.look l (rd_T31 l (Int.tmod a1 (l.length : Int))).f0 = some x := by
    have : rd_T31 l (Int.tmod a1 (l.length : Int)) ∈ l := by
      rw [rd_item, List.getD_eq_getElem?_getD, List.getElem?_eq_getElem (by omega), Option.getD_some]
      exact List.getElem_mem _
    exact ⟨_, hr.look this⟩
  generalize (rd_T31 l (Int.tmod a1 (l.length : Int))).f0 = p at hp
  have m2 := tmod_in (a := a2) (b := 3) b2.1 (by omega)
  refine Ev.congr (fun k => by rw [if_pos q1.1, if_pos q1.2]) ?_
  have hroom : MayP (roomV l p) := least_may (right_ways hr p) most_may
  have hR : roomR l p = ((roomV l p).f0, (roomV l p).f1, (roomV l p).f2, true) := by obtain ⟨x, hx⟩ := hp; unfold roomR; rw [hx, if_neg (by simp)]
  have hsm : ∀ c : Comp, c.of (roomV l p) ≤ 275 := fun c => by
    obtain ⟨x, hx, h⟩ := room_att hr hp c
    have h1 := (hM.lim x (ways_mem hx).1 c).2
    have h2 := ((hr.ok x (ways_mem hx).1).sub c).1
    unfold freeV at h
    rw [of_vsub] at h
    omega
  have ht : ¬ ((tightL (Print.ways l p) (roomV l p)).length : Int) = 0 := by
    obtain ⟨x, hx, h⟩ := room_att hr hp .cpu
    have : x.f0 ∈ tightL (Print.ways l p) (roomV l p) := List.mem_map.2 ⟨x, List.mem_filter.2 ⟨hx, decide_eq_true (.inl h.symm)⟩, rfl⟩
    have := List.length_pos_of_mem this
    omega
  have hmv : r10_MayVec.f (roomV l p).f0 (roomV l p).f1 (roomV l p).f2 = some true := (r10_MayVec_eq _ _ _).trans (congrArg some (decide_eq_true hroom))
  have g0 := hroom .cpu; have g1 := hroom .mem; have g2 := hroom .pods
  have s0 := hsm .cpu; have s1 := hsm .mem; have s2 := hsm .pods
  have mayc : MayP ⟨(roomV l p).f0 + 1, (roomV l p).f1, (roomV l p).f2⟩ := fun c => by cases c <;> simp only [Comp.of] at * <;> omega
  have maym : MayP ⟨(roomV l p).f0, (roomV l p).f1 + 1, (roomV l p).f2⟩ := fun c => by cases c <;> simp only [Comp.of] at * <;> omega
  have mayp : MayP ⟨(roomV l p).f0, (roomV l p).f1, (roomV l p).f2 + 1⟩ := fun c => by cases c <;> simp only [Comp.of] at * <;> omega
  have jc := fits_j1 hM p hp mayc ⟨.cpu, by simp only [Comp.of]; omega⟩
  have jm := fits_j1 hM p hp maym ⟨.mem, by simp only [Comp.of]; omega⟩
  have jp := fits_j1 hM p hp mayp ⟨.pods, by simp only [Comp.of]; omega⟩
  simp only [Comp.of] at g0 g1 g2 s0 s1 s2
  refine Ev.bind (room_Of_ev hr p) ?_
  rw [hR]
  refine Ev.bind (room_Tight_ev hr p) ?_
  refine Ev.congr (fun k => by rw [if_pos rfl, if_neg ht, hmv]) ?_
  simp only [Option.bind_some, Bool.not_true]
  by_cases c0 : Int.tmod a2 3 = 0
  · refine Ev.step (fun k => ?_) jc
    simp only [law13_RoomFits.j0]
    rw [if_neg Bool.false_ne_true, if_pos c0, w64 (by omega) (by omega)]
  · by_cases c1 : Int.tmod a2 3 = 1
    · refine Ev.step (fun k => ?_) jm
      simp only [law13_RoomFits.j0]
      rw [if_neg Bool.false_ne_true, if_neg c0, if_pos c1, w64 (n := (roomV l p).f1 + 1) (by omega) (by omega)]
    · refine Ev.step (fun k => ?_) jp
      simp only [law13_RoomFits.j0]
      rw [if_neg Bool.false_ne_true, if_neg c0, if_neg c1, w64 (n := (roomV l p).f2 + 1) (by omega) (by omega)]
end Go.Proofs.Ytcgefpklljclgaa.Pure

namespace Go.Proofs.Ytcgefpklljclgaa.Head
/-- the translation's head, sign by sign -/
def signs : List Char := [Char.ofNat 104, Char.ofNat 97, Char.ofNat 114, Char.ofNat 110, Char.ofNat 101, Char.ofNat 115, Char.ofNat 115, Char.ofNat 32, Char.ofNat 101, Char.ofNat 57, Char.ofNat 98, Char.ofNat 52, Char.ofNat 101, Char.ofNat 102, Char.ofNat 52, Char.ofNat 49, Char.ofNat 56, Char.ofNat 50, Char.ofNat 56, Char.ofNat 101, Char.ofNat 102, Char.ofNat 50, Char.ofNat 55, Char.ofNat 102, Char.ofNat 51, Char.ofNat 55, Char.ofNat 102, Char.ofNat 48, Char.ofNat 53, Char.ofNat 54, Char.ofNat 50, Char.ofNat 55, Char.ofNat 56, Char.ofNat 50, Char.ofNat 54, Char.ofNat 101, Char.ofNat 101, Char.ofNat 100, Char.ofNat 101, Char.ofNat 57, Char.ofNat 53, Char.ofNat 99, Char.ofNat 56, Char.ofNat 98, Char.ofNat 55, Char.ofNat 57, Char.ofNat 99, Char.ofNat 100, Char.ofNat 98, Char.ofNat 99, Char.ofNat 52, Char.ofNat 99, Char.ofNat 49, Char.ofNat 100, Char.ofNat 54, Char.ofNat 49, Char.ofNat 98, Char.ofNat 101, Char.ofNat 98, Char.ofNat 55, Char.ofNat 57, Char.ofNat 55, Char.ofNat 52, Char.ofNat 102, Char.ofNat 49, Char.ofNat 51, Char.ofNat 53, Char.ofNat 99, Char.ofNat 97, Char.ofNat 49, Char.ofNat 48, Char.ofNat 51, Char.ofNat 32, Char.ofNat 99, Char.ofNat 117, Char.ofNat 116, Char.ofNat 32, Char.ofNat 97, Char.ofNat 116, Char.ofNat 32, Char.ofNat 100, Char.ofNat 111, Char.ofNat 111, Char.ofNat 114, Char.ofNat 107, Char.ofNat 101, Char.ofNat 101, Char.ofNat 112, Char.ofNat 101, Char.ofNat 114, Char.ofNat 47, Char.ofNat 100, Char.ofNat 111, Char.ofNat 111, Char.ofNat 114, Char.ofNat 107, Char.ofNat 101, Char.ofNat 101, Char.ofNat 112, Char.ofNat 101, Char.ofNat 114, Char.ofNat 108, Char.ofNat 97, Char.ofNat 119, Char.ofNat 49, Char.ofNat 51, Char.ofNat 46, Char.ofNat 82, Char.ofNat 111, Char.ofNat 111, Char.ofNat 109, Char.ofNat 85, Char.ofNat 112, Char.ofNat 32, Char.ofNat 100, Char.ofNat 111, Char.ofNat 111, Char.ofNat 114, Char.ofNat 107, Char.ofNat 101, Char.ofNat 101, Char.ofNat 112, Char.ofNat 101, Char.ofNat 114, Char.ofNat 47, Char.ofNat 100, Char.ofNat 111, Char.ofNat 111, Char.ofNat 114, Char.ofNat 107, Char.ofNat 101, Char.ofNat 101, Char.ofNat 112, Char.ofNat 101, Char.ofNat 114, Char.ofNat 108, Char.ofNat 97, Char.ofNat 119, Char.ofNat 49, Char.ofNat 55, Char.ofNat 46, Char.ofNat 68, Char.ofNat 114, Char.ofNat 105, Char.ofNat 102, Char.ofNat 116, Char.ofNat 65, Char.ofNat 108, Char.ofNat 108, Char.ofNat 32, Char.ofNat 100, Char.ofNat 111, Char.ofNat 111, Char.ofNat 114, Char.ofNat 107, Char.ofNat 101, Char.ofNat 101, Char.ofNat 112, Char.ofNat 101, Char.ofNat 114, Char.ofNat 47, Char.ofNat 100, Char.ofNat 111, Char.ofNat 111, Char.ofNat 114, Char.ofNat 107, Char.ofNat 101, Char.ofNat 101, Char.ofNat 112, Char.ofNat 101, Char.ofNat 114, Char.ofNat 108, Char.ofNat 97, Char.ofNat 119, Char.ofNat 49, Char.ofNat 55, Char.ofNat 46, Char.ofNat 68, Char.ofNat 114, Char.ofNat 105, Char.ofNat 102, Char.ofNat 116, Char.ofNat 84, Char.ofNat 101, Char.ofNat 108, Char.ofNat 108, Char.ofNat 115, Char.ofNat 32, Char.ofNat 100, Char.ofNat 111, Char.ofNat 111, Char.ofNat 114, Char.ofNat 107, Char.ofNat 101, Char.ofNat 101, Char.ofNat 112, Char.ofNat 101, Char.ofNat 114, Char.ofNat 47, Char.ofNat 100, Char.ofNat 111, Char.ofNat 111, Char.ofNat 114, Char.ofNat 107, Char.ofNat 101, Char.ofNat 101, Char.ofNat 112, Char.ofNat 101, Char.ofNat 114, Char.ofNat 108, Char.ofNat 97, Char.ofNat 119, Char.ofNat 50, Char.ofNat 48, Char.ofNat 46, Char.ofNat 69, Char.ofNat 102, Char.ofNat 102, Char.ofNat 101, Char.ofNat 99, Char.ofNat 116, Char.ofNat 65, Char.ofNat 108, Char.ofNat 108, Char.ofNat 32, Char.ofNat 100, Char.ofNat 111, Char.ofNat 111, Char.ofNat 114, Char.ofNat 107, Char.ofNat 101, Char.ofNat 101, Char.ofNat 112, Char.ofNat 101, Char.ofNat 114, Char.ofNat 47, Char.ofNat 100, Char.ofNat 111, Char.ofNat 111, Char.ofNat 114, Char.ofNat 107, Char.ofNat 101, Char.ofNat 101, Char.ofNat 112, Char.ofNat 101, Char.ofNat 114, Char.ofNat 108, Char.ofNat 97, Char.ofNat 119, Char.ofNat 50, Char.ofNat 48, Char.ofNat 46, Char.ofNat 69, Char.ofNat 102, Char.ofNat 102, Char.ofNat 101, Char.ofNat 99, Char.ofNat 116, Char.ofNat 77, Char.ofNat 97, Char.ofNat 100, Char.ofNat 101, Char.ofNat 32, Char.ofNat 100, Char.ofNat 111, Char.ofNat 111, Char.ofNat 114, Char.ofNat 107, Char.ofNat 101, Char.ofNat 101, Char.ofNat 112, Char.ofNat 101, Char.ofNat 114, Char.ofNat 47, Char.ofNat 100, Char.ofNat 111, Char.ofNat 111, Char.ofNat 114, Char.ofNat 107, Char.ofNat 101, Char.ofNat 101, Char.ofNat 112, Char.ofNat 101, Char.ofNat 114, Char.ofNat 108, Char.ofNat 97, Char.ofNat 119, Char.ofNat 50, Char.ofNat 48, Char.ofNat 46, Char.ofNat 69, Char.ofNat 102, Char.ofNat 102, Char.ofNat 101, Char.ofNat 99, Char.ofNat 116, Char.ofNat 68, Char.ofNat 111, Char.ofNat 110, Char.ofNat 101, Char.ofNat 32, Char.ofNat 100, Char.ofNat 111, Char.ofNat 111, Char.ofNat 114, Char.ofNat 107, Char.ofNat 101, Char.ofNat 101, Char.ofNat 112, Char.ofNat 101, Char.ofNat 114, Char.ofNat 47, Char.ofNat 100, Char.ofNat 111, Char.ofNat 111, Char.ofNat 114, Char.ofNat 107, Char.ofNat 101, Char.ofNat 101, Char.ofNat 112, Char.ofNat 101, Char.ofNat 114, Char.ofNat 108, Char.ofNat 97, Char.ofNat 119, Char.ofNat 49, Char.ofNat 52, Char.ofNat 46, Char.ofNat 65, Char.ofNat 100, Char.ofNat 109, Char.ofNat 105, Char.ofNat 116, Char.ofNat 84, Char.ofNat 119, Char.ofNat 105, Char.ofNat 99, Char.ofNat 101, Char.ofNat 32, Char.ofNat 100, Char.ofNat 111, Char.ofNat 111, Char.ofNat 114, Char.ofNat 107, Char.ofNat 101, Char.ofNat 101, Char.ofNat 112, Char.ofNat 101, Char.ofNat 114, Char.ofNat 47, Char.ofNat 100, Char.ofNat 111, Char.ofNat 111, Char.ofNat 114, Char.ofNat 107, Char.ofNat 101, Char.ofNat 101, Char.ofNat 112, Char.ofNat 101, Char.ofNat 114, Char.ofNat 108, Char.ofNat 97, Char.ofNat 119, Char.ofNat 49, Char.ofNat 51, Char.ofNat 46, Char.ofNat 82, Char.ofNat 111, Char.ofNat 111, Char.ofNat 109, Char.ofNat 70, Char.ofNat 105, Char.ofNat 116, Char.ofNat 115, Char.ofNat 32, Char.ofNat 100, Char.ofNat 111, Char.ofNat 111, Char.ofNat 114, Char.ofNat 107, Char.ofNat 101, Char.ofNat 101, Char.ofNat 112, Char.ofNat 101, Char.ofNat 114, Char.ofNat 47, Char.ofNat 100, Char.ofNat 111, Char.ofNat 111, Char.ofNat 114, Char.ofNat 107, Char.ofNat 101, Char.ofNat 101, Char.ofNat 112, Char.ofNat 101, Char.ofNat 114, Char.ofNat 108, Char.ofNat 97, Char.ofNat 119, Char.ofNat 49, Char.ofNat 50, Char.ofNat 46, Char.ofNat 84, Char.ofNat 114, Char.ofNat 101, Char.ofNat 101, Char.ofNat 65, Char.ofNat 108, Char.ofNat 108, Char.ofNat 32, Char.ofNat 100, Char.ofNat 111, Char.ofNat 111, Char.ofNat 114, Char.ofNat 107, Char.ofNat 101, Char.ofNat 101, Char.ofNat 112, Char.ofNat 101, Char.ofNat 114, Char.ofNat 47, Char.ofNat 100, Char.ofNat 111, Char.ofNat 111, Char.ofNat 114, Char.ofNat 107, Char.ofNat 101, Char.ofNat 101, Char.ofNat 112, Char.ofNat 101, Char.ofNat 114, Char.ofNat 108, Char.ofNat 97, Char.ofNat 119, Char.ofNat 49, Char.ofNat 50, Char.ofNat 46, Char.ofNat 84, Char.ofNat 114, Char.ofNat 101, Char.ofNat 101, Char.ofNat 77, Char.ofNat 97, Char.ofNat 100, Char.ofNat 101, Char.ofNat 32, Char.ofNat 100, Char.ofNat 111, Char.ofNat 111, Char.ofNat 114, Char.ofNat 107, Char.ofNat 101, Char.ofNat 101, Char.ofNat 112, Char.ofNat 101, Char.ofNat 114, Char.ofNat 47, Char.ofNat 100, Char.ofNat 111, Char.ofNat 111, Char.ofNat 114, Char.ofNat 107, Char.ofNat 101, Char.ofNat 101, Char.ofNat 112, Char.ofNat 101, Char.ofNat 114, Char.ofNat 108, Char.ofNat 97, Char.ofNat 119, Char.ofNat 49, Char.ofNat 50, Char.ofNat 46, Char.ofNat 84, Char.ofNat 114, Char.ofNat 101, Char.ofNat 101, Char.ofNat 83, Char.ofNat 117, Char.ofNat 109, Char.ofNat 115, Char.ofNat 32, Char.ofNat 100, Char.ofNat 111, Char.ofNat 111, Char.ofNat 114, Char.ofNat 107, Char.ofNat 101, Char.ofNat 101, Char.ofNat 112, Char.ofNat 101, Char.ofNat 114, Char.ofNat 47, Char.ofNat 100, Char.ofNat 111, Char.ofNat 111, Char.ofNat 114, Char.ofNat 107, Char.ofNat 101, Char.ofNat 101, Char.ofNat 112, Char.ofNat 101, Char.ofNat 114, Char.ofNat 108, Char.ofNat 97, Char.ofNat 119, Char.ofNat 49, Char.ofNat 50, Char.ofNat 46, Char.ofNat 84, Char.ofNat 114, Char.ofNat 101, Char.ofNat 101, Char.ofNat 66, Char.ofNat 101, Char.ofNat 108, Char.ofNat 111, Char.ofNat 119, Char.ofNat 32, Char.ofNat 100, Char.ofNat 111, Char.ofNat 111, Char.ofNat 114, Char.ofNat 107, Char.ofNat 101, Char.ofNat 101, Char.ofNat 112, Char.ofNat 101, Char.ofNat 114, Char.ofNat 47, Char.ofNat 100, Char.ofNat 111, Char.ofNat 111, Char.ofNat 114, Char.ofNat 107, Char.ofNat 101, Char.ofNat 101, Char.ofNat 112, Char.ofNat 101, Char.ofNat 114, Char.ofNat 108, Char.ofNat 97, Char.ofNat 119, Char.ofNat 49, Char.ofNat 51, Char.ofNat 46, Char.ofNat 82, Char.ofNat 111, Char.ofNat 111, Char.ofNat 109, Char.ofNat 83, Char.ofNat 104, Char.ofNat 97, Char.ofNat 114, Char.ofNat 101, Char.ofNat 115, Char.ofNat 32, Char.ofNat 100, Char.ofNat 111, Char.ofNat 111, Char.ofNat 114, Char.ofNat 107, Char.ofNat 101, Char.ofNat 101, Char.ofNat 112, Char.ofNat 101, Char.ofNat 114, Char.ofNat 47, Char.ofNat 100, Char.ofNat 111, Char.ofNat 111, Char.ofNat 114, Char.ofNat 107, Char.ofNat 101, Char.ofNat 101, Char.ofNat 112, Char.ofNat 101, Char.ofNat 114, Char.ofNat 108, Char.ofNat 97, Char.ofNat 119, Char.ofNat 49, Char.ofNat 52, Char.ofNat 46, Char.ofNat 65, Char.ofNat 100, Char.ofNat 109, Char.ofNat 105, Char.ofNat 116, Char.ofNat 65, Char.ofNat 108, Char.ofNat 108, Char.ofNat 32, Char.ofNat 100, Char.ofNat 111, Char.ofNat 111, Char.ofNat 114, Char.ofNat 107, Char.ofNat 101, Char.ofNat 101, Char.ofNat 112, Char.ofNat 101, Char.ofNat 114, Char.ofNat 47, Char.ofNat 100, Char.ofNat 111, Char.ofNat 111, Char.ofNat 114, Char.ofNat 107, Char.ofNat 101, Char.ofNat 101, Char.ofNat 112, Char.ofNat 101, Char.ofNat 114, Char.ofNat 108, Char.ofNat 97, Char.ofNat 119, Char.ofNat 49, Char.ofNat 52, Char.ofNat 46, Char.ofNat 65, Char.ofNat 100, Char.ofNat 109, Char.ofNat 105, Char.ofNat 116, Char.ofNat 77, Char.ofNat 97, Char.ofNat 100, Char.ofNat 101, Char.ofNat 32, Char.ofNat 100, Char.ofNat 111, Char.ofNat 111, Char.ofNat 114, Char.ofNat 107, Char.ofNat 101, Char.ofNat 101, Char.ofNat 112, Char.ofNat 101, Char.ofNat 114, Char.ofNat 47, Char.ofNat 100, Char.ofNat 111, Char.ofNat 111, Char.ofNat 114, Char.ofNat 107, Char.ofNat 101, Char.ofNat 101, Char.ofNat 112, Char.ofNat 101, Char.ofNat 114, Char.ofNat 108, Char.ofNat 97, Char.ofNat 119, Char.ofNat 49, Char.ofNat 52, Char.ofNat 46, Char.ofNat 65, Char.ofNat 100, Char.ofNat 109, Char.ofNat 105, Char.ofNat 116, Char.ofNat 82, Char.ofNat 111, Char.ofNat 111, Char.ofNat 109, Char.ofNat 32, Char.ofNat 100, Char.ofNat 111, Char.ofNat 111, Char.ofNat 114, Char.ofNat 107, Char.ofNat 101, Char.ofNat 101, Char.ofNat 112, Char.ofNat 101, Char.ofNat 114, Char.ofNat 47, Char.ofNat 100, Char.ofNat 111, Char.ofNat 111, Char.ofNat 114, Char.ofNat 107, Char.ofNat 101, Char.ofNat 101, Char.ofNat 112, Char.ofNat 101, Char.ofNat 114, Char.ofNat 108, Char.ofNat 97, Char.ofNat 119, Char.ofNat 49, Char.ofNat 51, Char.ofNat 46, Char.ofNat 82, Char.ofNat 111, Char.ofNat 111, Char.ofNat 109, Char.ofNat 65, Char.ofNat 108, Char.ofNat 108, Char.ofNat 32, Char.ofNat 100, Char.ofNat 111, Char.ofNat 111, Char.ofNat 114, Char.ofNat 107, Char.ofNat 101, Char.ofNat 101, Char.ofNat 112, Char.ofNat 101, Char.ofNat 114, Char.ofNat 47, Char.ofNat 100, Char.ofNat 111, Char.ofNat 111, Char.ofNat 114, Char.ofNat 107, Char.ofNat 101, Char.ofNat 101, Char.ofNat 112, Char.ofNat 101, Char.ofNat 114, Char.ofNat 108, Char.ofNat 97, Char.ofNat 119, Char.ofNat 49, Char.ofNat 51, Char.ofNat 46, Char.ofNat 82, Char.ofNat 111, Char.ofNat 111, Char.ofNat 109, Char.ofNat 77, Char.ofNat 97, Char.ofNat 100, Char.ofNat 101, Char.ofNat 32, Char.ofNat 100, Char.ofNat 111, Char.ofNat 111, Char.ofNat 114, Char.ofNat 107, Char.ofNat 101, Char.ofNat 101, Char.ofNat 112, Char.ofNat 101, Char.ofNat 114, Char.ofNat 47, Char.ofNat 100, Char.ofNat 111, Char.ofNat 111, Char.ofNat 114, Char.ofNat 107, Char.ofNat 101, Char.ofNat 101, Char.ofNat 112, Char.ofNat 101, Char.ofNat 114, Char.ofNat 108, Char.ofNat 97, Char.ofNat 119, Char.ofNat 49, Char.ofNat 53, Char.ofNat 46, Char.ofNat 83, Char.ofNat 104, Char.ofNat 97, Char.ofNat 112, Char.ofNat 101, Char.ofNat 77, Char.ofNat 97, Char.ofNat 110, Char.ofNat 121, Char.ofNat 32, Char.ofNat 100, Char.ofNat 111, Char.ofNat 111, Char.ofNat 114, Char.ofNat 107, Char.ofNat 101, Char.ofNat 101, Char.ofNat 112, Char.ofNat 101, Char.ofNat 114, Char.ofNat 47, Char.ofNat 100, Char.ofNat 111, Char.ofNat 111, Char.ofNat 114, Char.ofNat 107, Char.ofNat 101, Char.ofNat 101, Char.ofNat 112, Char.ofNat 101, Char.ofNat 114, Char.ofNat 108, Char.ofNat 97, Char.ofNat 119, Char.ofNat 49, Char.ofNat 53, Char.ofNat 46, Char.ofNat 83, Char.ofNat 104, Char.ofNat 97, Char.ofNat 112, Char.ofNat 101, Char.ofNat 67, Char.ofNat 111, Char.ofNat 109, Char.ofNat 101, Char.ofNat 115, Char.ofNat 32, Char.ofNat 100, Char.ofNat 111, Char.ofNat 111, Char.ofNat 114, Char.ofNat 107, Char.ofNat 101, Char.ofNat 101, Char.ofNat 112, Char.ofNat 101, Char.ofNat 114, Char.ofNat 47, Char.ofNat 100, Char.ofNat 111, Char.ofNat 111, Char.ofNat 114, Char.ofNat 107, Char.ofNat 101, Char.ofNat 101, Char.ofNat 112, Char.ofNat 101, Char.ofNat 114, Char.ofNat 108, Char.ofNat 97, Char.ofNat 119, Char.ofNat 49, Char.ofNat 53, Char.ofNat 46, Char.ofNat 83, Char.ofNat 104, Char.ofNat 97, Char.ofNat 112, Char.ofNat 101, Char.ofNat 76, Char.ofNat 105, Char.ofNat 109, Char.ofNat 105, Char.ofNat 116, Char.ofNat 115, Char.ofNat 32, Char.ofNat 100, Char.ofNat 111, Char.ofNat 111, Char.ofNat 114, Char.ofNat 107, Char.ofNat 101, Char.ofNat 101, Char.ofNat 112, Char.ofNat 101, Char.ofNat 114, Char.ofNat 47, Char.ofNat 100, Char.ofNat 111, Char.ofNat 111, Char.ofNat 114, Char.ofNat 107, Char.ofNat 101, Char.ofNat 101, Char.ofNat 112, Char.ofNat 101, Char.ofNat 114, Char.ofNat 108, Char.ofNat 97, Char.ofNat 119, Char.ofNat 49, Char.ofNat 53, Char.ofNat 46, Char.ofNat 83, Char.ofNat 104, Char.ofNat 97, Char.ofNat 112, Char.ofNat 101, Char.ofNat 77, Char.ofNat 111, Char.ofNat 118, Char.ofNat 101, Char.ofNat 115, Char.ofNat 32, Char.ofNat 100, Char.ofNat 111, Char.ofNat 111, Char.ofNat 114, Char.ofNat 107, Char.ofNat 101, Char.ofNat 101, Char.ofNat 112, Char.ofNat 101, Char.ofNat 114, Char.ofNat 47, Char.ofNat 100, Char.ofNat 111, Char.ofNat 111, Char.ofNat 114, Char.ofNat 107, Char.ofNat 101, Char.ofNat 101, Char.ofNat 112, Char.ofNat 101, Char.ofNat 114, Char.ofNat 108, Char.ofNat 97, Char.ofNat 119, Char.ofNat 49, Char.ofNat 53, Char.ofNat 46, Char.ofNat 83, Char.ofNat 104, Char.ofNat 97, Char.ofNat 112, Char.ofNat 101, Char.ofNat 65, Char.ofNat 108, Char.ofNat 108, Char.ofNat 32, Char.ofNat 100, Char.ofNat 111, Char.ofNat 111, Char.ofNat 114, Char.ofNat 107, Char.ofNat 101, Char.ofNat 101, Char.ofNat 112, Char.ofNat 101, Char.ofNat 114, Char.ofNat 47, Char.ofNat 100, Char.ofNat 111, Char.ofNat 111, Char.ofNat 114, Char.ofNat 107, Char.ofNat 101, Char.ofNat 101, Char.ofNat 112, Char.ofNat 101, Char.ofNat 114, Char.ofNat 108, Char.ofNat 97, Char.ofNat 119, Char.ofNat 49, Char.ofNat 53, Char.ofNat 46, Char.ofNat 83, Char.ofNat 104, Char.ofNat 97, Char.ofNat 112, Char.ofNat 101, Char.ofNat 77, Char.ofNat 97, Char.ofNat 100, Char.ofNat 101, Char.ofNat 32, Char.ofNat 100, Char.ofNat 111, Char.ofNat 111, Char.ofNat 114, Char.ofNat 107, Char.ofNat 101, Char.ofNat 101, Char.ofNat 112, Char.ofNat 101, Char.ofNat 114, Char.ofNat 47, Char.ofNat 100, Char.ofNat 111, Char.ofNat 111, Char.ofNat 114, Char.ofNat 107, Char.ofNat 101, Char.ofNat 101, Char.ofNat 112, Char.ofNat 101, Char.ofNat 114, Char.ofNat 108, Char.ofNat 97, Char.ofNat 119, Char.ofNat 49, Char.ofNat 53, Char.ofNat 46, Char.ofNat 83, Char.ofNat 104, Char.ofNat 97, Char.ofNat 112, Char.ofNat 101, Char.ofNat 82, Char.ofNat 101, Char.ofNat 115, Char.ofNat 116, Char.ofNat 32, Char.ofNat 100, Char.ofNat 111, Char.ofNat 111, Char.ofNat 114, Char.ofNat 107, Char.ofNat 101, Char.ofNat 101, Char.ofNat 112, Char.ofNat 101, Char.ofNat 114, Char.ofNat 47, Char.ofNat 100, Char.ofNat 111, Char.ofNat 111, Char.ofNat 114, Char.ofNat 107, Char.ofNat 101, Char.ofNat 101, Char.ofNat 112, Char.ofNat 101, Char.ofNat 114, Char.ofNat 108, Char.ofNat 97, Char.ofNat 119, Char.ofNat 49, Char.ofNat 57, Char.ofNat 46, Char.ofNat 84, Char.ofNat 114, Char.ofNat 105, Char.ofNat 97, Char.ofNat 108, Char.ofNat 67, Char.ofNat 117, Char.ofNat 116, Char.ofNat 115, Char.ofNat 32, Char.ofNat 100, Char.ofNat 111, Char.ofNat 111, Char.ofNat 114, Char.ofNat 107, Char.ofNat 101, Char.ofNat 101, Char.ofNat 112, Char.ofNat 101, Char.ofNat 114, Char.ofNat 47, Char.ofNat 100, Char.ofNat 111, Char.ofNat 111, Char.ofNat 114, Char.ofNat 107, Char.ofNat 101, Char.ofNat 101, Char.ofNat 112, Char.ofNat 101, Char.ofNat 114, Char.ofNat 108, Char.ofNat 97, Char.ofNat 119, Char.ofNat 49, Char.ofNat 57, Char.ofNat 46, Char.ofNat 84, Char.ofNat 114, Char.ofNat 105, Char.ofNat 97, Char.ofNat 108, Char.ofNat 65, Char.ofNat 108, Char.ofNat 108, Char.ofNat 32, Char.ofNat 100, Char.ofNat 111, Char.ofNat 111, Char.ofNat 114, Char.ofNat 107, Char.ofNat 101, Char.ofNat 101, Char.ofNat 112, Char.ofNat 101, Char.ofNat 114, Char.ofNat 47, Char.ofNat 100, Char.ofNat 111, Char.ofNat 111, Char.ofNat 114, Char.ofNat 107, Char.ofNat 101, Char.ofNat 101, Char.ofNat 112, Char.ofNat 101, Char.ofNat 114, Char.ofNat 108, Char.ofNat 97, Char.ofNat 119, Char.ofNat 49, Char.ofNat 57, Char.ofNat 46, Char.ofNat 84, Char.ofNat 114, Char.ofNat 105, Char.ofNat 97, Char.ofNat 108, Char.ofNat 77, Char.ofNat 97, Char.ofNat 100, Char.ofNat 101]
set_option maxRecDepth 100000 in
theorem word : Try.prog.initOrder = String.ofList signs := by kernel_rfl
theorem list : Try.prog.initOrder.toList = signs := by rw [word, String.toList_ofList]
theorem words_app : ∀ (w r : List Char), (∀ c ∈ w, c ≠ Char.ofNat 32) → wordsSigns (w ++ Char.ofNat 32 :: r) = w :: wordsSigns r
  | [], r, _ => rfl
  | c :: w, r, h => by
    have hc : c ≠ Char.ofNat 32 := h c (by simp)
    have ih := words_app w r (fun d hd => h d (by simp [hd]))
    show wordsSigns (c :: (w ++ Char.ofNat 32 :: r)) = _
    rw [wordsSigns.eq_3 _ _ (fun q => hc q), ih]
def w1 : List Char := [Char.ofNat 104, Char.ofNat 97, Char.ofNat 114, Char.ofNat 110, Char.ofNat 101, Char.ofNat 115, Char.ofNat 115]
def w2 : List Char := [Char.ofNat 101, Char.ofNat 57, Char.ofNat 98, Char.ofNat 52, Char.ofNat 101, Char.ofNat 102, Char.ofNat 52, Char.ofNat 49, Char.ofNat 56, Char.ofNat 50, Char.ofNat 56, Char.ofNat 101, Char.ofNat 102, Char.ofNat 50, Char.ofNat 55, Char.ofNat 102, Char.ofNat 51, Char.ofNat 55, Char.ofNat 102, Char.ofNat 48, Char.ofNat 53, Char.ofNat 54, Char.ofNat 50, Char.ofNat 55, Char.ofNat 56, Char.ofNat 50, Char.ofNat 54, Char.ofNat 101, Char.ofNat 101, Char.ofNat 100, Char.ofNat 101, Char.ofNat 57, Char.ofNat 53, Char.ofNat 99, Char.ofNat 56, Char.ofNat 98, Char.ofNat 55, Char.ofNat 57, Char.ofNat 99, Char.ofNat 100, Char.ofNat 98, Char.ofNat 99, Char.ofNat 52, Char.ofNat 99, Char.ofNat 49, Char.ofNat 100, Char.ofNat 54, Char.ofNat 49, Char.ofNat 98, Char.ofNat 101, Char.ofNat 98, Char.ofNat 55, Char.ofNat 57, Char.ofNat 55, Char.ofNat 52, Char.ofNat 102, Char.ofNat 49, Char.ofNat 51, Char.ofNat 53, Char.ofNat 99, Char.ofNat 97, Char.ofNat 49, Char.ofNat 48, Char.ofNat 51]
def w3 : List Char := [Char.ofNat 99, Char.ofNat 117, Char.ofNat 116]
def rest : List Char := [Char.ofNat 97, Char.ofNat 116, Char.ofNat 32, Char.ofNat 100, Char.ofNat 111, Char.ofNat 111, Char.ofNat 114, Char.ofNat 107, Char.ofNat 101, Char.ofNat 101, Char.ofNat 112, Char.ofNat 101, Char.ofNat 114, Char.ofNat 47, Char.ofNat 100, Char.ofNat 111, Char.ofNat 111, Char.ofNat 114, Char.ofNat 107, Char.ofNat 101, Char.ofNat 101, Char.ofNat 112, Char.ofNat 101, Char.ofNat 114, Char.ofNat 108, Char.ofNat 97, Char.ofNat 119, Char.ofNat 49, Char.ofNat 51, Char.ofNat 46, Char.ofNat 82, Char.ofNat 111, Char.ofNat 111, Char.ofNat 109, Char.ofNat 85, Char.ofNat 112, Char.ofNat 32, Char.ofNat 100, Char.ofNat 111, Char.ofNat 111, Char.ofNat 114, Char.ofNat 107, Char.ofNat 101, Char.ofNat 101, Char.ofNat 112, Char.ofNat 101, Char.ofNat 114, Char.ofNat 47, Char.ofNat 100, Char.ofNat 111, Char.ofNat 111, Char.ofNat 114, Char.ofNat 107, Char.ofNat 101, Char.ofNat 101, Char.ofNat 112, Char.ofNat 101, Char.ofNat 114, Char.ofNat 108, Char.ofNat 97, Char.ofNat 119, Char.ofNat 49, Char.ofNat 55, Char.ofNat 46, Char.ofNat 68, Char.ofNat 114, Char.ofNat 105, Char.ofNat 102, Char.ofNat 116, Char.ofNat 65, Char.ofNat 108, Char.ofNat 108, Char.ofNat 32, Char.ofNat 100, Char.ofNat 111, Char.ofNat 111, Char.ofNat 114, Char.ofNat 107, Char.ofNat 101, Char.ofNat 101, Char.ofNat 112, Char.ofNat 101, Char.ofNat 114, Char.ofNat 47, Char.ofNat 100, Char.ofNat 111, Char.ofNat 111, Char.ofNat 114, Char.ofNat 107, Char.ofNat 101, Char.ofNat 101, Char.ofNat 112, Char.ofNat 101, Char.ofNat 114, Char.ofNat 108, Char.ofNat 97, Char.ofNat 119, Char.ofNat 49, Char.ofNat 55, Char.ofNat 46, Char.ofNat 68, Char.ofNat 114, Char.ofNat 105, Char.ofNat 102, Char.ofNat 116, Char.ofNat 84, Char.ofNat 101, Char.ofNat 108, Char.ofNat 108, Char.ofNat 115, Char.ofNat 32, Char.ofNat 100, Char.ofNat 111, Char.ofNat 111, Char.ofNat 114, Char.ofNat 107, Char.ofNat 101, Char.ofNat 101, Char.ofNat 112, Char.ofNat 101, Char.ofNat 114, Char.ofNat 47, Char.ofNat 100, Char.ofNat 111, Char.ofNat 111, Char.ofNat 114, Char.ofNat 107, Char.ofNat 101, Char.ofNat 101, Char.ofNat 112, Char.ofNat 101, Char.ofNat 114, Char.ofNat 108, Char.ofNat 97, Char.ofNat 119, Char.ofNat 50, Char.ofNat 48, Char.ofNat 46, Char.ofNat 69, Char.ofNat 102, Char.ofNat 102, Char.ofNat 101, Char.ofNat 99, Char.ofNat 116, Char.ofNat 65, Char.ofNat 108, Char.ofNat 108, Char.ofNat 32, Char.ofNat 100, Char.ofNat 111, Char.ofNat 111, Char.ofNat 114, Char.ofNat 107, Char.ofNat 101, Char.ofNat 101, Char.ofNat 112, Char.ofNat 101, Char.ofNat 114, Char.ofNat 47, Char.ofNat 100, Char.ofNat 111, Char.ofNat 111, Char.ofNat 114, Char.ofNat 107, Char.ofNat 101, Char.ofNat 101, Char.ofNat 112, Char.ofNat 101, Char.ofNat 114, Char.ofNat 108, Char.ofNat 97, Char.ofNat 119, Char.ofNat 50, Char.ofNat 48, Char.ofNat 46, Char.ofNat 69, Char.ofNat 102, Char.ofNat 102, Char.ofNat 101, Char.ofNat 99, Char.ofNat 116, Char.ofNat 77, Char.ofNat 97, Char.ofNat 100, Char.ofNat 101, Char.ofNat 32, Char.ofNat 100, Char.ofNat 111, Char.ofNat 111, Char.ofNat 114, Char.ofNat 107, Char.ofNat 101, Char.ofNat 101, Char.ofNat 112, Char.ofNat 101, Char.ofNat 114, Char.ofNat 47, Char.ofNat 100, Char.ofNat 111, Char.ofNat 111, Char.ofNat 114, Char.ofNat 107, Char.ofNat 101, Char.ofNat 101, Char.ofNat 112, Char.ofNat 101, Char.ofNat 114, Char.ofNat 108, Char.ofNat 97, Char.ofNat 119, Char.ofNat 50, Char.ofNat 48, Char.ofNat 46, Char.ofNat 69, Char.ofNat 102, Char.ofNat 102, Char.ofNat 101, Char.ofNat 99, Char.ofNat 116, Char.ofNat 68, Char.ofNat 111, Char.ofNat 110, Char.ofNat 101, Char.ofNat 32, Char.ofNat 100, Char.ofNat 111, Char.ofNat 111, Char.ofNat 114, Char.ofNat 107, Char.ofNat 101, Char.ofNat 101, Char.ofNat 112, Char.ofNat 101, Char.ofNat 114, Char.ofNat 47, Char.ofNat 100, Char.ofNat 111, Char.ofNat 111, Char.ofNat 114, Char.ofNat 107, Char.ofNat 101, Char.ofNat 101, Char.ofNat 112, Char.ofNat 101, Char.ofNat 114, Char.ofNat 108, Char.ofNat 97, Char.ofNat 119, Char.ofNat 49, Char.ofNat 52, Char.ofNat 46, Char.ofNat 65, Char.ofNat 100, Char.ofNat 109, Char.ofNat 105, Char.ofNat 116, Char.ofNat 84, Char.ofNat 119, Char.ofNat 105, Char.ofNat 99, Char.ofNat 101, Char.ofNat 32, Char.ofNat 100, Char.ofNat 111, Char.ofNat 111, Char.ofNat 114, Char.ofNat 107, Char.ofNat 101, Char.ofNat 101, Char.ofNat 112, Char.ofNat 101, Char.ofNat 114, Char.ofNat 47, Char.ofNat 100, Char.ofNat 111, Char.ofNat 111, Char.ofNat 114, Char.ofNat 107, Char.ofNat 101, Char.ofNat 101, Char.ofNat 112, Char.ofNat 101, Char.ofNat 114, Char.ofNat 108, Char.ofNat 97, Char.ofNat 119, Char.ofNat 49, Char.ofNat 51, Char.ofNat 46, Char.ofNat 82, Char.ofNat 111, Char.ofNat 111, Char.ofNat 109, Char.ofNat 70, Char.ofNat 105, Char.ofNat 116, Char.ofNat 115, Char.ofNat 32, Char.ofNat 100, Char.ofNat 111, Char.ofNat 111, Char.ofNat 114, Char.ofNat 107, Char.ofNat 101, Char.ofNat 101, Char.ofNat 112, Char.ofNat 101, Char.ofNat 114, Char.ofNat 47, Char.ofNat 100, Char.ofNat 111, Char.ofNat 111, Char.ofNat 114, Char.ofNat 107, Char.ofNat 101, Char.ofNat 101, Char.ofNat 112, Char.ofNat 101, Char.ofNat 114, Char.ofNat 108, Char.ofNat 97, Char.ofNat 119, Char.ofNat 49, Char.ofNat 50, Char.ofNat 46, Char.ofNat 84, Char.ofNat 114, Char.ofNat 101, Char.ofNat 101, Char.ofNat 65, Char.ofNat 108, Char.ofNat 108, Char.ofNat 32, Char.ofNat 100, Char.ofNat 111, Char.ofNat 111, Char.ofNat 114, Char.ofNat 107, Char.ofNat 101, Char.ofNat 101, Char.ofNat 112, Char.ofNat 101, Char.ofNat 114, Char.ofNat 47, Char.ofNat 100, Char.ofNat 111, Char.ofNat 111, Char.ofNat 114, Char.ofNat 107, Char.ofNat 101, Char.ofNat 101, Char.ofNat 112, Char.ofNat 101, Char.ofNat 114, Char.ofNat 108, Char.ofNat 97, Char.ofNat 119, Char.ofNat 49, Char.ofNat 50, Char.ofNat 46, Char.ofNat 84, Char.ofNat 114, Char.ofNat 101, Char.ofNat 101, Char.ofNat 77, Char.ofNat 97, Char.ofNat 100, Char.ofNat 101, Char.ofNat 32, Char.ofNat 100, Char.ofNat 111, Char.ofNat 111, Char.ofNat 114, Char.ofNat 107, Char.ofNat 101, Char.ofNat 101, Char.ofNat 112, Char.ofNat 101, Char.ofNat 114, Char.ofNat 47, Char.ofNat 100, Char.ofNat 111, Char.ofNat 111, Char.ofNat 114, Char.ofNat 107, Char.ofNat 101, Char.ofNat 101, Char.ofNat 112, Char.ofNat 101, Char.ofNat 114, Char.ofNat 108, Char.ofNat 97, Char.ofNat 119, Char.ofNat 49, Char.ofNat 50, Char.ofNat 46, Char.ofNat 84, Char.ofNat 114, Char.ofNat 101, Char.ofNat 101, Char.ofNat 83, Char.ofNat 117, Char.ofNat 109, Char.ofNat 115, Char.ofNat 32, Char.ofNat 100, Char.ofNat 111, Char.ofNat 111, Char.ofNat 114, Char.ofNat 107, Char.ofNat 101, Char.ofNat 101, Char.ofNat 112, Char.ofNat 101, Char.ofNat 114, Char.ofNat 47, Char.ofNat 100, Char.ofNat 111, Char.ofNat 111, Char.ofNat 114, Char.ofNat 107, Char.ofNat 101, Char.ofNat 101, Char.ofNat 112, Char.ofNat 101, Char.ofNat 114, Char.ofNat 108, Char.ofNat 97, Char.ofNat 119, Char.ofNat 49, Char.ofNat 50, Char.ofNat 46, Char.ofNat 84, Char.ofNat 114, Char.ofNat 101, Char.ofNat 101, Char.ofNat 66, Char.ofNat 101, Char.ofNat 108, Char.ofNat 111, Char.ofNat 119, Char.ofNat 32, Char.ofNat 100, Char.ofNat 111, Char.ofNat 111, Char.ofNat 114, Char.ofNat 107, Char.ofNat 101, Char.ofNat 101, Char.ofNat 112, Char.ofNat 101, Char.ofNat 114, Char.ofNat 47, Char.ofNat 100, Char.ofNat 111, Char.ofNat 111, Char.ofNat 114, Char.ofNat 107, Char.ofNat 101, Char.ofNat 101, Char.ofNat 112, Char.ofNat 101, Char.ofNat 114, Char.ofNat 108, Char.ofNat 97, Char.ofNat 119, Char.ofNat 49, Char.ofNat 51, Char.ofNat 46, Char.ofNat 82, Char.ofNat 111, Char.ofNat 111, Char.ofNat 109, Char.ofNat 83, Char.ofNat 104, Char.ofNat 97, Char.ofNat 114, Char.ofNat 101, Char.ofNat 115, Char.ofNat 32, Char.ofNat 100, Char.ofNat 111, Char.ofNat 111, Char.ofNat 114, Char.ofNat 107, Char.ofNat 101, Char.ofNat 101, Char.ofNat 112, Char.ofNat 101, Char.ofNat 114, Char.ofNat 47, Char.ofNat 100, Char.ofNat 111, Char.ofNat 111, Char.ofNat 114, Char.ofNat 107, Char.ofNat 101, Char.ofNat 101, Char.ofNat 112, Char.ofNat 101, Char.ofNat 114, Char.ofNat 108, Char.ofNat 97, Char.ofNat 119, Char.ofNat 49, Char.ofNat 52, Char.ofNat 46, Char.ofNat 65, Char.ofNat 100, Char.ofNat 109, Char.ofNat 105, Char.ofNat 116, Char.ofNat 65, Char.ofNat 108, Char.ofNat 108, Char.ofNat 32, Char.ofNat 100, Char.ofNat 111, Char.ofNat 111, Char.ofNat 114, Char.ofNat 107, Char.ofNat 101, Char.ofNat 101, Char.ofNat 112, Char.ofNat 101, Char.ofNat 114, Char.ofNat 47, Char.ofNat 100, Char.ofNat 111, Char.ofNat 111, Char.ofNat 114, Char.ofNat 107, Char.ofNat 101, Char.ofNat 101, Char.ofNat 112, Char.ofNat 101, Char.ofNat 114, Char.ofNat 108, Char.ofNat 97, Char.ofNat 119, Char.ofNat 49, Char.ofNat 52, Char.ofNat 46, Char.ofNat 65, Char.ofNat 100, Char.ofNat 109, Char.ofNat 105, Char.ofNat 116, Char.ofNat 77, Char.ofNat 97, Char.ofNat 100, Char.ofNat 101, Char.ofNat 32, Char.ofNat 100, Char.ofNat 111, Char.ofNat 111, Char.ofNat 114, Char.ofNat 107, Char.ofNat 101, Char.ofNat 101, Char.ofNat 112, Char.ofNat 101, Char.ofNat 114, Char.ofNat 47, Char.ofNat 100, Char.ofNat 111, Char.ofNat 111, Char.ofNat 114, Char.ofNat 107, Char.ofNat 101, Char.ofNat 101, Char.ofNat 112, Char.ofNat 101, Char.ofNat 114, Char.ofNat 108, Char.ofNat 97, Char.ofNat 119, Char.ofNat 49, Char.ofNat 52, Char.ofNat 46, Char.ofNat 65, Char.ofNat 100, Char.ofNat 109, Char.ofNat 105, Char.ofNat 116, Char.ofNat 82, Char.ofNat 111, Char.ofNat 111, Char.ofNat 109, Char.ofNat 32, Char.ofNat 100, Char.ofNat 111, Char.ofNat 111, Char.ofNat 114, Char.ofNat 107, Char.ofNat 101, Char.ofNat 101, Char.ofNat 112, Char.ofNat 101, Char.ofNat 114, Char.ofNat 47, Char.ofNat 100, Char.ofNat 111, Char.ofNat 111, Char.ofNat 114, Char.ofNat 107, Char.ofNat 101, Char.ofNat 101, Char.ofNat 112, Char.ofNat 101, Char.ofNat 114, Char.ofNat 108, Char.ofNat 97, Char.ofNat 119, Char.ofNat 49, Char.ofNat 51, Char.ofNat 46, Char.ofNat 82, Char.ofNat 111, Char.ofNat 111, Char.ofNat 109, Char.ofNat 65, Char.ofNat 108, Char.ofNat 108, Char.ofNat 32, Char.ofNat 100, Char.ofNat 111, Char.ofNat 111, Char.ofNat 114, Char.ofNat 107, Char.ofNat 101, Char.ofNat 101, Char.ofNat 112, Char.ofNat 101, Char.ofNat 114, Char.ofNat 47, Char.ofNat 100, Char.ofNat 111, Char.ofNat 111, Char.ofNat 114, Char.ofNat 107, Char.ofNat 101, Char.ofNat 101, Char.ofNat 112, Char.ofNat 101, Char.ofNat 114, Char.ofNat 108, Char.ofNat 97, Char.ofNat 119, Char.ofNat 49, Char.ofNat 51, Char.ofNat 46, Char.ofNat 82, Char.ofNat 111, Char.ofNat 111, Char.ofNat 109, Char.ofNat 77, Char.ofNat 97, Char.ofNat 100, Char.ofNat 101, Char.ofNat 32, Char.ofNat 100, Char.ofNat 111, Char.ofNat 111, Char.ofNat 114, Char.ofNat 107, Char.ofNat 101, Char.ofNat 101, Char.ofNat 112, Char.ofNat 101, Char.ofNat 114, Char.ofNat 47, Char.ofNat 100, Char.ofNat 111, Char.ofNat 111, Char.ofNat 114, Char.ofNat 107, Char.ofNat 101, Char.ofNat 101, Char.ofNat 112, Char.ofNat 101, Char.ofNat 114, Char.ofNat 108, Char.ofNat 97, Char.ofNat 119, Char.ofNat 49, Char.ofNat 53, Char.ofNat 46, Char.ofNat 83, Char.ofNat 104, Char.ofNat 97, Char.ofNat 112, Char.ofNat 101, Char.ofNat 77, Char.ofNat 97, Char.ofNat 110, Char.ofNat 121, Char.ofNat 32, Char.ofNat 100, Char.ofNat 111, Char.ofNat 111, Char.ofNat 114, Char.ofNat 107, Char.ofNat 101, Char.ofNat 101, Char.ofNat 112, Char.ofNat 101, Char.ofNat 114, Char.ofNat 47, Char.ofNat 100, Char.ofNat 111, Char.ofNat 111, Char.ofNat 114, Char.ofNat 107, Char.ofNat 101, Char.ofNat 101, Char.ofNat 112, Char.ofNat 101, Char.ofNat 114, Char.ofNat 108, Char.ofNat 97, Char.ofNat 119, Char.ofNat 49, Char.ofNat 53, Char.ofNat 46, Char.ofNat 83, Char.ofNat 104, Char.ofNat 97, Char.ofNat 112, Char.ofNat 101, Char.ofNat 67, Char.ofNat 111, Char.ofNat 109, Char.ofNat 101, Char.ofNat 115, Char.ofNat 32, Char.ofNat 100, Char.ofNat 111, Char.ofNat 111, Char.ofNat 114, Char.ofNat 107, Char.ofNat 101, Char.ofNat 101, Char.ofNat 112, Char.ofNat 101, Char.ofNat 114, Char.ofNat 47, Char.ofNat 100, Char.ofNat 111, Char.ofNat 111, Char.ofNat 114, Char.ofNat 107, Char.ofNat 101, Char.ofNat 101, Char.ofNat 112, Char.ofNat 101, Char.ofNat 114, Char.ofNat 108, Char.ofNat 97, Char.ofNat 119, Char.ofNat 49, Char.ofNat 53, Char.ofNat 46, Char.ofNat 83, Char.ofNat 104, Char.ofNat 97, Char.ofNat 112, Char.ofNat 101, Char.ofNat 76, Char.ofNat 105, Char.ofNat 109, Char.ofNat 105, Char.ofNat 116, Char.ofNat 115, Char.ofNat 32, Char.ofNat 100, Char.ofNat 111, Char.ofNat 111, Char.ofNat 114, Char.ofNat 107, Char.ofNat 101, Char.ofNat 101, Char.ofNat 112, Char.ofNat 101, Char.ofNat 114, Char.ofNat 47, Char.ofNat 100, Char.ofNat 111, Char.ofNat 111, Char.ofNat 114, Char.ofNat 107, Char.ofNat 101, Char.ofNat 101, Char.ofNat 112, Char.ofNat 101, Char.ofNat 114, Char.ofNat 108, Char.ofNat 97, Char.ofNat 119, Char.ofNat 49, Char.ofNat 53, Char.ofNat 46, Char.ofNat 83, Char.ofNat 104, Char.ofNat 97, Char.ofNat 112, Char.ofNat 101, Char.ofNat 77, Char.ofNat 111, Char.ofNat 118, Char.ofNat 101, Char.ofNat 115, Char.ofNat 32, Char.ofNat 100, Char.ofNat 111, Char.ofNat 111, Char.ofNat 114, Char.ofNat 107, Char.ofNat 101, Char.ofNat 101, Char.ofNat 112, Char.ofNat 101, Char.ofNat 114, Char.ofNat 47, Char.ofNat 100, Char.ofNat 111, Char.ofNat 111, Char.ofNat 114, Char.ofNat 107, Char.ofNat 101, Char.ofNat 101, Char.ofNat 112, Char.ofNat 101, Char.ofNat 114, Char.ofNat 108, Char.ofNat 97, Char.ofNat 119, Char.ofNat 49, Char.ofNat 53, Char.ofNat 46, Char.ofNat 83, Char.ofNat 104, Char.ofNat 97, Char.ofNat 112, Char.ofNat 101, Char.ofNat 65, Char.ofNat 108, Char.ofNat 108, Char.ofNat 32, Char.ofNat 100, Char.ofNat 111, Char.ofNat 111, Char.ofNat 114, Char.ofNat 107, Char.ofNat 101, Char.ofNat 101, Char.ofNat 112, Char.ofNat 101, Char.ofNat 114, Char.ofNat 47, Char.ofNat 100, Char.ofNat 111, Char.ofNat 111, Char.ofNat 114, Char.ofNat 107, Char.ofNat 101, Char.ofNat 101, Char.ofNat 112, Char.ofNat 101, Char.ofNat 114, Char.ofNat 108, Char.ofNat 97, Char.ofNat 119, Char.ofNat 49, Char.ofNat 53, Char.ofNat 46, Char.ofNat 83, Char.ofNat 104, Char.ofNat 97, Char.ofNat 112, Char.ofNat 101, Char.ofNat 77, Char.ofNat 97, Char.ofNat 100, Char.ofNat 101, Char.ofNat 32, Char.ofNat 100, Char.ofNat 111, Char.ofNat 111, Char.ofNat 114, Char.ofNat 107, Char.ofNat 101, Char.ofNat 101, Char.ofNat 112, Char.ofNat 101, Char.ofNat 114, Char.ofNat 47, Char.ofNat 100, Char.ofNat 111, Char.ofNat 111, Char.ofNat 114, Char.ofNat 107, Char.ofNat 101, Char.ofNat 101, Char.ofNat 112, Char.ofNat 101, Char.ofNat 114, Char.ofNat 108, Char.ofNat 97, Char.ofNat 119, Char.ofNat 49, Char.ofNat 53, Char.ofNat 46, Char.ofNat 83, Char.ofNat 104, Char.ofNat 97, Char.ofNat 112, Char.ofNat 101, Char.ofNat 82, Char.ofNat 101, Char.ofNat 115, Char.ofNat 116, Char.ofNat 32, Char.ofNat 100, Char.ofNat 111, Char.ofNat 111, Char.ofNat 114, Char.ofNat 107, Char.ofNat 101, Char.ofNat 101, Char.ofNat 112, Char.ofNat 101, Char.ofNat 114, Char.ofNat 47, Char.ofNat 100, Char.ofNat 111, Char.ofNat 111, Char.ofNat 114, Char.ofNat 107, Char.ofNat 101, Char.ofNat 101, Char.ofNat 112, Char.ofNat 101, Char.ofNat 114, Char.ofNat 108, Char.ofNat 97, Char.ofNat 119, Char.ofNat 49, Char.ofNat 57, Char.ofNat 46, Char.ofNat 84, Char.ofNat 114, Char.ofNat 105, Char.ofNat 97, Char.ofNat 108, Char.ofNat 67, Char.ofNat 117, Char.ofNat 116, Char.ofNat 115, Char.ofNat 32, Char.ofNat 100, Char.ofNat 111, Char.ofNat 111, Char.ofNat 114, Char.ofNat 107, Char.ofNat 101, Char.ofNat 101, Char.ofNat 112, Char.ofNat 101, Char.ofNat 114, Char.ofNat 47, Char.ofNat 100, Char.ofNat 111, Char.ofNat 111, Char.ofNat 114, Char.ofNat 107, Char.ofNat 101, Char.ofNat 101, Char.ofNat 112, Char.ofNat 101, Char.ofNat 114, Char.ofNat 108, Char.ofNat 97, Char.ofNat 119, Char.ofNat 49, Char.ofNat 57, Char.ofNat 46, Char.ofNat 84, Char.ofNat 114, Char.ofNat 105, Char.ofNat 97, Char.ofNat 108, Char.ofNat 65, Char.ofNat 108, Char.ofNat 108, Char.ofNat 32, Char.ofNat 100, Char.ofNat 111, Char.ofNat 111, Char.ofNat 114, Char.ofNat 107, Char.ofNat 101, Char.ofNat 101, Char.ofNat 112, Char.ofNat 101, Char.ofNat 114, Char.ofNat 47, Char.ofNat 100, Char.ofNat 111, Char.ofNat 111, Char.ofNat 114, Char.ofNat 107, Char.ofNat 101, Char.ofNat 101, Char.ofNat 112, Char.ofNat 101, Char.ofNat 114, Char.ofNat 108, Char.ofNat 97, Char.ofNat 119, Char.ofNat 49, Char.ofNat 57, Char.ofNat 46, Char.ofNat 84, Char.ofNat 114, Char.ofNat 105, Char.ofNat 97, Char.ofNat 108, Char.ofNat 77, Char.ofNat 97, Char.ofNat 100, Char.ofNat 101]
theorem parts : signs = w1 ++ Char.ofNat 32 :: (w2 ++ Char.ofNat 32 :: (w3 ++ Char.ofNat 32 :: rest)) := by kernel_rfl
theorem behind : ∃ r, behindMainWord (wordsSigns Try.prog.initOrder.toList) = w3 :: r := by
  refine ⟨wordsSigns rest, ?_⟩
  rw [list, parts, words_app w1 _ (by decide), words_app w2 _ (by decide), words_app w3 _ (by decide)]
  generalize wordsSigns rest = r
  rfl
theorem strip (r : List (List Char)) : stripLifts liftWords (w3 :: r) = ([], w3 :: r) := by kernel_rfl
theorem not_carried (r : List (List Char)) : ((w3 :: r).head? == some "carried".toList) = false := by kernel_rfl
theorem is_cut (r : List (List Char)) : ((w3 :: r).head? == some "cut".toList) = true := by kernel_rfl
theorem not_gc : (w3 == "gc".toList || w3 == "spec".toList) = false := by kernel_rfl
theorem cut_ : (w3 == "cut".toList) = true := by kernel_rfl
theorem lifts_of {P : Program} {r : List (List Char)} (h : behindMainWord (wordsSigns P.initOrder.toList) = w3 :: r) : P.liftsFinal = false := by
  unfold Program.liftsFinal Program.headLifts
  simp only [h, strip, not_carried, is_cut, if_true, Bool.false_and, Bool.false_or, List.contains_nil]
theorem make_of {P : Program} {r : List (List Char)} (h : behindMainWord (wordsSigns P.initOrder.toList) = w3 :: r) : P.make = some .cut := by
  unfold Program.make
  simp only [h, not_gc, cut_, Bool.true_or, if_true, Bool.false_eq_true, if_false]
theorem lifts : Try.prog.liftsFinal = false := by obtain ⟨r, h⟩ := behind; exact lifts_of h
theorem make : Try.prog.make = some .cut := by obtain ⟨r, h⟩ := behind; exact make_of h
theorem later : Try.prog.laysLater = false := by kernel_rfl
theorem reflects : Try.prog.bearsReflect = false := by kernel_rfl
theorem door : Try.prog.doorFits [] = true := by kernel_rfl
theorem may_of {P : Program} {r : List (List Char)} (h : behindMainWord (wordsSigns P.initOrder.toList) = w3 :: r) (h1 : P.laysLater = false) (h2 : P.bearsReflect = false) (h3 : P.doorFits [] = true) : P.mayEnter = true := by
  unfold Program.mayEnter
  simp only [h, strip, is_cut, h1, h2, h3, List.contains_nil, Bool.not_false, Bool.or_true, Bool.and_true, Bool.and_self]
theorem mayEnter : Try.prog.mayEnter = true := by obtain ⟨r, h⟩ := behind; exact may_of h later reflects door
theorem stopsHeard : Try.prog.stopsHeard = true := by kernel_rfl
theorem laidOut : laidOutB Try.prog = true := by kernel_rfl
theorem mapsRowed : mapsRowed Try.prog = true := by kernel_rfl
theorem stops : (Try.prog.stops == []) = true := by kernel_rfl
theorem stopKnobs : (Try.prog.stopKnobs == []) = true := by kernel_rfl
end Go.Proofs.Ytcgefpklljclgaa.Head

-- PRINTED WORDS (module Derived/Print/Sized.lean): go-gate-2's, for the rows of laws over slices: an AI agent of Go's test side, Tue Nov 17 2026; no person has read it. Lean checks it.
namespace Go.Proofs.YtcgefpklljclgaaW.PrintWords
open Go.ChangeShapes Go.WideShapes
/-- A row's slice of whole numbers is no longer than its weight allows. -/
theorem sized_ints {H : Type} {enc : TypeId × Value → H} {P : Program} {W : World} {base : Nat} {spare : Nat → Bool} {held : Bool} {t e : TypeId} {k : IntKind} {a : Option Addr} {len cap : Nat} {d : DataW H} {ps : List MemPlace} {ts : List TypeId} {ds : List (DataW H)} {j : Nat}
    (hsz : (DataW.weightsEach P ts ds).all (· ≤ reachBytes) = true) (ht : ts[j]? = some t) (hd : ds[j]? = some d) (hu : P.underlying t = some (.slice e)) (he : P.underlying e = some (.int k)) (hc : P.cellsOf e = 1) {B : Nat} (hB : P.bytesOf e = B)
    (h : DataW.Trod enc P W base spare held t (.slice a len cap) d ps) : len * B ≤ 140737488351232 := by
  obtain ⟨fuel, hf⟩ := h
  rcases open_ints hu he hc hf with ⟨hcs, _⟩ | ⟨x, l, c, zs, hcs, _, hl, _, hz, hx, _, _⟩
  · simp [Value.cells] at hcs
    obtain ⟨rfl, rfl, rfl⟩ := hcs
    simp
  · simp [Value.cells] at hcs
    obtain ⟨rfl, rfl, rfl⟩ := hcs
    obtain ⟨hx, _⟩ := Prod.mk.inj hx
    subst hx
    have z := sized_slice hsz ht hd hu
    rw [hB] at z
    have hl2 : len ≤ zs.length := by
      rw [hz]
      split
      · exact hl
      · exact Nat.le_refl _
    have h1 : (lits (H := H) k (zs.take len)).length + (lits (H := H) k (zs.drop len)).length = zs.length := by
      simp [lits]
      omega
    rw [h1] at z
    exact Nat.le_trans (Nat.mul_le_mul_right _ hl2) z
end Go.Proofs.YtcgefpklljclgaaW.PrintWords
