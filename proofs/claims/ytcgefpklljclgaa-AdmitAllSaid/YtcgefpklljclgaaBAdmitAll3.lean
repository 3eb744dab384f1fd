/- A part of the proof of AdmitAll: the machine's side by the kit's print, contracts and lemmas by this session. -/
import Derived.Shelf.Abstract
import Derived.WalkSpells
import Derived.Test.YtcgefpklljclgaaBAdmitAll1
import Derived.Test.YtcgefpklljclgaaBAdmitAll2
namespace Go.Proofs.Ytcgefpklljclgaa.Print
open Go.RowKit Go.Proofs.YtcgefpklljclgaaW.PrintWords Go.Proofs.YtcgefpklljclgaaW.PrintLast Go.Proofs.YtcgefpklljclgaaW.PrintMore
attribute [local go_sem] max2_int min2_int max_two min_two max_three min_three max_four min_four   -- for this text's walks alone
set_option linter.unusedVariables false
set_option linter.unusedSimpArgs false
/-! ### vec_May: function 115 -/
def vec_May.f (a0_0 : Int) (a0_1 : Int) (a0_2 : Int) : Option (Bool) := (vec_Le.f 0 0 0 a0_0 a0_1 a0_2).bind fun t2 => (if t2 = true then ((vec_Most.f).bind fun bt3 => ((vec_Le.f a0_0 a0_1 a0_2 bt3.1 bt3.2.1 bt3.2.2).bind fun t6 => (some t6))) else (some false))
def vec_May.T1 : Bool × List (List Nat × List Nat) := (true, [([], []), ([], []), ([0, 1], [0, 1]), ([2, 2], [2]), ([3], [3]), ([3, 3], [3]), ([4, 5, 5, 3], [3, 4, 5]), ([3, 6], [3, 6]), ([7, 6, 0, 1, 2, 3, 4, 5, 6, 7], [7])])
def vec_May.B1 : List Nat := [0, 0, 3, 7, 15, 15, 63, 127, 255]
theorem vec_May.tab1 : rtab .any (opsOf Try.f115 1) = vec_May.T1 := by kernel_rfl
theorem vec_May.bits1 : waitsOk vec_May.T1.2 vec_May.B1 = true := by kernel_rfl
set_option maxHeartbeats 8000000 in
set_option maxRecDepth 100000 in
theorem vec_May.calls (a0_0 : Int) (a0_1 : Int) (a0_2 : Int) (r : Bool) (w : World) (h : vec_May.f a0_0 a0_1 a0_2 = some r) :
  Calls Try.prog 115 #[.agg #[.int .i64 a0_0, .int .i64 a0_1, .int .i64 a0_2]] w fun e w' => e = .returned (.bool r) ∧ Below w.heap.size w w' := by
 have hu27 := Try.underlying27
 have HB := Aside0.mk (Below.refl w.heap.size w)
 have H : ((vec_Le.f 0 0 0 a0_0 a0_1 a0_2).bind fun t2 => (if t2 = true then ((vec_Most.f).bind fun bt3 => ((vec_Le.f a0_0 a0_1 a0_2 bt3.1 bt3.2.1 bt3.2.2).bind fun t6 => (some t6))) else (some false))) = some r := h
 clear h
 replace H := Option.bind_eq_some_iff.mp H
 obtain ⟨t2, A20, H⟩ := H
 replace H : (if t2 = true then ((vec_Most.f).bind fun bt3 => ((vec_Le.f a0_0 a0_1 a0_2 bt3.1 bt3.2.1 bt3.2.2).bind fun t6 => (some t6))) else (some false)) = some r := H
 have A2 := Aside0.mk A20
 clear A20
 by_cases c3 : t2 = true
 ·subst c3
  have H1 : ((vec_Most.f).bind fun bt3 => ((vec_Le.f a0_0 a0_1 a0_2 bt3.1 bt3.2.1 bt3.2.2).bind fun t6 => (some t6))) = some r := by rw [if_pos rfl] at H; exact H
  clear H
  have H := H1
  clear H1
  replace H := Option.bind_eq_some_iff.mp H
  obtain ⟨⟨t3, t4, t5⟩, A40, H⟩ := H
  replace H : ((vec_Le.f a0_0 a0_1 a0_2 t3 t4 t5).bind fun t6 => (some t6)) = some r := H
  have A4 := Aside0.mk A40
  clear A40
  replace H := Option.bind_eq_some_iff.mp H
  obtain ⟨t6, A50, H⟩ := H
  replace H : (some t6) = some r := H
  have A5 := Aside0.mk A50
  clear A50
  obtain rfl := Option.some.inj H
  go_enter Try.func115, Try.ntmps115
  try go_wp2_with (first|((with_reducible refine gate_dst (N := 1) rfl ?_);refine box_event ?hg (N := 1) ?hd (cs := #[.int .i64 a0_0, .int .i64 a0_1, .int .i64 a0_2]) (t := 27) ?hr ?_;(case hd => rfl);(case hg => rfl);(case hr => first|(go_simp;done)|(go_simp;rfl));intro gb1 hg w6 hbox hb;have n0_ := Aside0.mk (below_step (by repeat (first|(with_reducible first|exact HB.out|apply below_alloc|apply pw_below_drewN|apply below_drew1)|exact HB.out)) hb);have n1_ := Aside0.mk (hbox);have n2_ := Aside0.mk ((by rw [hg];exact (below_size (by repeat (first|(with_reducible first|exact HB.out|apply below_alloc|apply pw_below_drewN|apply below_drew1)|exact HB.out))) : w.heap.size ≤ gb1));have n3_ := Aside0.mk ((by rw [hg];exact (below_size (by repeat (first|(with_reducible first|exact HB.out|apply below_alloc|apply pw_below_drewN|apply below_drew1)|exact HB.out))) : w.heap.size ≤ gb1));clear HB;have HB := n0_;have BK1 := n1_;have GW1 := n2_;have GE1 := n3_;clear n0_ n1_ n2_ n3_;clear hb hbox hg))
  have n0_ := Aside0.mk (blk_drew BK1.out)
  have n1_ := Aside0.mk (below_drew1 HB.out)
  clear BK1
  clear HB
  have BK1 := n0_
  have HB := n1_
  clear n0_ n1_
  refine start_ (n := 9) (S := fun w' => w'.cell? ⟨gb1, 0, none⟩ = some (.int .i64 a0_0) ∧ w'.cell? ⟨gb1, 1, none⟩ = some (.int .i64 a0_1) ∧ w'.cell? ⟨gb1, 2, none⟩ = some (.int .i64 a0_2)) (ds := []) #[false, false, false, false, false, false, false, false, false] (by kernel_rfl) rfl rfl ⟨(blk_cell BK1.out 0).trans rfl, (blk_cell BK1.out 1).trans rfl, (blk_cell BK1.out 2).trans rfl⟩ (fun hHeld => ?_); refine with_tabW vec_May.tab1 vec_May.bits1 (fun HT_ HW_ => ?_)
  generalize w6.drew = w7 at BK1 HB hHeld ⊢
  refine pure_ (i := 0) (N := some 3) (v := ?_) (a' := ?_) #[true, false, false, false, false, false, false, false, false] rfl rfl (any_of HT_.out (by kernel_rfl)) (fun _ _ _ h => h) (Or.inl ⟨by rfl, ?_⟩) ?_ ?_
  rotate_left
  ·intro w'
   go_simp
   with_reducible rfl
  rotate_left
  ·simp only [Act.put, List.setIfInBounds_toArray, List.set_cons_zero, List.set_cons_succ, i64_w, i32_w]
   rfl
  refine take_ (i := 1) (N := some 4) (v := ?_) (a' := ?_) #[true, true, false, false, false, false, false, false, false] rfl rfl (take_ofW HT_.out HW_.out (by kernel_rfl)) (fun _ _ _ h => h) (Or.inl ⟨by rfl, ?_⟩) hHeld ?_ ?_
  rotate_left
  ·rintro w' ⟨s0, s1, s2⟩
   go_simp
   with_reducible rfl
  rotate_left
  ·simp only [Act.put, List.setIfInBounds_toArray, List.set_cons_zero, List.set_cons_succ, i64_w, i32_w]
   rfl
  refine one_ (i := 2) (N := some 5) #[true, true, true, false, false, false, false, false, false] rfl rfl (one_of HT_.out (by kernel_rfl)) (by decide) (fun K hK => ?_)
  refine goes_ Try.func118 (by kernel_rfl) rfl #[.agg #[.int .i64 0, .int .i64 0, .int .i64 0], .agg #[.int .i64 a0_0, .int .i64 a0_1, .int .i64 a0_2]] (by rfl) rfl rfl (by (try simp only [List.map_toArray, List.map_cons, List.map_nil]); first | done | rfl | (simp only [List.length_drop, List.length_take]; rfl)) ?_
  with_reducible refine (vec_Le.calls 0 0 0 a0_0 a0_1 a0_2 true _ A2.out).mono ?_
  rintro e w8 ⟨rfl, hb⟩
  refine ⟨_, rfl, ?_⟩
  have n0_ := Aside0.mk (blk_below (g := gb1) (o := .cells #[.int .i64 a0_0, .int .i64 a0_1, .int .i64 a0_2] 27 (0, 0)) (by (with_reducible repeat (first|refine blk_drewN ?_ _|refine blk_drew ?_|refine blk_alloc ?_ _));exact BK1.out) hb)
  have n1_ := Aside0.mk (below_step (by repeat (first|(with_reducible first|exact HB.out|apply below_alloc|apply pw_below_drewN|apply below_drew1|refine below_set ?_ GE1.out)|exact HB.out)) hb)
  clear BK1
  clear HB
  have BK1 := n0_
  have HB := n1_
  clear n0_ n1_
  (try clear hb)
  (try clear hb2)
  (try clear hk)
  (try clear hi)
  refine hK.out _ _ ⟨(blk_cell BK1.out 0).trans rfl, (blk_cell BK1.out 1).trans rfl, (blk_cell BK1.out 2).trans rfl⟩ (fun hHeld => ?_)
  clear hK K
  refine norm_ (a' := ?_) ?_ ?_
  rotate_left
  ·show Act.put _ (some 5) _ = _
   simp only [Act.put, List.setIfInBounds_toArray, List.set_cons_zero, List.set_cons_succ, i64_w, i32_w]
   rfl
  refine pure_ (i := 3) (N := some 6) (v := ?_) (a' := ?_) #[true, true, true, true, false, false, false, false, false] rfl rfl (any_of HT_.out (by kernel_rfl)) (fun _ _ _ h => h) (Or.inl ⟨by rfl, ?_⟩) ?_ ?_
  rotate_left
  ·intro w'
   go_simp
   with_reducible rfl
  rotate_left
  ·simp only [Act.put, List.setIfInBounds_toArray, List.set_cons_zero, List.set_cons_succ, i64_w, i32_w]
   rfl
  refine take_ (i := 4) (N := some 7) (v := ?_) (a' := ?_) #[true, true, true, true, true, false, false, false, false] rfl rfl (take_ofW HT_.out HW_.out (by kernel_rfl)) (fun _ _ _ h => h) (Or.inl ⟨by rfl, ?_⟩) hHeld ?_ ?_
  rotate_left
  ·rintro w' ⟨s0, s1, s2⟩
   go_simp
   with_reducible rfl
  rotate_left
  ·simp only [Act.put, List.setIfInBounds_toArray, List.set_cons_zero, List.set_cons_succ, i64_w, i32_w]
   rfl
  refine one_ (i := 5) (N := some 8) #[true, true, true, true, true, true, false, false, false] rfl rfl (one_of HT_.out (by kernel_rfl)) (by decide) (fun K hK => ?_)
  refine goes_ Try.func157 (by kernel_rfl) rfl #[] (by rfl) rfl rfl (by (try simp only [List.map_toArray, List.map_cons, List.map_nil]); first | done | rfl | (simp only [List.length_drop, List.length_take]; rfl)) ?_
  with_reducible refine (vec_Most.calls  t3 t4 t5 _ A4.out).mono ?_
  rintro e w9 ⟨rfl, hb⟩
  refine ⟨_, rfl, ?_⟩
  have n0_ := Aside0.mk (blk_below (g := gb1) (o := .cells #[.int .i64 a0_0, .int .i64 a0_1, .int .i64 a0_2] 27 (0, 0)) (by (with_reducible repeat (first|refine blk_drewN ?_ _|refine blk_drew ?_|refine blk_alloc ?_ _));exact BK1.out) hb)
  have n1_ := Aside0.mk (below_step (by repeat (first|(with_reducible first|exact HB.out|apply below_alloc|apply pw_below_drewN|apply below_drew1|refine below_set ?_ GE1.out)|exact HB.out)) hb)
  clear BK1
  clear HB
  have BK1 := n0_
  have HB := n1_
  clear n0_ n1_
  (try clear hb)
  (try clear hb2)
  (try clear hk)
  (try clear hi)
  refine hK.out _ _ ⟨(blk_cell BK1.out 0).trans rfl, (blk_cell BK1.out 1).trans rfl, (blk_cell BK1.out 2).trans rfl⟩ (fun hHeld => ?_)
  clear hK K
  refine norm_ (a' := ?_) ?_ ?_
  rotate_left
  ·show Act.put _ (some 8) _ = _
   simp only [Act.put, List.setIfInBounds_toArray, List.set_cons_zero, List.set_cons_succ, i64_w, i32_w]
   rfl
  refine one_ (i := 6) (N := some 9) #[true, true, true, true, true, true, true, false, false] rfl rfl (one_of HT_.out (by kernel_rfl)) (by decide) (fun K hK => ?_)
  refine goes_ Try.func118 (by kernel_rfl) rfl #[.agg #[.int .i64 a0_0, .int .i64 a0_1, .int .i64 a0_2], .agg #[.int .i64 t3, .int .i64 t4, .int .i64 t5]] (by rfl) rfl rfl (by (try simp only [List.map_toArray, List.map_cons, List.map_nil]); first | done | rfl | (simp only [List.length_drop, List.length_take]; rfl)) ?_
  with_reducible refine (vec_Le.calls a0_0 a0_1 a0_2 t3 t4 t5 t6 _ A5.out).mono ?_
  rintro e w10 ⟨rfl, hb⟩
  refine ⟨_, rfl, ?_⟩
  have n0_ := Aside0.mk (blk_below (g := gb1) (o := .cells #[.int .i64 a0_0, .int .i64 a0_1, .int .i64 a0_2] 27 (0, 0)) (by (with_reducible repeat (first|refine blk_drewN ?_ _|refine blk_drew ?_|refine blk_alloc ?_ _));exact BK1.out) hb)
  have n1_ := Aside0.mk (below_step (by repeat (first|(with_reducible first|exact HB.out|apply below_alloc|apply pw_below_drewN|apply below_drew1|refine below_set ?_ GE1.out)|exact HB.out)) hb)
  clear BK1
  clear HB
  have BK1 := n0_
  have HB := n1_
  clear n0_ n1_
  (try clear hb)
  (try clear hb2)
  (try clear hk)
  (try clear hi)
  refine hK.out _ _ ⟨(blk_cell BK1.out 0).trans rfl, (blk_cell BK1.out 1).trans rfl, (blk_cell BK1.out 2).trans rfl⟩ (fun hHeld => ?_)
  clear hK K
  refine norm_ (a' := ?_) ?_ ?_
  rotate_left
  ·show Act.put _ (some 9) _ = _
   simp only [Act.put, List.setIfInBounds_toArray, List.set_cons_zero, List.set_cons_succ, i64_w, i32_w]
   rfl
  refine pure_ (i := 7) (N := some 10) (v := ?_) (a' := ?_) #[true, true, true, true, true, true, true, true, false] rfl rfl (any_of HT_.out (by kernel_rfl)) (fun _ _ _ h => h) (Or.inl ⟨by rfl, ?_⟩) ?_ ?_
  rotate_left
  ·intro w'
   go_simp
   with_reducible rfl
  rotate_left
  ·simp only [Act.put, List.setIfInBounds_toArray, List.set_cons_zero, List.set_cons_succ, i64_w, i32_w]
   rfl
  refine pure_ (i := 8) (N := some 2) (v := ?_) (a' := ?_) #[true, true, true, true, true, true, true, true, true] rfl rfl (any_of HT_.out (by kernel_rfl)) (fun _ _ _ h => h) (Or.inl ⟨by rfl, ?_⟩) ?_ ?_
  rotate_left
  ·intro w'
   go_simp
   with_reducible rfl
  rotate_left
  ·simp only [Act.put, List.setIfInBounds_toArray, List.set_cons_zero, List.set_cons_succ, i64_w, i32_w]
   rfl
  refine done_ (done_of HT_.out (by kernel_rfl)) ?_
  try go_wp2
  go_ret
  exact ⟨by first|rfl|(simp [errW_none, errW_some] <;> rfl)|(simp [*, errW_none, errW_some] <;> rfl), by repeat (first|(with_reducible first|exact HB.out|apply below_alloc|apply pw_below_drewN|apply below_drew1|refine below_set ?_ GE1.out)|exact HB.out)⟩
 ·replace c3 := Bool.eq_false_iff.mpr c3
  subst c3
  have H1 : (some false) = some r := by rw [if_neg (show ¬ (false = true) by decide)] at H; exact H
  clear H
  have H := H1
  clear H1
  obtain rfl := Option.some.inj H
  go_enter Try.func115, Try.ntmps115
  try go_wp2_with (first|((with_reducible refine gate_dst (N := 1) rfl ?_);refine box_event ?hg (N := 1) ?hd (cs := #[.int .i64 a0_0, .int .i64 a0_1, .int .i64 a0_2]) (t := 27) ?hr ?_;(case hd => rfl);(case hg => rfl);(case hr => first|(go_simp;done)|(go_simp;rfl));intro gb1 hg w11 hbox hb;have n0_ := Aside0.mk (below_step (by repeat (first|(with_reducible first|exact HB.out|apply below_alloc|apply pw_below_drewN|apply below_drew1)|exact HB.out)) hb);have n1_ := Aside0.mk (hbox);have n2_ := Aside0.mk ((by rw [hg];exact (below_size (by repeat (first|(with_reducible first|exact HB.out|apply below_alloc|apply pw_below_drewN|apply below_drew1)|exact HB.out))) : w.heap.size ≤ gb1));have n3_ := Aside0.mk ((by rw [hg];exact (below_size (by repeat (first|(with_reducible first|exact HB.out|apply below_alloc|apply pw_below_drewN|apply below_drew1)|exact HB.out))) : w.heap.size ≤ gb1));clear HB;have HB := n0_;have BK1 := n1_;have GW1 := n2_;have GE1 := n3_;clear n0_ n1_ n2_ n3_;clear hb hbox hg))
  have n0_ := Aside0.mk (blk_drew BK1.out)
  have n1_ := Aside0.mk (below_drew1 HB.out)
  clear BK1
  clear HB
  have BK1 := n0_
  have HB := n1_
  clear n0_ n1_
  refine start_ (n := 9) (S := fun w' => w'.cell? ⟨gb1, 0, none⟩ = some (.int .i64 a0_0) ∧ w'.cell? ⟨gb1, 1, none⟩ = some (.int .i64 a0_1) ∧ w'.cell? ⟨gb1, 2, none⟩ = some (.int .i64 a0_2)) (ds := []) #[false, false, false, false, false, false, false, false, false] (by kernel_rfl) rfl rfl ⟨(blk_cell BK1.out 0).trans rfl, (blk_cell BK1.out 1).trans rfl, (blk_cell BK1.out 2).trans rfl⟩ (fun hHeld => ?_); refine with_tabW vec_May.tab1 vec_May.bits1 (fun HT_ HW_ => ?_)
  generalize w11.drew = w12 at BK1 HB hHeld ⊢
  refine pure_ (i := 0) (N := some 3) (v := ?_) (a' := ?_) #[true, false, false, false, false, false, false, false, false] rfl rfl (any_of HT_.out (by kernel_rfl)) (fun _ _ _ h => h) (Or.inl ⟨by rfl, ?_⟩) ?_ ?_
  rotate_left
  ·intro w'
   go_simp
   with_reducible rfl
  rotate_left
  ·simp only [Act.put, List.setIfInBounds_toArray, List.set_cons_zero, List.set_cons_succ, i64_w, i32_w]
   rfl
  refine take_ (i := 1) (N := some 4) (v := ?_) (a' := ?_) #[true, true, false, false, false, false, false, false, false] rfl rfl (take_ofW HT_.out HW_.out (by kernel_rfl)) (fun _ _ _ h => h) (Or.inl ⟨by rfl, ?_⟩) hHeld ?_ ?_
  rotate_left
  ·rintro w' ⟨s0, s1, s2⟩
   go_simp
   with_reducible rfl
  rotate_left
  ·simp only [Act.put, List.setIfInBounds_toArray, List.set_cons_zero, List.set_cons_succ, i64_w, i32_w]
   rfl
  refine one_ (i := 2) (N := some 5) #[true, true, true, false, false, false, false, false, false] rfl rfl (one_of HT_.out (by kernel_rfl)) (by decide) (fun K hK => ?_)
  refine goes_ Try.func118 (by kernel_rfl) rfl #[.agg #[.int .i64 0, .int .i64 0, .int .i64 0], .agg #[.int .i64 a0_0, .int .i64 a0_1, .int .i64 a0_2]] (by rfl) rfl rfl (by (try simp only [List.map_toArray, List.map_cons, List.map_nil]); first | done | rfl | (simp only [List.length_drop, List.length_take]; rfl)) ?_
  with_reducible refine (vec_Le.calls 0 0 0 a0_0 a0_1 a0_2 false _ A2.out).mono ?_
  rintro e w13 ⟨rfl, hb⟩
  refine ⟨_, rfl, ?_⟩
  have n0_ := Aside0.mk (blk_below (g := gb1) (o := .cells #[.int .i64 a0_0, .int .i64 a0_1, .int .i64 a0_2] 27 (0, 0)) (by (with_reducible repeat (first|refine blk_drewN ?_ _|refine blk_drew ?_|refine blk_alloc ?_ _));exact BK1.out) hb)
  have n1_ := Aside0.mk (below_step (by repeat (first|(with_reducible first|exact HB.out|apply below_alloc|apply pw_below_drewN|apply below_drew1|refine below_set ?_ GE1.out)|exact HB.out)) hb)
  clear BK1
  clear HB
  have BK1 := n0_
  have HB := n1_
  clear n0_ n1_
  (try clear hb)
  (try clear hb2)
  (try clear hk)
  (try clear hi)
  refine hK.out _ _ ⟨(blk_cell BK1.out 0).trans rfl, (blk_cell BK1.out 1).trans rfl, (blk_cell BK1.out 2).trans rfl⟩ (fun hHeld => ?_)
  clear hK K
  refine norm_ (a' := ?_) ?_ ?_
  rotate_left
  ·show Act.put _ (some 5) _ = _
   simp only [Act.put, List.setIfInBounds_toArray, List.set_cons_zero, List.set_cons_succ, i64_w, i32_w]
   rfl
  refine pure_ (i := 3) (N := some 6) (v := ?_) (a' := ?_) #[true, true, true, true, false, false, false, false, false] rfl rfl (any_of HT_.out (by kernel_rfl)) (fun _ _ _ h => h) (Or.inl ⟨by rfl, ?_⟩) ?_ ?_
  rotate_left
  ·intro w'
   go_simp
   with_reducible rfl
  rotate_left
  ·simp only [Act.put, List.setIfInBounds_toArray, List.set_cons_zero, List.set_cons_succ, i64_w, i32_w]
   rfl
  refine pure_ (i := 4) (N := some 7) (v := undef) (a' := ?_) #[true, true, true, true, true, false, false, false, false] rfl rfl (any_of HT_.out (by kernel_rfl)) (fun _ _ _ h => h) (Or.inr ⟨by rfl, rfl⟩) ?_ ?_
  rotate_left
  ·simp only [Act.put, List.setIfInBounds_toArray, List.set_cons_zero, List.set_cons_succ, i64_w, i32_w]
   rfl
  refine pure_ (i := 5) (N := some 8) (v := undef) (a' := ?_) #[true, true, true, true, true, true, false, false, false] rfl rfl (any_of HT_.out (by kernel_rfl)) (fun _ _ _ h => h) (Or.inr ⟨by rfl, rfl⟩) ?_ ?_
  rotate_left
  ·simp only [Act.put, List.setIfInBounds_toArray, List.set_cons_zero, List.set_cons_succ, i64_w, i32_w]
   rfl
  refine pure_ (i := 6) (N := some 9) (v := undef) (a' := ?_) #[true, true, true, true, true, true, true, false, false] rfl rfl (any_of HT_.out (by kernel_rfl)) (fun _ _ _ h => h) (Or.inr ⟨by rfl, rfl⟩) ?_ ?_
  rotate_left
  ·simp only [Act.put, List.setIfInBounds_toArray, List.set_cons_zero, List.set_cons_succ, i64_w, i32_w]
   rfl
  refine pure_ (i := 7) (N := some 10) (v := ?_) (a' := ?_) #[true, true, true, true, true, true, true, true, false] rfl rfl (any_of HT_.out (by kernel_rfl)) (fun _ _ _ h => h) (Or.inl ⟨by rfl, ?_⟩) ?_ ?_
  rotate_left
  ·intro w'
   go_simp
   with_reducible rfl
  rotate_left
  ·simp only [Act.put, List.setIfInBounds_toArray, List.set_cons_zero, List.set_cons_succ, i64_w, i32_w]
   rfl
  refine pure_ (i := 8) (N := some 2) (v := ?_) (a' := ?_) #[true, true, true, true, true, true, true, true, true] rfl rfl (any_of HT_.out (by kernel_rfl)) (fun _ _ _ h => h) (Or.inl ⟨by rfl, ?_⟩) ?_ ?_
  rotate_left
  ·intro w'
   go_simp
   with_reducible rfl
  rotate_left
  ·simp only [Act.put, List.setIfInBounds_toArray, List.set_cons_zero, List.set_cons_succ, i64_w, i32_w]
   rfl
  refine done_ (done_of HT_.out (by kernel_rfl)) ?_
  try go_wp2
  go_ret
  exact ⟨by first|rfl|(simp [errW_none, errW_some] <;> rfl)|(simp [*, errW_none, errW_some] <;> rfl), by repeat (first|(with_reducible first|exact HB.out|apply below_alloc|apply pw_below_drewN|apply below_drew1|refine below_set ?_ GE1.out)|exact HB.out)⟩
end Go.Proofs.Ytcgefpklljclgaa.Print

namespace Go.Proofs.Ytcgefpklljclgaa.Print
open Go.RowKit Go.Proofs.YtcgefpklljclgaaW.PrintWords Go.Proofs.YtcgefpklljclgaaW.PrintLast Go.Proofs.YtcgefpklljclgaaW.PrintMore
attribute [local go_sem] max2_int min2_int max_two min_two max_three min_three max_four min_four   -- for this text's walks alone
set_option linter.unusedVariables false
set_option linter.unusedSimpArgs false
/-! ### idx_Str: function 164 -/
theorem at_str {w : World} {A : Option Addr} {n : Nat} {xs : List ByteArray} (h : Kd.C Kd.string w A n xs) (i : Int) (h0 : 0 ≤ i) (h1 : i < n) : ∃ ad, A = some ad ∧ w.cell? (ad.add i.toNat) = some (.string (rdOf ByteArray.empty xs i)) := by
  obtain ⟨ad, c, e, _, hK, hc⟩ := Kd.C_get h ByteArray.empty i h0 h1
  have hc0 : ∀ j u, c[j]? = some u → w.cell? (ad.add (i.toNat * 1 + j)) = some u := hc
  obtain rfl : c = [.string (xs.getD i.toNat ByteArray.empty)] := hK
  have := hc0 0 _ rfl
  rw [Nat.mul_one, Nat.add_zero] at this
  exact ⟨ad, e, this⟩
-- uses fidx
set_option maxHeartbeats 1000000 in
set_option maxRecDepth 100000 in
theorem idxStr_calls (g : Nat) (lb : Array Value) (p : ByteArray → Bool) (eg : ∀ args w, (callFunc g args).run Try.prog w = .ok (.enter g args) w) (w : World) (A : Option Addr) (c : Nat) (l : List ByteArray)
    (hp : ∀ W x, x ∈ l → Below w.heap.size w W → Calls Try.prog g (#[.string x] ++ lb) W fun e w' => e = .returned (.bool (p x)) ∧ Below W.heap.size W w')
    (hr0 : Kd.C Kd.string w A l.length l) (hc0 : l.length ≤ c) :
    Calls Try.prog 164 #[.slice A l.length c, .func (.func g) #[] lb] w fun e w' => e = .returned (.int .i64 (fidx p l 0)) ∧ Below w.heap.size w w' := by
  have HR0 := Aside0.mk hr0
  have HP := Aside0.mk hp
  have HEG := Aside0.mk eg
  have hm : l.length ≤ 9223372036854775807 := hr0.2.1
  clear hr0 hp eg
  go_enter Try.func164, Try.ntmps164
  go_wp2
  go_loopg [5, 8] l.length (fun kq s5 s8 wr => ∃ i : Nat, i ≤ l.length ∧ l.length - i ≤ kq ∧ s8 = .int .i64 i ∧ Aside0 (Below w.heap.size w wr) ∧ Aside0 (fidx p l 0 = fidx p (l.drop i) i))
  case atStart => exact ⟨0, by omega, by omega, rfl, ⟨Below.refl _ _⟩, ⟨rfl⟩⟩
  case round =>
    obtain ⟨i, hi, hg, rfl, HB, HF⟩ := hrel
    by_cases hlt : i < l.length
    · have hltz : (i : Int) < (l.length : Int) := by omega
      obtain ⟨ad, e1, h0⟩ := at_str HR0.out (i : Int) (by omega) (by omega)
      cases e1
      simp only [Int.toNat_natCast] at h0
      replace h0 := (HB.out.cell (World.block_lt_of_cell? w _ h0)).trans h0
      have hd : Aside0 _ := ⟨fidx_drop p ByteArray.empty l i hlt⟩
      have HC := Aside0.mk (HP.out wr (rdOf ByteArray.empty l i) (by simp [rdOf, hlt]) HB.out)
      generalize hy : rdOf ByteArray.empty l i = y at h0 HC
      have hq : p (l.getD i ByteArray.empty) = p y := by rw [← hy]; simp [rdOf]
      have HQ := Aside0.mk hq
      clear hy hq
      have eg := HEG.out
      cases hb : p y with
      | true =>
        rw [hb] at HC HQ
        clear hb
        go_wp2_with (go_at_fn g;refine HC.out.mono ?_;rintro e w' ⟨rfl, hb'⟩;have HB' := Aside0.mk (below_step HB.out hb');clear hb')
        go_ret
        refine ⟨?_, HB'.out⟩
        rw [HF.out, hd.out, HQ.out]
        rfl
      | false =>
        rw [hb] at HC HQ
        clear hb
        go_wp2_with (go_at_fn g;refine HC.out.mono ?_;rintro e w' ⟨rfl, hb'⟩;have HB' := Aside0.mk (below_step HB.out hb');clear hb')
        go_roundg (l.length - (i + 1))
        case measure => omega
        case rel => exact ⟨i + 1, by omega, by omega, by go_num, HB', ⟨by rw [HF.out, hd.out, HQ.out];rfl⟩⟩
    · obtain rfl : i = l.length := by omega
      go_wp2
      go_ret
      refine ⟨?_, HB.out⟩
      rw [HF.out, List.drop_length]
      rfl
end Go.Proofs.Ytcgefpklljclgaa.Print

namespace Go.Proofs.Ytcgefpklljclgaa.Print
open Go.RowKit Go.Proofs.YtcgefpklljclgaaW.PrintWords Go.Proofs.YtcgefpklljclgaaW.PrintLast Go.Proofs.YtcgefpklljclgaaW.PrintMore
attribute [local go_sem] max2_int min2_int max_two min_two max_three min_three max_four min_four   -- for this text's walks alone
set_option linter.unusedVariables false
set_option linter.unusedSimpArgs false
/-! ### contains_Str: function 129 -/
theorem fidx_any {α : Type} (p : α → Bool) : ∀ (l : List α) (i : Int), 0 ≤ i → decide (0 ≤ fidx p l i) = l.any p
  | [], _, _ => rfl
  | x :: l, i, h => by
    unfold fidx
    rw [List.any_cons]
    by_cases hx : p x = true
    · rw [if_pos hx, hx]; simpa using h
    · rw [if_neg hx, fidx_any p l (i + 1) (by omega)]
      simp [hx]
set_option maxHeartbeats 1000000 in
set_option maxRecDepth 100000 in
theorem containsStr_calls (g : Nat) (lb : Array Value) (p : ByteArray → Bool) (eg : ∀ args w, (callFunc g args).run Try.prog w = .ok (.enter g args) w) (w : World) (A : Option Addr) (c : Nat) (l : List ByteArray)
    (hp : ∀ W x, x ∈ l → Below w.heap.size w W → Calls Try.prog g (#[.string x] ++ lb) W fun e w' => e = .returned (.bool (p x)) ∧ Below W.heap.size W w')
    (hr0 : Kd.C Kd.string w A l.length l) (hc0 : l.length ≤ c) :
    Calls Try.prog 129 #[.slice A l.length c, .func (.func g) #[] lb] w fun e w' => e = .returned (.bool (l.any p)) ∧ Below w.heap.size w w' := by
  have HC := Aside0.mk (idxStr_calls g lb p eg w A c l hp hr0 hc0)
  rw [← fidx_any p l 0 (by omega)]
  generalize fidx p l 0 = r at HC
  clear hp hr0 eg
  go_enter Try.func129, Try.ntmps129
  go_wp2_with (go_at_call 164;refine HC.out.mono ?_;rintro e w' ⟨rfl, hb'⟩;have HB' := Aside0.mk hb';clear hb')
  go_ret
  exact ⟨rfl, HB'.out⟩
end Go.Proofs.Ytcgefpklljclgaa.Print

namespace Go.Proofs.Ytcgefpklljclgaa.Print
open Go.RowKit Go.Proofs.YtcgefpklljclgaaW.PrintWords Go.Proofs.YtcgefpklljclgaaW.PrintLast Go.Proofs.YtcgefpklljclgaaW.PrintMore
attribute [local go_sem] max2_int min2_int max_two min_two max_three min_three max_four min_four   -- for this text's walks alone
set_option linter.unusedVariables false
set_option linter.unusedSimpArgs false
/-! ### admit_live_at: function 132 -/
def admit_live_at.f (l0_0 : List (S31)) (a1 : ByteArray) : Option (Int) := (tree_Find.f l0_0 a1).bind fun t2 => (some t2)
set_option maxHeartbeats 8000000 in
set_option maxRecDepth 100000 in
theorem admit_live_at.calls (A0_0 : Option Addr) (c0_0 : Nat) (l0_0 : List (S31)) (a1 : ByteArray) (r : Int) (w : World) (hr0_0 : Kd.C k31 w A0_0 l0_0.length l0_0) (hc0_0 : l0_0.length ≤ c0_0) (h : admit_live_at.f l0_0 a1 = some r) :
  Calls Try.prog 132 #[.agg #[.slice A0_0 l0_0.length c0_0], .string a1] w fun e w' => e = .returned (.int .i64 r) ∧ Below w.heap.size w w' := by
 have hu147 := Try.underlying147
 have HR0_0 := Aside0.mk hr0_0
 have HC0_0 := Aside0.mk hc0_0
 clear hr0_0 hc0_0
 have HB := Aside0.mk (Below.refl w.heap.size w)
 have H : ((tree_Find.f l0_0 a1).bind fun t2 => (some t2)) = some r := h
 clear h
 replace H := Option.bind_eq_some_iff.mp H
 obtain ⟨t2, A30, H⟩ := H
 replace H : (some t2) = some r := H
 have A3 := Aside0.mk A30
 clear A30
 obtain rfl := Option.some.inj H
 go_enter Try.func132, Try.ntmps132
 go_wp2_with (first|((with_reducible refine gate_dst (N := 2) rfl ?_);refine box_event ?hg (N := 2) ?hd (cs := #[.slice A0_0 l0_0.length c0_0]) (t := 147) ?hr ?_;(case hd => rfl);(case hg => rfl);(case hr => first|(go_simp;done)|(go_simp;rfl));intro gb1 hg w4 hbox hb;have n0_ := Aside0.mk (below_step (by repeat (first|(with_reducible first|exact HB.out|apply below_alloc|apply pw_below_drewN|apply below_drew1)|exact HB.out)) hb);have n1_ := Aside0.mk (hbox);have n2_ := Aside0.mk ((by rw [hg];exact (below_size (by repeat (first|(with_reducible first|exact HB.out|apply below_alloc|apply pw_below_drewN|apply below_drew1)|exact HB.out))) : w.heap.size ≤ gb1));have n3_ := Aside0.mk ((by rw [hg];exact (below_size (by repeat (first|(with_reducible first|exact HB.out|apply below_alloc|apply pw_below_drewN|apply below_drew1)|exact HB.out))) : w.heap.size ≤ gb1));clear HB;have HB := n0_;have BK1 := n1_;have GW1 := n2_;have GE1 := n3_;clear n0_ n1_ n2_ n3_;clear hb hbox hg;have hcz5_0 : w4.cell? ⟨gb1, 0, none⟩ = some (.slice A0_0 l0_0.length c0_0) := (blk_cell BK1.out 0).trans rfl;have hfz5_0 := blk_frozen BK1.out 0)|((with_reducible refine gate_callee (f := 71) rfl ?_);refine goesL_ (some 8) rfl rfl Try.func71 (by kernel_rfl) rfl #[.slice A0_0 l0_0.length c0_0, .string a1] rfl (by (try simp only [List.map_toArray, List.map_cons, List.map_nil]);first|done|rfl|(simp only [List.length_drop, List.length_take];rfl)) ?_;(with_reducible refine (tree_Find.calls _ _ l0_0 a1 t2 _ ?side1 ?side2 A3.out).mono ?_);(case side1 => repeat (first|exact (Kd.C_below HR0_0.out HB.out)|(with_reducible refine Kd.C_alloc ?_ _)|(with_reducible refine Kd.C_drewN ?_ _)|(with_reducible refine Kd.C_drew ?_)));(case side2 => exact HC0_0.out);rintro e w6 ⟨rfl, hb⟩;refine ⟨_, rfl, ?_⟩;have n0_ := Aside0.mk (blk_below (g := gb1) (o := .cells #[.slice A0_0 l0_0.length c0_0] 147 (0, 0)) (by (with_reducible repeat (first|refine blk_drewN ?_ _|refine blk_drew ?_|refine blk_alloc ?_ _));exact BK1.out) hb);have n1_ := Aside0.mk (below_step (by repeat (first|(with_reducible first|exact HB.out|apply below_alloc|apply pw_below_drewN|apply below_drew1|refine below_set ?_ GE1.out)|exact HB.out)) hb);clear BK1;clear HB;have BK1 := n0_;have HB := n1_;clear n0_ n1_;(try clear hb);(try clear hb2);(try clear hk);(try clear hi)))
 go_ret
 exact ⟨by first|rfl|(simp [errW_none, errW_some] <;> rfl)|(simp [*, errW_none, errW_some] <;> rfl), by repeat (first|(with_reducible first|exact HB.out|apply below_alloc|apply pw_below_drewN|apply below_drew1|refine below_set ?_ GE1.out)|exact HB.out)⟩
end Go.Proofs.Ytcgefpklljclgaa.Print

namespace Go.Proofs.Ytcgefpklljclgaa.Print
open Go.RowKit Go.Proofs.YtcgefpklljclgaaW.PrintWords Go.Proofs.YtcgefpklljclgaaW.PrintLast Go.Proofs.YtcgefpklljclgaaW.PrintMore
attribute [local go_sem] max2_int min2_int max_two min_two max_three min_three max_four min_four   -- for this text's walks alone
set_option linter.unusedVariables false
set_option linter.unusedSimpArgs false
/-! ### admit_all: function 116 -/
set_option maxHeartbeats 1000000 in
set_option maxRecDepth 100000 in
theorem admit1_calls (W : World) (b : Nat) (v : S27) (hb : W.heap[b]? = some (.cells #[.int .i64 v.f0, .int .i64 v.f1, .int .i64 v.f2] 27 (0, 0))) (x : S31) (r1 r2 r3 : Int) (q : Bool)
    (h1 : vec_Add.f [x.f4, v] = some (r1, r2, r3)) (h2 : vec_Le.f r1 r2 r3 x.f2.f0 x.f2.f1 x.f2.f2 = some q) :
    Calls Try.prog 117 #[.agg (itemCells x), .pointer (some ⟨b, 0, none⟩)] W fun e w' => e = .returned (.bool q) ∧ Below W.heap.size W w' := by
  unfold itemCells
  have hu31 := Try.underlying31
  have hu27 := Try.underlying27
  have h0 := (blk_cell hb 0).trans rfl
  have h01 := (blk_cell hb 1).trans rfl
  have h02 := (blk_cell hb 2).trans rfl
  have hl : b < W.heap.size := blk_lt hb
  clear hb
  go_enter Try.func117, Try.ntmps117
  obtain ⟨W1, hW1⟩ : ∃ W1, W1 = W.alloc (.cells #[.string x.f0, .string x.f1, .int .i64 x.f2.f0, .int .i64 x.f2.f1, .int .i64 x.f2.f2, .int .i64 x.f3.f0, .int .i64 x.f3.f1, .int .i64 x.f3.f2, .int .i64 x.f4.f0, .int .i64 x.f4.f1, .int .i64 x.f4.f2, .int .i64 x.f5] 31) := ⟨_, rfl⟩
  have hn : W1.heap[W.heap.size]? = some (.cells #[.string x.f0, .string x.f1, .int .i64 x.f2.f0, .int .i64 x.f2.f1, .int .i64 x.f2.f2, .int .i64 x.f3.f0, .int .i64 x.f3.f1, .int .i64 x.f3.f2, .int .i64 x.f4.f0, .int .i64 x.f4.f1, .int .i64 x.f4.f2, .int .i64 x.f5] 31 (0, 0)) := by rw [hW1]; exact blk_new _ _
  have hB : Below W.heap.size W W1 := by rw [hW1]; exact below_alloc (Below.refl _ _) _
  have k0 : W1.cell? ⟨b, 0, none⟩ = some (.int .i64 v.f0) := pw_cell_below hB h0
  have k1 : W1.cell? ⟨b, 1, none⟩ = some (.int .i64 v.f1) := pw_cell_below hB h01
  have k2 : W1.cell? ⟨b, 2, none⟩ = some (.int .i64 v.f2) := pw_cell_below hB h02
  have l0 : W1.cell? ⟨W.heap.size, 8, none⟩ = some (.int .i64 x.f4.f0) := (blk_cell hn 8).trans rfl
  have l1 : W1.cell? ⟨W.heap.size, 9, none⟩ = some (.int .i64 x.f4.f1) := (blk_cell hn 9).trans rfl
  have l2 : W1.cell? ⟨W.heap.size, 10, none⟩ = some (.int .i64 x.f4.f2) := (blk_cell hn 10).trans rfl
  have l3 : W1.cell? ⟨W.heap.size, 2, none⟩ = some (.int .i64 x.f2.f0) := (blk_cell hn 2).trans rfl
  have l4 : W1.cell? ⟨W.heap.size, 3, none⟩ = some (.int .i64 x.f2.f1) := (blk_cell hn 3).trans rfl
  have l5 : W1.cell? ⟨W.heap.size, 4, none⟩ = some (.int .i64 x.f2.f2) := (blk_cell hn 4).trans rfl
  go_wp2_with fail
  rw [← hW1]
  have HW := Aside0.mk hW1
  have HA := Aside0.mk h1
  have HL := Aside0.mk h2
  clear hW1 hn h0 h01 h02 h1 h2 hl
  have hBd : Below W.heap.size W W1.drew := below_drew hB
  go_region_held3 (fun w' => w'.cell? ⟨b, 0, none⟩ = some (.int .i64 v.f0) ∧ w'.cell? ⟨b, 1, none⟩ = some (.int .i64 v.f1) ∧ w'.cell? ⟨b, 2, none⟩ = some (.int .i64 v.f2) ∧ w'.cell? ⟨W.heap.size, 8, none⟩ = some (.int .i64 x.f4.f0) ∧ w'.cell? ⟨W.heap.size, 9, none⟩ = some (.int .i64 x.f4.f1) ∧ w'.cell? ⟨W.heap.size, 10, none⟩ = some (.int .i64 x.f4.f2) ∧ w'.cell? ⟨W.heap.size, 2, none⟩ = some (.int .i64 x.f2.f0) ∧ w'.cell? ⟨W.heap.size, 3, none⟩ = some (.int .i64 x.f2.f1) ∧ w'.cell? ⟨W.heap.size, 4, none⟩ = some (.int .i64 x.f2.f2) ∧ Below W.heap.size W w')
    (first | (go_keep; done) | (go_keep; exact below_drew (below_alloc hB _)) | (go_split_ands; refine ⟨?_, ?_, ?_, ?_, ?_, ?_, ?_, ?_, ?_, ?_⟩ <;> first | exact below_step (by first | assumption | exact below_drew (below_alloc hB _)) hb | exact pw_cell_below hb (by first | assumption | (go_keep; done))))
    (first | (go_at_call 119; refine (vec_Add.calls (some ⟨_, 0, none⟩) 2 [x.f4, v] r1 r2 r3 _ (vec_two_row _ _ (blk_drew (blk_new _ _))) (Nat.le_refl _) HA.out).mono ?_; rintro e w' ⟨rfl, hb⟩) | (go_at_call 118; refine (vec_Le.calls _ _ _ _ _ _ _ _ HL.out).mono ?_; rintro e w' ⟨rfl, hb⟩))
  rename_i hHeld
  have HBf := Aside0.mk hHeld.2.2.2.2.2.2.2.2.2
  clear hHeld
  go_wp2
  go_ret
  exact ⟨rfl, HBf.out⟩
set_option maxHeartbeats 2000000 in
set_option maxRecDepth 100000 in
theorem admitAll1_calls (W : World) (bi bp : Nat) (g : Nat) (lbi : Array Value) (p : S31 → Bool) (up : Value) (A : Option Addr) (c : Nat) (l : List S31) (s : ByteArray) (j : Int)
    (eg : ∀ args w, (callFunc g args).run Try.prog w = .ok (.enter g args) w)
    (hi : W.heap[bi]? = some (.cells #[.func (.func g) #[] lbi] 153 (0, 0))) (hq : W.heap[bp]? = some (.cells #[.slice A l.length c, up] 149 (0, 0)))
    (hr : Kd.C k31 W A l.length l) (hc : l.length ≤ c) (hj : tree_Find.f l s = some j) (h0 : 0 ≤ j) (h1 : j < (l.length : Int))
    (hp : ∀ W' x, Below W.heap.size W W' → Calls Try.prog g (#[.agg (itemCells x)] ++ lbi) W' fun e w' => e = .returned (.bool (p x)) ∧ Below W'.heap.size W' w') :
    Calls Try.prog 161 #[.string s, .pointer (some ⟨bi, 0, none⟩), .pointer (some ⟨bp, 0, none⟩)] W fun e w' => e = .returned (.bool (!p (rd_T31 l j))) ∧ Below W.heap.size W w' := by
  have hu31 := Try.underlying31
  have hu149 := Try.underlying149
  have hu147 := Try.underlying147
  obtain ⟨ad, e1, k0, k1, k2, k3, k4, k5, k6, k7, k8, k9, k10, k11⟩ := at_T31 hr j h0 h1
  cases e1
  have i0 : W.cell? ⟨bi, 0, none⟩ = some (.func (.func g) #[] lbi) := (blk_cell hi 0).trans rfl
  have p0 : W.cell? ⟨bp, 0, none⟩ = some (.slice (some ad) l.length c) := (blk_cell hq 0).trans rfl
  have HR := Aside0.mk hr
  have HC := Aside0.mk hc
  have HJ := Aside0.mk hj
  have HP := Aside0.mk (hp · (rd_T31 l j))
  have HEG := Aside0.mk eg
  have hbx := itemCells.eq_1 (rd_T31 l j)
  generalize rd_T31 l j = x at k0 k1 k2 k3 k4 k5 k6 k7 k8 k9 k10 k11 HP hbx ⊢
  rw [hbx] at HP
  have hB : Below W.heap.size W W := Below.refl _ _
  have hBd : Below W.heap.size W W.drew := below_drew hB
  clear hi hq hr hc hj hp eg hbx
  have eg := HEG.out
  have q0 := eq_true h0
  have q1 := eq_true h1
  clear h0 h1
  go_enter Try.func161, Try.ntmps161
  go_wp2_with fail
  go_region_held3 (fun w' => w'.cell? ⟨bi, 0, none⟩ = some (.func (.func g) #[] lbi) ∧ w'.cell? ⟨bp, 0, none⟩ = some (.slice (some ad) l.length c) ∧ w'.cell? (ad.add (j.toNat * 12)) = some (.string x.f0) ∧ w'.cell? ⟨(ad.add (j.toNat * 12)).block, (ad.add (j.toNat * 12)).off + 1, none⟩ = some (.string x.f1) ∧ w'.cell? ⟨(ad.add (j.toNat * 12)).block, (ad.add (j.toNat * 12)).off + 2, none⟩ = some (.int .i64 x.f2.f0) ∧ w'.cell? ⟨(ad.add (j.toNat * 12)).block, (ad.add (j.toNat * 12)).off + 3, none⟩ = some (.int .i64 x.f2.f1) ∧ w'.cell? ⟨(ad.add (j.toNat * 12)).block, (ad.add (j.toNat * 12)).off + 4, none⟩ = some (.int .i64 x.f2.f2) ∧ w'.cell? ⟨(ad.add (j.toNat * 12)).block, (ad.add (j.toNat * 12)).off + 5, none⟩ = some (.int .i64 x.f3.f0) ∧ w'.cell? ⟨(ad.add (j.toNat * 12)).block, (ad.add (j.toNat * 12)).off + 6, none⟩ = some (.int .i64 x.f3.f1) ∧ w'.cell? ⟨(ad.add (j.toNat * 12)).block, (ad.add (j.toNat * 12)).off + 7, none⟩ = some (.int .i64 x.f3.f2) ∧ w'.cell? ⟨(ad.add (j.toNat * 12)).block, (ad.add (j.toNat * 12)).off + 8, none⟩ = some (.int .i64 x.f4.f0) ∧ w'.cell? ⟨(ad.add (j.toNat * 12)).block, (ad.add (j.toNat * 12)).off + 9, none⟩ = some (.int .i64 x.f4.f1) ∧ w'.cell? ⟨(ad.add (j.toNat * 12)).block, (ad.add (j.toNat * 12)).off + 10, none⟩ = some (.int .i64 x.f4.f2) ∧ w'.cell? ⟨(ad.add (j.toNat * 12)).block, (ad.add (j.toNat * 12)).off + 11, none⟩ = some (.int .i64 x.f5) ∧ Below W.heap.size W w')
    (first | (go_keep; done) | (go_split_ands; refine ⟨?_, ?_, ?_, ?_, ?_, ?_, ?_, ?_, ?_, ?_, ?_, ?_, ?_, ?_, ?_⟩ <;> first | exact below_step (by assumption) hb | exact pw_cell_below hb (by first | assumption | (go_keep; done))))
    (first | (go_at_call 132; refine (admit_live_at.calls _ _ l s j _ (Kd.C_below HR.out (by assumption)) HC.out HJ.out).mono ?_; rintro e w' ⟨rfl, hb⟩) | (go_at_fn g; refine (HP.out _ (by first | assumption | (go_split_ands; assumption))).mono ?_; rintro e w' ⟨rfl, hb⟩))
  rename_i hHeld
  have HBf := Aside0.mk hHeld.2.2.2.2.2.2.2.2.2.2.2.2.2.2
  clear hHeld
  go_wp2
  go_ret
  exact ⟨rfl, HBf.out⟩
/-- is each of the way up so? (each must be there) -/
def admAllF (p : S31 → Bool) (l : List S31) (us : List ByteArray) : Option Bool :=
  if us.all (fun s => decide (0 ≤ (tree_Find.f l s).getD 0) && decide ((tree_Find.f l s).getD 0 < (l.length : Int))) = true then some (us.all fun s => p (rd_T31 l ((tree_Find.f l s).getD 0))) else none
set_option maxHeartbeats 2000000 in
set_option maxRecDepth 100000 in
theorem admitAll_calls (g : Nat) (lbi : Array Value) (p : S31 → Bool) (A Au : Option Addr) (c cu : Nat) (l : List S31) (us : List ByteArray) (q : Bool) (w : World)
    (eg : ∀ args w, (callFunc g args).run Try.prog w = .ok (.enter g args) w) (hr : Kd.C k31 w A l.length l) (hc : l.length ≤ c) (hu : Kd.C Kd.string w Au us.length us) (hcu : us.length ≤ cu)
    (hp : ∀ W' x, Below w.heap.size w W' → Calls Try.prog g (#[.agg (itemCells x)] ++ lbi) W' fun e w' => e = .returned (.bool (p x)) ∧ Below W'.heap.size W' w') (h : admAllF p l us = some q) :
    Calls Try.prog 116 #[.agg #[.slice A l.length c, .slice Au us.length cu], .func (.func g) #[] lbi] w fun e w' => e = .returned (.bool q) ∧ Below w.heap.size w w' := by
  have hu149 := Try.underlying149
  have hall : us.all (fun s => decide (0 ≤ (tree_Find.f l s).getD 0) && decide ((tree_Find.f l s).getD 0 < (l.length : Int))) = true ∧ us.all (fun s => p (rd_T31 l ((tree_Find.f l s).getD 0))) = q := by
    unfold admAllF at h
    split at h
    · exact ⟨by assumption, Option.some.inj h⟩
    · cases h
  obtain ⟨hall, rfl⟩ := hall
  obtain ⟨W1, hW1⟩ : ∃ W1, W1 = (w.alloc (.cells #[.slice A l.length c, .slice Au us.length cu] 149)).alloc (.cells #[.func (.func g) #[] lbi] 153) := ⟨_, rfl⟩
  have hn0 : W1.heap[w.heap.size]? = some (.cells #[.slice A l.length c, .slice Au us.length cu] 149 (0, 0)) := by rw [hW1]; exact blk_alloc (blk_new _ _) _
  have hn1 : W1.heap[w.heap.size + 1]? = some (.cells #[.func (.func g) #[] lbi] 153 (0, 0)) := by
    rw [hW1]
    have := blk_new (w.alloc (.cells #[.slice A l.length c, .slice Au us.length cu] 149)) (.cells #[.func (.func g) #[] lbi] 153)
    simpa using this
  have hB : Below w.heap.size w W1 := by rw [hW1]; exact below_alloc (below_alloc (Below.refl _ _) _) _
  have HC := Aside0.mk (containsStr_calls 161 #[.pointer (some ⟨w.heap.size + 1, 0, none⟩), .pointer (some ⟨w.heap.size, 0, none⟩)] (fun s => !p (rd_T31 l ((tree_Find.f l s).getD 0))) (enters_of Try.func161 (by kernel_rfl) rfl) W1 Au cu us
    (fun W x hx hb => by
      have hj := List.all_eq_true.1 hall x hx
      rw [Bool.and_eq_true, decide_eq_true_iff, decide_eq_true_iff] at hj
      exact admitAll1_calls W (w.heap.size + 1) w.heap.size g lbi p (.slice Au us.length cu) A c l x ((tree_Find.f l x).getD 0) eg (blk_below hn1 hb) (blk_below hn0 hb) (Kd.C_below (Kd.C_below hr hB) hb) hc rfl hj.1 hj.2 (fun W' y hb' => hp W' y (below_step (below_step hB hb) hb')))
    (Kd.C_below hu hB) hcu)
  have hneg : (!us.any fun s => !p (rd_T31 l ((tree_Find.f l s).getD 0))) = us.all (fun s => p (rd_T31 l ((tree_Find.f l s).getD 0))) := by rw [List.not_any_eq_all_not]; simp
  rw [← hneg]
  generalize (us.any fun s => !p (rd_T31 l ((tree_Find.f l s).getD 0))) = q at HC
  have HW := Aside0.mk hW1
  have HB := Aside0.mk hB
  have u0 : W1.cell? ⟨w.heap.size, 1, none⟩ = some (.slice Au us.length cu) := (blk_cell hn0 1).trans rfl
  have HU := Aside0.mk u0
  clear h hneg hall hn0 hn1 hB hW1 hp eg hr hu u0
  have hx : ((w.alloc (.cells #[.slice A l.length c, .slice Au us.length cu] 149)).alloc (.cells #[.func (.func g) #[] lbi] 153)).cell? ⟨w.heap.size, 1, none⟩ = some (.slice Au us.length cu) := by rw [← HW.out]; exact HU.out
  go_enter Try.func116, Try.ntmps116
  go_wp2_with (go_at_call 129;rw [← HW.out];refine HC.out.mono ?_;rintro e w' ⟨rfl, hb'⟩;have HB' := Aside0.mk (below_step HB.out hb');clear hb')
  go_ret
  exact ⟨rfl, HB'.out⟩
end Go.Proofs.Ytcgefpklljclgaa.Print

namespace Go.Proofs.Ytcgefpklljclgaa.Print
open Go.RowKit Go.Proofs.YtcgefpklljclgaaW.PrintWords Go.Proofs.YtcgefpklljclgaaW.PrintLast Go.Proofs.YtcgefpklljclgaaW.PrintMore
attribute [local go_sem] max2_int min2_int max_two min_two max_three min_three max_four min_four   -- for this text's walks alone
set_option linter.unusedVariables false
set_option linter.unusedSimpArgs false
/-! ### slices_Clone_Item: function 153 -/
/-- what slices.Clone makes: the same elements -/
def slices_Clone_Item.f (l0 : List (S31)) : Option (List (S31)) := if l0.length < 1256584717458 then some l0 else none
set_option maxHeartbeats 8000000 in
set_option maxRecDepth 100000 in
theorem slices_Clone_Item.calls (A0 : Option Addr) (c0 : Nat) (l0 : List (S31)) (r : List (S31)) (w : World) (hr0 : Kd.C k31 w A0 l0.length l0) (hc0 : l0.length ≤ c0) (h : slices_Clone_Item.f l0 = some r) :
    Calls Try.prog 153 #[.slice A0 l0.length c0] w fun e w' => ∃ v0_ : Value, e = .returned (v0_) ∧ Kd.R k31 31 w' w.heap.size (fun _ => True) v0_ r ∧ Below w.heap.size w w' := by
  have hlim : l0.length < 1256584717458 ∧ l0 = r := by
    unfold slices_Clone_Item.f at h
    split at h
    · exact ⟨by assumption, Option.some.inj h⟩
    · cases h
  obtain ⟨hlim, rfl⟩ := hlim
  have hnil := fun (W : World) (n c : Nat) => Lib.run_eql_slice_nil (P := Try.prog) W 24 31 A0 n c 0 0 Try.underlying24
  cases A0 with
  | none =>
    have hl : l0 = [] := by
      cases l0 with
      | nil => rfl
      | cons x l => exact absurd (hr0.2.2 (by simp)) (by simp)
    subst hl
    clear hr0
    go_enter Try.func153, Try.ntmps153
    go_wp2
    go_ret
    exact ⟨_, rfl, Kd.R_nil _ _ _ _ _, Below.refl _ _⟩
  | some ad =>
    have HR0 := Aside0.mk hr0
    have HC0 := Aside0.mk hc0
    have LM := Aside0.mk hlim
    clear hr0 hc0 hlim h
    have HB := Aside0.mk (Below.refl w.heap.size w)
    go_enter Try.func153, Try.ntmps153
    go_wp2_with (first|((with_reducible refine gate_dst (N := 5) rfl ?_);refine Kd.R_lit k31 _ 31 ?hg (N := 5) ?hd (xs := ([] : List (S31))) (inner := []) (ok := fun _ => True) (okp := fun _ => True) ?hr ?hp (fun _ hk => hk) trivial (Below.refl _ _) (Nat.le_refl _) (by simp) ?_;(case hd => rfl);(case hg => rfl);(case hr => first|(go_simp;done)|(go_simp;rfl));(case hp => exact (Reps.none _ _));intro v2 w3 ho4 hb hg_ hnew_;clear hg_ hnew_;have n0_ := Aside0.mk (Kd.R_lower ho4 (below_size HB.out));have n1_ := Aside0.mk (below_step HB.out hb);clear HB;have HO3 := n0_;have HB := n1_;clear n0_ n1_;clear hb ho4)|((with_reducible refine gate_builtin (b := .append) (xs := #[.tmp 5, .tmp 6]) rfl ?_);at_builtin;refine Kd.R_append_rows k31 (w0 := w) w.heap.size rfl (.tmp 5) (.tmp 6) 24 31 (.agg #[(.string ⟨#[]⟩), (.string ⟨#[]⟩), (.int .i64 0), (.int .i64 0), (.int .i64 0), (.int .i64 0), (.int .i64 0), (.int .i64 0), (.int .i64 0), (.int .i64 0), (.int .i64 0), (.int .i64 0)]) 112 rfl Try.underlying24 info31 rfl (by decide) (by omega) v2 [] l0 _ _ _ (fun _ => True) (fun _ => False) rfl rfl ?aO ?aR (fun _ _ h => h) (fun _ h => h.elim) ?aF ?aB ?aS ?aL ?_;(case aR => exact (Kd.C_below HR0.out HB.out));(case aB => exact HB.out);(case aF => exact (fun _ _ => trivial));(case aO => exact HO3.out);(case aS => exact (below_size HB.out));(case aL => have := LM.out;simp;omega);intro v5 w5 ho hb hg hat;have n0_ := Aside0.mk (hb);have n1_ := Aside0.mk (ho);clear HB;clear HO3;have HB := n0_;have HO6 := n1_;clear n0_ n1_;clear ho hb hg hat))
    go_ret
    exact ⟨_, rfl, HO6.out, HB.out⟩
end Go.Proofs.Ytcgefpklljclgaa.Print

namespace Go.Proofs.Ytcgefpklljclgaa.Print
open Go.RowKit Go.Proofs.YtcgefpklljclgaaW.PrintWords Go.Proofs.YtcgefpklljclgaaW.PrintLast Go.Proofs.YtcgefpklljclgaaW.PrintMore
attribute [local go_sem] max2_int min2_int max_two min_two max_three min_three max_four min_four   -- for this text's walks alone
set_option linter.unusedVariables false
set_option linter.unusedSimpArgs false
/-! ### admit_changed: function 120 -/
/-- an item's use, all in all, or its own, is turned -/
def subF (op : S27 → S27) (x : S31) : S31 := ⟨x.f0, x.f1, x.f2, x.f3, op x.f4, x.f5⟩
def ownF (op : S27 → S27) (x : S31) : S31 := ⟨x.f0, x.f1, x.f2, op x.f3, x.f4, x.f5⟩
def setAt (f : S31 → S31) (out : List S31) (j : Int) : List S31 := out.set j.toNat (f (rd_T31 out j))
def subs (op : S27 → S27) (l : List S31) (us : List ByteArray) (out : List S31) : List S31 := us.foldl (fun out s => setAt (subF op) out ((tree_Find.f l s).getD 0)) out
def found (l : List S31) (us : List ByteArray) : Bool := us.all (fun s => decide (0 ≤ (tree_Find.f l s).getD 0) && decide ((tree_Find.f l s).getD 0 < (l.length : Int)))
def changedF (op : S27 → S27) (l : List S31) (us : List ByteArray) : Option (List S31) :=
  if found l us = true ∧ 0 < us.length then (slices_Clone_Item.f l).bind fun out => some (setAt (ownF op) (subs op l us out) ((tree_Find.f l (rdOf ByteArray.empty us 0)).getD 0)) else none
theorem setAt_len (f : S31 → S31) (out : List S31) (j : Int) : (setAt f out j).length = out.length := by unfold setAt; simp
theorem subs_take (op : S27 → S27) (l : List S31) (us : List ByteArray) (out : List S31) (i : Nat) (h : i < us.length) : subs op l (us.take (i + 1)) out = setAt (subF op) (subs op l (us.take i) out) ((tree_Find.f l (rdOf ByteArray.empty us i)).getD 0) := by
  unfold subs
  rw [List.take_succ_eq_append_getElem h, List.foldl_append, show rdOf ByteArray.empty us (i : Int) = us[i] from by simp [rdOf, h]]
  rfl
theorem subs_len (op : S27 → S27) (l : List S31) : ∀ (us : List ByteArray) (out : List S31), (subs op l us out).length = out.length
  | [], _ => rfl
  | s :: us, out => by
    show (subs op l us (setAt _ out _)).length = _
    rw [subs_len op l us, setAt_len]
/-- a row that isn't empty: where it lies -/
theorem row_head {α : Type} {d : Kd α} {e base : Nat} {ok : Nat → Prop} {w : World} {v : Value} {xs : List α} (h : d.R e w base ok v xs) (hn : 0 < xs.length) : ∃ (g c : Nat), v = .slice (some ⟨g, 0, none⟩) xs.length c ∧ base ≤ g ∧ g < w.heap.size := by
  obtain ⟨_, inner, ⟨_, h | ⟨g, cap, cur, rfl, hg, hh, _⟩⟩, _⟩ := h
  · omega
  · exact ⟨g, cap, rfl, hg, blk_lt hh⟩
set_option maxHeartbeats 4000000 in
set_option maxRecDepth 100000 in
theorem admitChanged_calls (g : Nat) (lb : Array Value) (op : S27 → S27) (A Au : Option Addr) (c cu : Nat) (l : List S31) (us : List ByteArray) (r : List S31) (w : World)
    (eg : ∀ args w, (callFunc g args).run Try.prog w = .ok (.enter g args) w) (hr : Kd.C k31 w A l.length l) (hc : l.length ≤ c) (hu : Kd.C Kd.string w Au us.length us) (hcu : us.length ≤ cu)
    (hp : ∀ W' u, Below w.heap.size w W' → Calls Try.prog g (#[.agg #[.int .i64 u.f0, .int .i64 u.f1, .int .i64 u.f2]] ++ lb) W' fun e w' => e = .returned (.agg #[.int .i64 (op u).f0, .int .i64 (op u).f1, .int .i64 (op u).f2]) ∧ Below W'.heap.size W' w')
    (h : changedF op l us = some r) :
    Calls Try.prog 120 #[.agg #[.slice A l.length c, .slice Au us.length cu], .func (.func g) #[] lb] w fun e w' => ∃ v0_ : Value, e = .returned v0_ ∧ Kd.R k31 31 w' w.heap.size (fun _ => True) v0_ r ∧ Below w.heap.size w w' := by
  have hu149 := Try.underlying149
  have hu147 := Try.underlying147
  have hu31 := Try.underlying31
  have hu27 := Try.underlying27
  have hx : (found l us = true ∧ 0 < us.length) ∧ ∃ out, slices_Clone_Item.f l = some out ∧ setAt (ownF op) (subs op l us out) ((tree_Find.f l (rdOf ByteArray.empty us 0)).getD 0) = r := by
    unfold changedF at h
    split at h
    · obtain ⟨out, h1, h2⟩ := Option.bind_eq_some_iff.1 h
      exact ⟨by assumption, out, h1, Option.some.inj h2⟩
    · cases h
  obtain ⟨⟨hf, hpos⟩, out, hcl, rfl⟩ := hx
  have hfind : ∀ i : Nat, i < us.length → ∃ j : Int, tree_Find.f l (rdOf ByteArray.empty us i) = some j ∧ 0 ≤ j ∧ j < (l.length : Int) := fun i hi => by
    have := List.all_eq_true.1 hf (rdOf ByteArray.empty us i) (by simp [rdOf, hi])
    rw [Bool.and_eq_true, decide_eq_true_iff, decide_eq_true_iff] at this
    exact ⟨_, rfl, this.1, this.2⟩
  have hol : out.length = l.length := by
    unfold slices_Clone_Item.f at hcl
    split at hcl
    · rw [Option.some.inj hcl]
    · cases hcl
  have hlen := fun us' => (subs_len op l us' out).trans hol
  have hm : us.length ≤ 9223372036854775807 := hu.2.1
  have HR := Aside0.mk hr
  have HC := Aside0.mk hc
  have HU := Aside0.mk hu
  have HP := Aside0.mk hp
  have HEG := Aside0.mk eg
  have HF := Aside0.mk hfind
  have HCL := Aside0.mk hcl
  have HL := Aside0.mk hlen
  have HT := Aside0.mk (subs_take op l us out)
  have HB := Aside0.mk (Below.refl w.heap.size w)
  clear h hr hc hu hp eg hfind hcl hlen hf hol
  go_enter Try.func120, Try.ntmps120
  go_wp2_with fail
  obtain ⟨w1, hw1⟩ : ∃ w1, w1 = w.alloc (.cells #[.slice A l.length c, .slice Au us.length cu] 149) := ⟨_, rfl⟩
  have hs1 : w1.heap.size = w.heap.size + 1 := by rw [hw1]; simp
  have hb1 : w1.heap[w.heap.size]? = some (.cells #[.slice A l.length c, .slice Au us.length cu] 149 (0, 0)) := by rw [hw1]; exact blk_new _ _
  have hB1 : Below w.heap.size w w1 := by rw [hw1]; exact below_alloc (Below.refl _ _) _
  rw [← hw1]
  have HS1 := Aside0.mk hs1
  clear hw1 hs1
  refine (slices_Clone_Item.calls _ _ l out _ (Kd.C_below HR.out hB1) HC.out HCL.out).mono ?_
  rintro e w2 ⟨v5, rfl, ho, hb⟩
  rw [HS1.out] at ho
  have HO := Aside0.mk ho
  have HK := Aside0.mk (blk_below hb1 hb)
  have HB2 := Aside0.mk (below_step hB1 hb)
  have hz2 : w.heap.size + 1 ≤ w2.heap.size := by rw [← HS1.out]; exact hb.size
  clear ho hb hb1 hB1
  have c0 := (blk_cell HK.out 0).trans rfl
  have c1 := (blk_cell HK.out 1).trans rfl
  go_wp2
  go_loopg [7, 8, 17] us.length (fun kq s7 s8 s17 wr => ∃ i : Nat, i ≤ us.length ∧ us.length - i ≤ kq ∧ s17 = .int .i64 i ∧ Aside0 (Below w.heap.size w wr) ∧ Aside0 (wr.heap[w.heap.size]? = some (.cells #[.slice A l.length c, .slice Au us.length cu] 149 (0, 0))) ∧ Aside0 (Kd.R k31 31 wr (w.heap.size + 1) (fun _ => True) v5 (subs op l (us.take i) out)))
  case atStart => exact ⟨0, by omega, by omega, rfl, HB2, HK, HO⟩
  case round =>
    clear HO HK HB2 c0 c1
    obtain ⟨i, hi, hg, rfl, HB3, HK, HO⟩ := hrel
    have c0 := (blk_cell HK.out 0).trans rfl
    have c1 := (blk_cell HK.out 1).trans rfl
    by_cases hlt : i < us.length
    · have hltz : (i : Int) < (us.length : Int) := by omega
      obtain ⟨j, hj, hj0, hj1⟩ := HF.out i hlt
      obtain ⟨ad, e1, h0⟩ := at_str HU.out (i : Int) (by omega) (by omega)
      cases e1
      simp only [Int.toNat_natCast] at h0
      replace h0 := (HB3.out.cell (World.block_lt_of_cell? w _ h0)).trans h0
      have HJ := Aside0.mk hj
      have hl1 : (subs op l (us.take i) out).length = l.length := HL.out _
      obtain ⟨gb, cap, hv5, hgb, hgl⟩ := row_head HO.out (by omega)
      rw [hl1] at hv5
      subst hv5
      obtain ⟨ad2, cc, e3, hcl, hK, hcc0⟩ := Kd.C_get (Kd.R_reads' HO.out).2.2 z31 j hj0 (by rw [hl1]; exact hj1)
      cases e3
      have hcc : ∀ j' u, cc[j']? = some u → wr.cell? (Addr.add ⟨gb, 0, none⟩ (j.toNat * 12 + j')) = some u := hcc0
      obtain rfl := k31_open hK
      have HT1 := Aside0.mk (HT.out i hlt)
      rw [HJ.out] at HT1
      have hy0 : (subs op l (us.take i) out).getD j.toNat z31 = rd_T31 (subs op l (us.take i) out) j := rfl
      rw [hy0] at hcc
      generalize hy : rd_T31 (subs op l (us.take i) out) j = y at hcc
      have HY := Aside0.mk hy
      have HS := Aside0.mk hl1
      have HCJ := Aside0.mk (show ∀ j' u, (itemCells y).toList[j']? = some u → wr.cell? ⟨gb, j.toNat * 12 + j', none⟩ = some u from fun j' u hu => by
        have := hcc j' u hu
        rwa [Addr.add_lit, Nat.zero_add] at this)
      clear hj hy hl1 hcc0 hcc hK hcl hy0
      have HJ0 := Aside0.mk hj0
      have HJ1 := Aside0.mk hj1
      have q0 := eq_true hj0
      have q1 := eq_true hj1
      go_wp2_with fail
      refine (admit_live_at.calls _ _ l _ j _ (Kd.C_below HR.out HB3.out) HC.out HJ.out).mono ?_
      rintro e w3 ⟨rfl, hb⟩
      have HB4 := Aside0.mk (below_step HB3.out hb)
      have HO4 := Aside0.mk (Kd.R_below HO.out hb)
      have HK4 := Aside0.mk (blk_below HK.out hb)
      have k8 : w3.cell? ⟨gb, j.toNat * 12 + 8, none⟩ = some (.int .i64 y.f4.f0) := (hb.cell (p := ⟨gb, j.toNat * 12 + 8, none⟩) hgl).trans (HCJ.out 8 _ rfl)
      have k9 : w3.cell? ⟨gb, j.toNat * 12 + 8 + 1, none⟩ = some (.int .i64 y.f4.f1) := (hb.cell (p := ⟨gb, j.toNat * 12 + 8 + 1, none⟩) hgl).trans (HCJ.out 9 _ rfl)
      have k10 : w3.cell? ⟨gb, j.toNat * 12 + 8 + 2, none⟩ = some (.int .i64 y.f4.f2) := (hb.cell (p := ⟨gb, j.toNat * 12 + 8 + 2, none⟩) hgl).trans (HCJ.out 10 _ rfl)
      have hl3 : gb < w3.heap.size := Nat.lt_of_lt_of_le hgl hb.size
      have HCJ4 := Aside0.mk (fun j' u hu => (hb.cell (p := ⟨gb, j.toNat * 12 + j', none⟩) hgl).trans (HCJ.out j' u hu))
      clear hb c0 c1 HB3 HO HK HCJ
      have c0 := (blk_cell HK4.out 0).trans rfl
      have c1 := (blk_cell HK4.out 1).trans rfl
      have eg := HEG.out
      go_wp2_with fail
      refine (HP.out w3 y.f4 HB4.out).mono ?_
      rintro e w4 ⟨rfl, hb⟩
      have HB5 := Aside0.mk (below_step HB4.out hb)
      have HO5 := Aside0.mk (Kd.R_below HO4.out hb)
      have HK5 := Aside0.mk (blk_below HK4.out hb)
      have HCJ5 := Aside0.mk (fun j' u hu => (hb.cell (p := ⟨gb, j.toNat * 12 + j', none⟩) hl3).trans (HCJ4.out j' u hu))
      clear hb HB4 HO4 HK4 HCJ4 c0 c1 k8 k9 k10
      go_wp2_with ((with_reducible refine gate_store (t := 27) (p := 35) (v := .tmp 33) rfl ?_);go_must (refine Kd.R_store k31 (w0 := w4) (w.heap.size + 1) rfl rfl 27 (.tmp 35) (.tmp 33) rfl 31 (g := gb) (n := l.length) (cap := cap) (o' := j.toNat * 12 + 8) j 8 (subs op l (us.take i) out) (subF op y) (.agg #[.int .i64 (op y.f4).f0, .int .i64 (op y.f4).f1, .int .i64 (op y.f4).f2]) [.int .i64 (op y.f4).f0, .int .i64 (op y.f4).f1, .int .i64 (op y.f4).f2] (itemCells y).toList (fun _ => True) (fun _ => False) rfl rfl rfl rfl ?ct ?c1 HO5.out ?c2 ?c3 rfl HCJ5.out (by show 8 + 3 ≤ 12;omega) ?cM (fun _ h => h.elim) (Below.refl _ _) ?_);(case ct => kernel_rfl);(case c1 => intro q hq;simp only [List.mem_cons, List.not_mem_nil, or_false] at hq;rcases hq with rfl|rfl|rfl <;> rfl);(case c2 => exact HJ0.out);(case c3 => exact HJ1.out);(case cM => exact k31_mkM _ _ _ (subF op y));intro w5 ho hb hg;have HB6 := Aside0.mk (pw_below_grown HB5.out (some gb) HB5.out.size hg (fun k e => by cases e;omega));have HK6 := Aside0.mk (blk_grown HK5.out hg (by intro e;cases e;omega));have HO6 := Aside0.mk ho;have HZ6 := Aside0.mk hg.size;clear ho hb hg)
      go_roundg (us.length - (i + 1))
      case measure => omega
      case rel =>
        refine ⟨i + 1, by omega, by omega, by go_num, HB6, HK6, ⟨?_⟩⟩
        rw [HT1.out]
        show Kd.R _ _ _ _ _ _ ((subs op l (us.take i) out).set j.toNat (subF op (rd_T31 (subs op l (us.take i) out) j)))
        rw [HY.out]
        exact HO6.out
    · obtain rfl : i = us.length := by omega
      rw [List.take_length] at HO
      obtain ⟨j, hj, hj0, hj1⟩ := HF.out 0 hpos
      obtain ⟨ad, e1, h0⟩ := at_str HU.out 0 (by omega) (by omega)
      cases e1
      rw [Int.toNat_zero, show ad.add 0 = ad from by simp [Addr.add]] at h0
      replace h0 := (HB3.out.cell (World.block_lt_of_cell? w _ h0)).trans h0
      have HJ := Aside0.mk hj
      have hl1 : (subs op l us out).length = l.length := HL.out _
      obtain ⟨gb, cap, hv5, hgb, hgl⟩ := row_head HO.out (by omega)
      rw [hl1] at hv5
      subst hv5
      have HJ0 := Aside0.mk hj0
      have HJ1 := Aside0.mk hj1
      have HL1 := Aside0.mk hl1
      have q0 := eq_true hj0
      have q1 := eq_true hj1
      have q2 := eq_true hpos
      clear hj hj0 hj1 hl1 hpos
      have hB0 : Below wr.heap.size wr wr := Below.refl _ _
      have hBd : Below wr.heap.size wr wr.drew := below_drew hB0
      go_wp2_with fail
      go_region_held3 (fun w' => w'.cell? ⟨w.heap.size, 0, none⟩ = some (.slice A l.length c) ∧ w'.cell? ⟨w.heap.size, 1, none⟩ = some (.slice (some ad) us.length cu) ∧ w'.cell? ad = some (.string (rdOf ByteArray.empty us 0)) ∧ Below wr.heap.size wr w')
        (first | (go_keep; done) | (go_split_ands; refine ⟨?_, ?_, ?_, ?_⟩ <;> first | exact below_step (by assumption) hb | exact pw_cell_below hb (by first | assumption | (go_keep; done))))
        (first | (go_at_call 132; refine (admit_live_at.calls _ _ l _ j _ (Kd.C_below HR.out (by first | exact HB3.out | exact below_drew HB3.out)) HC.out HJ.out).mono ?_; rintro e w' ⟨rfl, hb⟩))
      rename_i hHeld
      have hBz : Below wr.heap.size wr w' := hHeld.2.2.2
      have HO4 := Aside0.mk (Kd.R_below HO.out hBz)
      have HK4 := Aside0.mk (blk_below HK.out hBz)
      have HB4 := Aside0.mk (below_step HB3.out hBz)
      have hl3 : gb < w'.heap.size := Nat.lt_of_lt_of_le hgl hBz.size
      clear hHeld hb hBz HO HK HB3 c0 c1 h0
      obtain ⟨ad2, cc, e3, hcl, hK, hcc0⟩ := Kd.C_get (Kd.R_reads' HO4.out).2.2 z31 j HJ0.out (by rw [HL1.out]; exact HJ1.out)
      cases e3
      have hcc : ∀ j' u, cc[j']? = some u → w'.cell? (Addr.add ⟨gb, 0, none⟩ (j.toNat * 12 + j')) = some u := hcc0
      obtain rfl := k31_open hK
      have hy0 : (subs op l us out).getD j.toNat z31 = rd_T31 (subs op l us out) j := rfl
      rw [hy0] at hcc
      generalize hy : rd_T31 (subs op l us out) j = y at hcc
      have HY := Aside0.mk hy
      have HCJ4 := Aside0.mk (show ∀ j' u, (itemCells y).toList[j']? = some u → w'.cell? ⟨gb, j.toNat * 12 + j', none⟩ = some u from fun j' u hu => by
        have := hcc j' u hu
        rwa [Addr.add_lit, Nat.zero_add] at this)
      clear hy hcc0 hcc hK hcl hy0
      have k5 : w'.cell? ⟨gb, j.toNat * 12 + 5, none⟩ = some (.int .i64 y.f3.f0) := HCJ4.out 5 _ rfl
      have k6 : w'.cell? ⟨gb, j.toNat * 12 + 5 + 1, none⟩ = some (.int .i64 y.f3.f1) := HCJ4.out 6 _ rfl
      have k7 : w'.cell? ⟨gb, j.toNat * 12 + 5 + 2, none⟩ = some (.int .i64 y.f3.f2) := HCJ4.out 7 _ rfl
      have eg := HEG.out
      go_wp2_with fail
      refine (HP.out w' y.f3 HB4.out).mono ?_
      rintro e w4 ⟨rfl, hb⟩
      have HB5 := Aside0.mk (below_step HB4.out hb)
      have HO5 := Aside0.mk (Kd.R_below HO4.out hb)
      have HK5 := Aside0.mk (blk_below HK4.out hb)
      have HCJ5 := Aside0.mk (fun j' u hu => (hb.cell (p := ⟨gb, j.toNat * 12 + j', none⟩) hl3).trans (HCJ4.out j' u hu))
      clear hb HB4 HO4 HK4 HCJ4 k5 k6 k7
      go_wp2_with ((with_reducible refine gate_store (t := 27) (p := 54) (v := .tmp 52) rfl ?_);go_must (refine Kd.R_store k31 (w0 := w4) (w.heap.size + 1) rfl rfl 27 (.tmp 54) (.tmp 52) rfl 31 (g := gb) (n := l.length) (cap := cap) (o' := j.toNat * 12 + 5) j 5 (subs op l us out) (ownF op y) (.agg #[.int .i64 (op y.f3).f0, .int .i64 (op y.f3).f1, .int .i64 (op y.f3).f2]) [.int .i64 (op y.f3).f0, .int .i64 (op y.f3).f1, .int .i64 (op y.f3).f2] (itemCells y).toList (fun _ => True) (fun _ => False) rfl rfl rfl rfl ?ct ?c1 HO5.out ?c2 ?c3 rfl HCJ5.out (by show 5 + 3 ≤ 12;omega) ?cM (fun _ h => h.elim) (Below.refl _ _) ?_);(case ct => kernel_rfl);(case c1 => intro q hq;simp only [List.mem_cons, List.not_mem_nil, or_false] at hq;rcases hq with rfl|rfl|rfl <;> rfl);(case c2 => exact HJ0.out);(case c3 => exact HJ1.out);(case cM => exact k31_mkM _ _ _ (ownF op y));intro w5 ho hb hg;have HB6 := Aside0.mk (pw_below_grown HB5.out (some gb) HB5.out.size hg (fun k e => by cases e;omega));have HK6 := Aside0.mk (blk_grown HK5.out hg (by intro e;cases e;omega));have HO6 := Aside0.mk ho;have HZ6 := Aside0.mk hg.size;clear ho hb hg)
      go_ret
      refine ⟨_, rfl, ?_, HB6.out⟩
      rw [show rdOf ByteArray.empty us 0 = rdOf ByteArray.empty us ((0 : Nat) : Int) from rfl, HJ.out]
      show Kd.R _ _ _ _ _ _ ((subs op l us out).set j.toNat (ownF op (rd_T31 (subs op l us out) j)))
      rw [HY.out]
      exact Kd.R_lower HO6.out (Nat.le_succ _)
end Go.Proofs.Ytcgefpklljclgaa.Print

namespace Go.Proofs.Ytcgefpklljclgaa.Print
open Go.RowKit Go.Proofs.YtcgefpklljclgaaW.PrintWords Go.Proofs.YtcgefpklljclgaaW.PrintLast Go.Proofs.YtcgefpklljclgaaW.PrintMore
attribute [local go_sem] max2_int min2_int max_two min_two max_three min_three max_four min_four   -- for this text's walks alone
set_option linter.unusedVariables false
set_option linter.unusedSimpArgs false
/-! ### admit_Admit: function 60 -/
/-- one amount added to another, as the program adds -/
def opAdd (v u : S27) : S27 := ⟨((vec_Add.f [u, v]).getD (0, 0, 0)).1, ((vec_Add.f [u, v]).getD (0, 0, 0)).2.1, ((vec_Add.f [u, v]).getD (0, 0, 0)).2.2⟩
def leV (a b : S27) : Bool := (vec_Le.f a.f0 a.f1 a.f2 b.f0 b.f1 b.f2).getD false
theorem leV_eq (a b : S27) : vec_Le.f a.f0 a.f1 a.f2 b.f0 b.f1 b.f2 = some (leV a b) := by
  unfold leV vec_Le.f
  split <;> (try split) <;> rfl
set_option maxHeartbeats 1000000 in
set_option maxRecDepth 100000 in
theorem admit2_calls (W : World) (b : Nat) (v u : S27) (hb : W.heap[b]? = some (.cells #[.int .i64 v.f0, .int .i64 v.f1, .int .i64 v.f2] 27 (0, 0))) :
    Calls Try.prog 121 #[.agg #[.int .i64 u.f0, .int .i64 u.f1, .int .i64 u.f2], .pointer (some ⟨b, 0, none⟩)] W fun e w' => e = .returned (.agg #[.int .i64 (opAdd v u).f0, .int .i64 (opAdd v u).f1, .int .i64 (opAdd v u).f2]) ∧ Below W.heap.size W w' := by
  have hu27 := Try.underlying27
  obtain ⟨⟨q1, q2, q3⟩, hq⟩ : ∃ q : Int × Int × Int, vec_Add.f [u, v] = some q := ⟨_, rfl⟩
  rw [show opAdd v u = ⟨q1, q2, q3⟩ from by unfold opAdd; rw [hq]; rfl]
  have HQ := Aside0.mk hq
  clear hq
  have h0 := (blk_cell hb 0).trans rfl
  have h01 := (blk_cell hb 1).trans rfl
  have h02 := (blk_cell hb 2).trans rfl
  have hl : b < W.heap.size := blk_lt hb
  clear hb
  go_enter Try.func121, Try.ntmps121
  go_wp2_with fail
  obtain ⟨w3, hw3⟩ : ∃ w3, w3 = (W.alloc (.cells #[.int .i64 u.f0, .int .i64 u.f1, .int .i64 u.f2] 27)).alloc (.cells #[.int .i64 0, .int .i64 0, .int .i64 0] 27) := ⟨_, rfl⟩
  have hs3 : w3.heap.size = W.heap.size + 1 + 1 := by rw [hw3]; simp
  have hz3 : w3.heap[W.heap.size + 1]? = some (.cells #[.int .i64 0, .int .i64 0, .int .i64 0] 27 (0, 0)) := by rw [hw3]; have := blk_new (W.alloc (.cells #[.int .i64 u.f0, .int .i64 u.f1, .int .i64 u.f2] 27)) (.cells #[.int .i64 0, .int .i64 0, .int .i64 0] 27); simpa using this
  have hb3 : Below W.heap.size W w3 := by rw [hw3]; exact below_alloc (below_alloc (Below.refl _ _) _) _
  rw [← hw3, ← hs3]
  clear hw3
  have hn := blk_new w3 (.cells #[.int .i64 u.f0, .int .i64 u.f1, .int .i64 u.f2, .int .i64 v.f0, .int .i64 v.f1, .int .i64 v.f2] 27)
  refine (vec_Add.calls (some ⟨_, 0, none⟩) 2 [u, v] q1 q2 q3 _ (vec_two_row u v hn) (Nat.le_refl _) HQ.out).mono ?_
  rintro e w1 ⟨rfl, hb⟩
  have HB := Aside0.mk (below_step (below_step hb3 (below_alloc (Below.refl _ _) _)) hb)
  have HZ := Aside0.mk (blk_below (blk_alloc hz3 (.cells #[.int .i64 u.f0, .int .i64 u.f1, .int .i64 u.f2, .int .i64 v.f0, .int .i64 v.f1, .int .i64 v.f2] 27)) hb)
  have HS3 := Aside0.mk hs3
  clear hb hn hb3 hz3 hs3 h0 h01 h02
  have g0 := (blk_cell HZ.out 0).trans rfl
  have g1 := (blk_cell HZ.out 1).trans rfl
  have g2 := (blk_cell HZ.out 2).trans rfl
  have z0 := blk_frozen HZ.out 0
  have z1 := blk_frozen HZ.out 1
  have z2 := blk_frozen HZ.out 2
  have hs1 : W.heap.size + 1 < w1.heap.size := blk_lt HZ.out
  go_wp2
  refine bodyPost_ret (results_cell_row rfl _ _ (W.heap.size + 1) 27 #[.int .i64 q1, .int .i64 q2, .int .i64 q3] (0, 0) _ rfl (blk_put (blk_put (blk_put HZ.out 0 _ rfl) 1 _ rfl) 2 _ rfl) Try.underlying27 rfl (by kernel_rfl)) rfl ?_
  have hle : W.heap.size ≤ W.heap.size + 1 := by omega
  exact ⟨rfl, below_set (below_set (below_set HB.out hle) hle) hle⟩
set_option maxHeartbeats 1000000 in
set_option maxRecDepth 100000 in
theorem admitMade_calls (k : Nat) (A0 : Option Addr) (c0 : Nat) (l0 : List (S31)) (a1 : ByteArray) (us : List ByteArray) (w : World) (hr0 : Kd.C k31 w A0 l0.length l0) (hc0 : l0.length ≤ c0) (h : tree_Up.f k l0 a1 = some us) :
    Calls Try.prog 114 #[.slice A0 l0.length c0, .string a1] w fun e w' => ∃ (Au : Option Addr) (cu : Nat), e = .returned (.agg #[.slice A0 l0.length c0, .slice Au us.length cu]) ∧ Kd.C Kd.string w' Au us.length us ∧ us.length ≤ cu ∧ Below w.heap.size w w' := by
  have hu149 := Try.underlying149
  have hu147 := Try.underlying147
  have hn := blk_new w (.cells #[.slice none 0 0, .slice none 0 0] 149)
  have hB : Below w.heap.size w (w.alloc (.cells #[.slice none 0 0, .slice none 0 0] 149)) := below_alloc (Below.refl _ _) _
  have HC := Aside0.mk (tree_Up.calls k A0 c0 l0 a1 us _ (Kd.C_below hr0 hB) hc0 h)
  have HN := Aside0.mk hn
  have HB := Aside0.mk hB
  clear hr0 h hn hB
  go_enter Try.func114, Try.ntmps114
  go_wp2_with fail
  refine HC.out.mono ?_
  rintro e w1 ⟨v, rfl, ho, hb⟩
  obtain ⟨Au, cu, rfl, hl, hR⟩ := Kd.R_reads ho
  have HO := Aside0.mk ho
  have HN1 := Aside0.mk (blk_below HN.out hb)
  have HB1 := Aside0.mk (below_step HB.out hb)
  have HR := Aside0.mk hR
  clear ho hb hR HN HB HC
  have g0 := (blk_cell HN1.out 0).trans rfl
  have g1 := (blk_cell HN1.out 1).trans rfl
  have z0 := blk_frozen HN1.out 0
  have z1 := blk_frozen HN1.out 1
  have hs1 : w.heap.size < w1.heap.size := blk_lt HN1.out
  go_wp2
  refine bodyPost_ret (results_cell_row rfl _ _ w.heap.size 149 #[.slice A0 l0.length c0, .slice Au us.length cu] (0, 0) _ rfl (blk_put (blk_put HN1.out 0 _ rfl) 1 _ rfl) Try.underlying149 rfl (by kernel_rfl)) rfl ?_
  exact ⟨Au, cu, rfl, (Kd.R_reads' (Kd.R_set (Kd.R_set HO.out HN1.out (by decide) 0 _) (blk_put HN1.out 0 _ rfl) (by decide) 1 _)).2.2, hl, below_set (below_set HB1.out (Nat.le_refl _)) (Nat.le_refl _)⟩
/-- what Admit makes -/
def admit_Admit.f (k : Nat) (l0 : List (S31)) (a1 : ByteArray) (a2_0 : Int) (a2_1 : Int) (a2_2 : Int) : Option ((List (S31)) × Int) :=
  (tree_Up.f k l0 a1).bind fun us => (vec_May.f a2_0 a2_1 a2_2).bind fun m => if m = true then (if us.length = 0 then some ([], 2) else (admAllF (fun x => leV (opAdd ⟨a2_0, a2_1, a2_2⟩ x.f4) x.f2) l0 us).bind fun q => if q = true then (changedF (opAdd ⟨a2_0, a2_1, a2_2⟩) l0 us).bind fun r => some (r, 0) else some ([], 12)) else some ([], 1)
theorem admit_Admit.mono : ∀ a0 a1 a2 a3 a4 k, LeO (admit_Admit.f k a0 a1 a2 a3 a4) (admit_Admit.f (k + 1) a0 a1 a2 a3 a4) := by
  intro a0 a1 a2 a3 a4 k
  unfold admit_Admit.f
  exact LeO.bind (tree_Up.mono _ _ k) (fun _ => LeO.refl _)
set_option maxHeartbeats 4000000 in
set_option maxRecDepth 100000 in
theorem admit_Admit.calls (k : Nat) (A0 : Option Addr) (c0 : Nat) (l0 : List (S31)) (a1 : ByteArray) (a2_0 : Int) (a2_1 : Int) (a2_2 : Int) (r1 : List (S31)) (r2 : Int) (w : World) (hr0 : Kd.C k31 w A0 l0.length l0) (hc0 : l0.length ≤ c0) (h : admit_Admit.f k l0 a1 a2_0 a2_1 a2_2 = some (r1, r2)) :
    Calls Try.prog 60 #[.slice A0 l0.length c0, .string a1, .agg #[.int .i64 a2_0, .int .i64 a2_1, .int .i64 a2_2]] w fun e w' => ∃ v0_ : Value, e = .returned (.tuple #[v0_, .int .i64 r2]) ∧ Kd.R k31 31 w' w.heap.size (fun _ => True) v0_ r1 ∧ Below w.heap.size w w' := by
  have hu149 := Try.underlying149
  have hu27 := Try.underlying27
  obtain ⟨us, hus, h1⟩ := Option.bind_eq_some_iff.1 h
  obtain ⟨m, hm, h2⟩ := Option.bind_eq_some_iff.1 h1
  obtain ⟨w1, hw1⟩ : ∃ w1, w1 = w.alloc (.cells #[.int .i64 a2_0, .int .i64 a2_1, .int .i64 a2_2] 27) := ⟨_, rfl⟩
  have hv1 : w1.heap[w.heap.size]? = some (.cells #[.int .i64 a2_0, .int .i64 a2_1, .int .i64 a2_2] 27 (0, 0)) := by rw [hw1]; exact blk_new _ _
  have hB1 : Below w.heap.size w w1 := by rw [hw1]; exact below_alloc (Below.refl _ _) _
  have HC := Aside0.mk (admitMade_calls k A0 c0 l0 a1 us w1 (Kd.C_below hr0 hB1) hc0 hus)
  have HR := Aside0.mk hr0
  have HM := Aside0.mk hm
  have HH := Aside0.mk h2
  have HW1 := Aside0.mk hw1
  have HV1 := Aside0.mk hv1
  have HB1 := Aside0.mk hB1
  clear hus h h1 h2 hm hr0 hw1 hv1 hB1
  go_enter Try.func60, Try.ntmps60
  go_wp2_with fail
  rw [← HW1.out]
  refine HC.out.mono ?_
  rintro e w2 ⟨Au, cu, rfl, hu, hcu, hb⟩
  have HU := Aside0.mk hu
  have HB2 := Aside0.mk (below_step HB1.out hb)
  have HV2 := Aside0.mk (blk_below HV1.out hb)
  clear hu hb HC HV1 HB1 HW1
  have g0 := (blk_cell HV2.out 0).trans rfl
  have g1 := (blk_cell HV2.out 1).trans rfl
  have g2 := (blk_cell HV2.out 2).trans rfl
  have hlv : w.heap.size < w2.heap.size := blk_lt HV2.out
  go_wp2_with fail
  obtain ⟨w3, hw3⟩ : ∃ w3, w3 = w2.alloc (.cells #[.slice A0 l0.length c0, .slice Au us.length cu] 149) := ⟨_, rfl⟩
  have hp3 : w3.heap[w2.heap.size]? = some (.cells #[.slice A0 l0.length c0, .slice Au us.length cu] 149 (0, 0)) := by rw [hw3]; exact blk_new _ _
  have hb3 : Below w2.heap.size w2 w3 := by rw [hw3]; exact below_alloc (Below.refl _ _) _
  rw [← hw3]
  refine (vec_May.calls _ _ _ _ _ HM.out).mono ?_
  rintro e w4 ⟨rfl, hb⟩
  have HB := Aside0.mk (below_step (below_step HB2.out hb3) hb)
  have HP := Aside0.mk (blk_below hp3 hb)
  have HV := Aside0.mk (blk_below (blk_below HV2.out hb3) hb)
  have HU4 := Aside0.mk (Kd.C_below (Kd.C_below HU.out hb3) hb)
  have HR4 := Aside0.mk (Kd.C_below HR.out HB.out)
  clear hw3 hp3 hb3 hb g0 g1 g2 HU HV2 HB2 HR
  have p0 := (blk_cell HP.out 0).trans rfl
  have p1 := (blk_cell HP.out 1).trans rfl
  have hlp : w2.heap.size < w4.heap.size := blk_lt HP.out
  cases m with
  | false =>
    have HH1 : Aside0 _ := ⟨Option.some.inj HH.out⟩
    have e1 : r1 = [] := (congrArg Prod.fst HH1.out).symm
    have e2 : r2 = 1 := (congrArg Prod.snd HH1.out).symm
    subst e1 e2
    go_wp2
    go_ret2
    exact ⟨_, rfl, Kd.R_nil _ _ _ _ _, HB.out⟩
  | true =>
    by_cases hz : us.length = 0
    · have HH1 : Aside0 _ := ⟨Option.some.inj ((if_pos hz).symm.trans HH.out)⟩
      have e1 : r1 = [] := (congrArg Prod.fst HH1.out).symm
      have e2 : r2 = 2 := (congrArg Prod.snd HH1.out).symm
      subst e1 e2
      have hzb : ((us.length : Int) == 0) = true := by rw [hz]; rfl
      clear HH HH1
      go_wp2
      go_ret2
      exact ⟨_, rfl, Kd.R_nil _ _ _ _ _, HB.out⟩
    · have hh := (if_neg hz).symm.trans HH.out
      obtain ⟨q, hq, h3⟩ := Option.bind_eq_some_iff.1 hh
      have hzb : ((us.length : Int) == 0) = false := beq_eq_false_iff_ne.2 (by omega)
      have HQ := Aside0.mk (admitAll_calls 117 #[.pointer (some ⟨w.heap.size, 0, none⟩)] (fun x => leV (opAdd ⟨a2_0, a2_1, a2_2⟩ x.f4) x.f2) A0 Au c0 cu l0 us q w4 (enters_of Try.func117 (by kernel_rfl) rfl) HR4.out hc0 HU4.out hcu
        (fun W' x hb => admit1_calls W' w.heap.size ⟨a2_0, a2_1, a2_2⟩ (blk_below HV.out hb) x _ _ _ _ (show vec_Add.f [x.f4, ⟨a2_0, a2_1, a2_2⟩] = some ((opAdd ⟨a2_0, a2_1, a2_2⟩ x.f4).f0, (opAdd ⟨a2_0, a2_1, a2_2⟩ x.f4).f1, (opAdd ⟨a2_0, a2_1, a2_2⟩ x.f4).f2) from rfl) (leV_eq _ _)) hq)
      have HH3 := Aside0.mk h3
      clear hh hq h3 HH hz
      go_wp2_with fail
      refine HQ.out.mono ?_
      rintro e w5 ⟨rfl, hb⟩
      have HB5 := Aside0.mk (below_step HB.out hb)
      have HP5 := Aside0.mk (blk_below HP.out hb)
      have HV5 := Aside0.mk (blk_below HV.out hb)
      have HU5 := Aside0.mk (Kd.C_below HU4.out hb)
      have HR5 := Aside0.mk (Kd.C_below HR4.out hb)
      clear hb HB HP HV HU4 HR4 p0 p1 HQ
      have p0 := (blk_cell HP5.out 0).trans rfl
      have p1 := (blk_cell HP5.out 1).trans rfl
      have hlp5 : w2.heap.size < w5.heap.size := blk_lt HP5.out
      cases q with
      | false =>
        have HH1 : Aside0 _ := ⟨Option.some.inj HH3.out⟩
        have e1 : r1 = [] := (congrArg Prod.fst HH1.out).symm
        have e2 : r2 = 12 := (congrArg Prod.snd HH1.out).symm
        subst e1 e2
        clear HH3 HH1
        go_wp2
        go_ret2
        exact ⟨_, rfl, Kd.R_nil _ _ _ _ _, HB5.out⟩
      | true =>
        obtain ⟨r, hr, h4⟩ := Option.bind_eq_some_iff.1 HH3.out
        have e1 : r = r1 := congrArg Prod.fst (Option.some.inj h4)
        have e2 : r2 = 0 := (congrArg Prod.snd (Option.some.inj h4)).symm
        subst e1 e2
        have HCH := Aside0.mk (admitChanged_calls 121 #[.pointer (some ⟨w.heap.size, 0, none⟩)] (opAdd ⟨a2_0, a2_1, a2_2⟩) A0 Au c0 cu l0 us r w5 (enters_of Try.func121 (by kernel_rfl) rfl) HR5.out hc0 HU5.out hcu
          (fun W' u hb => admit2_calls W' w.heap.size ⟨a2_0, a2_1, a2_2⟩ u (blk_below HV5.out hb)) hr)
        clear hr h4 HH3
        go_wp2_with fail
        refine HCH.out.mono ?_
        rintro e w6 ⟨v, rfl, ho, hb⟩
        have HB6 := Aside0.mk (below_step HB5.out hb)
        have HO6 := Aside0.mk (Kd.R_lower ho HB5.out.size)
        clear ho hb HCH
        go_wp2
        go_ret2
        exact ⟨_, rfl, HO6.out, HB6.out⟩
end Go.Proofs.Ytcgefpklljclgaa.Print

namespace Go.Proofs.Ytcgefpklljclgaa.Print
open Go.RowKit Go.Proofs.YtcgefpklljclgaaW.PrintWords Go.Proofs.YtcgefpklljclgaaW.PrintLast Go.Proofs.YtcgefpklljclgaaW.PrintMore
attribute [local go_sem] max2_int min2_int max_two min_two max_three min_three max_four min_four   -- for this text's walks alone
set_option linter.unusedVariables false
set_option linter.unusedSimpArgs false
theorem eqA31 (d : Nat) (w : World) (x0 y0 : ByteArray) (x1 y1 : ByteArray) (x2 y2 : Int) (x3 y3 : Int) (x4 y4 : Int) (x5 y5 : Int) (x6 y6 : Int) (x7 y7 : Int) (x8 y8 : Int) (x9 y9 : Int) (x10 y10 : Int) (x11 y11 : Int) :
    (Op.equalIn (d + 3) 31 (.agg #[.string x0, .string x1, .int .i64 x2, .int .i64 x3, .int .i64 x4, .int .i64 x5, .int .i64 x6, .int .i64 x7, .int .i64 x8, .int .i64 x9, .int .i64 x10, .int .i64 x11]) (.agg #[.string y0, .string y1, .int .i64 y2, .int .i64 y3, .int .i64 y4, .int .i64 y5, .int .i64 y6, .int .i64 y7, .int .i64 y8, .int .i64 y9, .int .i64 y10, .int .i64 y11])).run Try.prog w = .ok (x0.toList == y0.toList && (x1.toList == y1.toList && ((x2 == y2 && (x3 == y3 && (x4 == y4))) && ((x5 == y5 && (x6 == y6 && (x7 == y7))) && ((x8 == y8 && (x9 == y9 && (x10 == y10))) && (x11 == y11)))))) w := by
  refine eqA_of Try.underlying31 (by kernel_rfl) ?_
  refine eqf_cons (by rfl) (by go_simp; rfl) (by go_simp; rfl) (by go_simp) ?_
  refine eqf_cons (by rfl) (by go_simp; rfl) (by go_simp; rfl) (by go_simp) ?_
  refine eqf_cons (by rfl) (by go_simp) (by go_simp) (eqA27 (d + 0) w _ _ _ _ _ _) ?_
  refine eqf_cons (by rfl) (by go_simp) (by go_simp) (eqA27 (d + 0) w _ _ _ _ _ _) ?_
  refine eqf_cons (by rfl) (by go_simp) (by go_simp) (eqA27 (d + 0) w _ _ _ _ _ _) ?_
  exact eqf_last (by rfl) (by go_simp; rfl) (by go_simp; rfl) (by go_simp)
end Go.Proofs.Ytcgefpklljclgaa.Print

namespace Go.Proofs.Ytcgefpklljclgaa.Print
open Go.RowKit Go.Proofs.YtcgefpklljclgaaW.PrintWords Go.Proofs.YtcgefpklljclgaaW.PrintLast Go.Proofs.YtcgefpklljclgaaW.PrintMore
attribute [local go_sem] max2_int min2_int max_two min_two max_three min_three max_four min_four   -- for this text's walks alone
set_option linter.unusedVariables false
set_option linter.unusedSimpArgs false
attribute [local go_sem high] eqA31
/-! ### r10_SameItems: function 62 -/
def r10_SameItems.l0 : Nat → List (S31) → List (S31) → Int → Option (Bool)
 | 0, _, _, _ => none
 | k + 1, x0, x1, x5 => if x5 < (x0.length : Int) then (if 0 ≤ x5 then (if x5 < (x1.length : Int) then (if (!((((rd_T31 x0 x5).f0).toList) == (((rd_T31 x1 x5).f0).toList)) || (!((((rd_T31 x0 x5).f1).toList) == (((rd_T31 x1 x5).f1).toList)) || ((!(((rd_T31 x0 x5).f2.f0) == ((rd_T31 x1 x5).f2.f0)) || (!(((rd_T31 x0 x5).f2.f1) == ((rd_T31 x1 x5).f2.f1)) || (!(((rd_T31 x0 x5).f2.f2) == ((rd_T31 x1 x5).f2.f2))))) || ((!(((rd_T31 x0 x5).f3.f0) == ((rd_T31 x1 x5).f3.f0)) || (!(((rd_T31 x0 x5).f3.f1) == ((rd_T31 x1 x5).f3.f1)) || (!(((rd_T31 x0 x5).f3.f2) == ((rd_T31 x1 x5).f3.f2))))) || ((!(((rd_T31 x0 x5).f4.f0) == ((rd_T31 x1 x5).f4.f0)) || (!(((rd_T31 x0 x5).f4.f1) == ((rd_T31 x1 x5).f4.f1)) || (!(((rd_T31 x0 x5).f4.f2) == ((rd_T31 x1 x5).f4.f2))))) || (!(((rd_T31 x0 x5).f5) == ((rd_T31 x1 x5).f5)))))))) = true then (some false) else (r10_SameItems.l0 k x0 x1 (wrap64 (x5 + 1)))) else (none)) else (none)) else (some true)
def r10_SameItems.f (k : Nat) (l0 : List (S31)) (l1 : List (S31)) : Option (Bool) := if (l0.length : Int) = (l1.length : Int) then (r10_SameItems.l0 k l0 l1 0) else (some false)
theorem r10_SameItems.mono_l : ∀ k, (∀ y0 y1 y2, LeO (r10_SameItems.l0 k y0 y1 y2) (r10_SameItems.l0 (k + 1) y0 y1 y2))
 | 0 => fun _ _ _ r h => by simp [r10_SameItems.l0] at h
 | k + 1 => by
  have ih0 := r10_SameItems.mono_l k
  ·intro y0 y1 y2
   unfold r10_SameItems.l0
   repeat' first
   | (with_reducible exact ih0 _ _ _)
   | (with_reducible exact LeO.refl _)
   | (with_reducible exact LeO.none _)
   | (with_reducible refine LeO.ite ?_ ?_)
   | (with_reducible refine LeO.bind ?_ (fun _ => ?_))
   | exact ih0 _ _ _
   | exact LeO.none _
   | refine LeO.ite ?_ ?_
   | refine LeO.bind ?_ (fun _ => ?_)
theorem r10_SameItems.mono : ∀ a0 a1 k, LeO (r10_SameItems.f k a0 a1) (r10_SameItems.f (k + 1) a0 a1) := by
 intro a0 a1 k
 have ih0 := r10_SameItems.mono_l k
 unfold r10_SameItems.f
 repeat' first
   | (with_reducible exact ih0 _ _ _)
   | (with_reducible exact LeO.refl _)
   | (with_reducible exact LeO.none _)
   | (with_reducible refine LeO.ite ?_ ?_)
   | (with_reducible refine LeO.bind ?_ (fun _ => ?_))
   | exact ih0 _ _ _
   | exact LeO.none _
   | refine LeO.ite ?_ ?_
   | refine LeO.bind ?_ (fun _ => ?_)
set_option maxHeartbeats 8000000 in
set_option maxRecDepth 100000 in
theorem r10_SameItems.calls (k : Nat) (A0 : Option Addr) (c0 : Nat) (l0 : List (S31)) (A1 : Option Addr) (c1 : Nat) (l1 : List (S31)) (r : Bool) (w : World) (hr0 : Kd.C k31 w A0 l0.length l0) (hc0 : l0.length ≤ c0) (hr1 : Kd.C k31 w A1 l1.length l1) (hc1 : l1.length ≤ c1) (h : r10_SameItems.f k l0 l1 = some r) :
  Calls Try.prog 62 #[.slice A0 l0.length c0, .slice A1 l1.length c1] w fun e w' => e = .returned (.bool r) ∧ Drawn0 w w' := by
 have hu31 := Try.underlying31
 have HR0 := Aside0.mk hr0
 have HC0 := Aside0.mk hc0
 clear hr0 hc0
 have HR1 := Aside0.mk hr1
 have HC1 := Aside0.mk hc1
 clear hr1 hc1
 have H : (if (l0.length : Int) = (l1.length : Int) then (r10_SameItems.l0 k l0 l1 0) else (some false)) = some r := h
 clear h
 by_cases c3 : (l0.length : Int) = (l1.length : Int)
 ·rw [if_pos c3] at H
  have c3b0 : ((l0.length : Int) == (l1.length : Int)) = true := beq_iff_eq.mpr c3
  have c3b1 : ((l0.length : Int) != (l1.length : Int)) = false := bne_eq_false_iff_eq.mpr c3
  have c3b2 : (l0.length == l1.length) = true := by first | simpa using c3 | (simp at c3 ⊢; omega)
  clear c3
  have H' := Aside0.mk H
  clear H
  go_enter Try.func62, Try.ntmps62
  go_wp2
  repeat (go_quiet (fail); try go_wp2)
  go_loopg [5] k (fun kq v5 w' => ∃ (x5_1 : Int), v5 = .int .i64 x5_1 ∧ Aside0 (r10_SameItems.l0 kq l0 l1 x5_1 = some r) ∧ Aside0 (kq ≤ k) ∧ Drawn0 w w')
  case atStart => exact ⟨(0), (by first | rfl | (simp; done) | (simp [*]; done)), H', ⟨Nat.le_refl _⟩, by repeat (first | exact Drawn0.refl _ | apply Drawn0.step)⟩
  case round =>
   clear H'
   try clear c1
   try clear p2
   try clear c3
   try clear c3b0
   try clear c3b1
   try clear c3b2
   obtain ⟨x5_1, rfl, HA, HK1, ⟨m1, rfl⟩⟩ := hrel
   cases gk with
   | zero => exact absurd HA.out (by simp [r10_SameItems.l0])
   | succ k1 =>
    have H := HA.out
    clear HA
    simp only [r10_SameItems.l0] at H
    by_cases c4 : x5_1 < (l0.length : Int)
    ·rw [if_pos c4] at H
     have c4b0 : decide (x5_1 < (l0.length : Int)) = true := decide_eq_true c4
     clear c4
     by_cases c5 : 0 ≤ x5_1
     ·rw [if_pos c5] at H
      have c5b0 : decide (0 ≤ x5_1) = true := decide_eq_true c5
      clear c5
      by_cases c6 : x5_1 < (l1.length : Int)
      ·rw [if_pos c6] at H
       have c6b0 : decide (x5_1 < (l1.length : Int)) = true := decide_eq_true c6
       clear c6
       by_cases c7 : (!((((rd_T31 l0 x5_1).f0).toList) == (((rd_T31 l1 x5_1).f0).toList)) || (!((((rd_T31 l0 x5_1).f1).toList) == (((rd_T31 l1 x5_1).f1).toList)) || ((!(((rd_T31 l0 x5_1).f2.f0) == ((rd_T31 l1 x5_1).f2.f0)) || (!(((rd_T31 l0 x5_1).f2.f1) == ((rd_T31 l1 x5_1).f2.f1)) || (!(((rd_T31 l0 x5_1).f2.f2) == ((rd_T31 l1 x5_1).f2.f2))))) || ((!(((rd_T31 l0 x5_1).f3.f0) == ((rd_T31 l1 x5_1).f3.f0)) || (!(((rd_T31 l0 x5_1).f3.f1) == ((rd_T31 l1 x5_1).f3.f1)) || (!(((rd_T31 l0 x5_1).f3.f2) == ((rd_T31 l1 x5_1).f3.f2))))) || ((!(((rd_T31 l0 x5_1).f4.f0) == ((rd_T31 l1 x5_1).f4.f0)) || (!(((rd_T31 l0 x5_1).f4.f1) == ((rd_T31 l1 x5_1).f4.f1)) || (!(((rd_T31 l0 x5_1).f4.f2) == ((rd_T31 l1 x5_1).f4.f2))))) || (!(((rd_T31 l0 x5_1).f5) == ((rd_T31 l1 x5_1).f5)))))))) = true
       ·rw [if_pos c7] at H
        have c7b0 : (!((((rd_T31 l0 x5_1).f0).toList) == (((rd_T31 l1 x5_1).f0).toList)) || (!((((rd_T31 l0 x5_1).f1).toList) == (((rd_T31 l1 x5_1).f1).toList)) || ((!(((rd_T31 l0 x5_1).f2.f0) == ((rd_T31 l1 x5_1).f2.f0)) || (!(((rd_T31 l0 x5_1).f2.f1) == ((rd_T31 l1 x5_1).f2.f1)) || (!(((rd_T31 l0 x5_1).f2.f2) == ((rd_T31 l1 x5_1).f2.f2))))) || ((!(((rd_T31 l0 x5_1).f3.f0) == ((rd_T31 l1 x5_1).f3.f0)) || (!(((rd_T31 l0 x5_1).f3.f1) == ((rd_T31 l1 x5_1).f3.f1)) || (!(((rd_T31 l0 x5_1).f3.f2) == ((rd_T31 l1 x5_1).f3.f2))))) || ((!(((rd_T31 l0 x5_1).f4.f0) == ((rd_T31 l1 x5_1).f4.f0)) || (!(((rd_T31 l0 x5_1).f4.f1) == ((rd_T31 l1 x5_1).f4.f1)) || (!(((rd_T31 l0 x5_1).f4.f2) == ((rd_T31 l1 x5_1).f4.f2))))) || (!(((rd_T31 l0 x5_1).f5) == ((rd_T31 l1 x5_1).f5)))))))) = true := c7
        clear c7
        obtain rfl := Option.some.inj H
        have p1 : 0 ≤ (x5_1 : Int) := of_decide_eq_true (by first|(with_reducible assumption)|assumption)
        have q1 : x5_1 < (l0.length : Int) := of_decide_eq_true (by first|(with_reducible assumption)|assumption)
        obtain ⟨ad1, e1, hx1_0, hx1_1, hx1_2, hx1_3, hx1_4, hx1_5, hx1_6, hx1_7, hx1_8, hx1_9, hx1_10, hx1_11⟩ := at_T31 HR0.out x5_1 p1 q1
        cases e1
        replace p1 := eq_true p1
        replace q1 := eq_true q1
        have p2 : 0 ≤ (x5_1 : Int) := of_decide_eq_true (by first|(with_reducible assumption)|assumption)
        have q2 : x5_1 < (l1.length : Int) := of_decide_eq_true (by first|(with_reducible assumption)|assumption)
        obtain ⟨ad2, e2, hx2_0, hx2_1, hx2_2, hx2_3, hx2_4, hx2_5, hx2_6, hx2_7, hx2_8, hx2_9, hx2_10, hx2_11⟩ := at_T31 HR1.out x5_1 p2 q2
        cases e2
        replace p2 := eq_true p2
        replace q2 := eq_true q2
        go_wp2
        repeat (go_quiet (fail); try go_wp2)
        go_ret
        exact ⟨by first | rfl | (simp; done) | (simp [*]; done), by repeat (first | exact Drawn0.refl _ | apply Drawn0.step)⟩
       ·rw [if_neg c7] at H
        have c7b0 : (!((((rd_T31 l0 x5_1).f0).toList) == (((rd_T31 l1 x5_1).f0).toList)) || (!((((rd_T31 l0 x5_1).f1).toList) == (((rd_T31 l1 x5_1).f1).toList)) || ((!(((rd_T31 l0 x5_1).f2.f0) == ((rd_T31 l1 x5_1).f2.f0)) || (!(((rd_T31 l0 x5_1).f2.f1) == ((rd_T31 l1 x5_1).f2.f1)) || (!(((rd_T31 l0 x5_1).f2.f2) == ((rd_T31 l1 x5_1).f2.f2))))) || ((!(((rd_T31 l0 x5_1).f3.f0) == ((rd_T31 l1 x5_1).f3.f0)) || (!(((rd_T31 l0 x5_1).f3.f1) == ((rd_T31 l1 x5_1).f3.f1)) || (!(((rd_T31 l0 x5_1).f3.f2) == ((rd_T31 l1 x5_1).f3.f2))))) || ((!(((rd_T31 l0 x5_1).f4.f0) == ((rd_T31 l1 x5_1).f4.f0)) || (!(((rd_T31 l0 x5_1).f4.f1) == ((rd_T31 l1 x5_1).f4.f1)) || (!(((rd_T31 l0 x5_1).f4.f2) == ((rd_T31 l1 x5_1).f4.f2))))) || (!(((rd_T31 l0 x5_1).f5) == ((rd_T31 l1 x5_1).f5)))))))) = false := by simpa using c7
        clear c7
        have H' := Aside0.mk H
        clear H
        have p1 : 0 ≤ (x5_1 : Int) := of_decide_eq_true (by first|(with_reducible assumption)|assumption)
        have q1 : x5_1 < (l0.length : Int) := of_decide_eq_true (by first|(with_reducible assumption)|assumption)
        obtain ⟨ad1, e1, hx1_0, hx1_1, hx1_2, hx1_3, hx1_4, hx1_5, hx1_6, hx1_7, hx1_8, hx1_9, hx1_10, hx1_11⟩ := at_T31 HR0.out x5_1 p1 q1
        cases e1
        replace p1 := eq_true p1
        replace q1 := eq_true q1
        have p2 : 0 ≤ (x5_1 : Int) := of_decide_eq_true (by first|(with_reducible assumption)|assumption)
        have q2 : x5_1 < (l1.length : Int) := of_decide_eq_true (by first|(with_reducible assumption)|assumption)
        obtain ⟨ad2, e2, hx2_0, hx2_1, hx2_2, hx2_3, hx2_4, hx2_5, hx2_6, hx2_7, hx2_8, hx2_9, hx2_10, hx2_11⟩ := at_T31 HR1.out x5_1 p2 q2
        cases e2
        replace p2 := eq_true p2
        replace q2 := eq_true q2
        go_wp2
        repeat (go_quiet (fail); try go_wp2)
        go_roundg k1
        case measure => have := HK1.out; omega
        case rel => exact ⟨(wrap64 (x5_1 + 1)), (by first|rfl|(simp;done)|(simp [*];done)), H', ⟨by have := HK1.out;omega⟩, by repeat (first|exact Drawn0.refl _|apply Drawn0.step)⟩
      ·rw [if_neg c6] at H
       exact absurd H (by simp)
     ·rw [if_neg c5] at H
      exact absurd H (by simp)
    ·rw [if_neg c4] at H
     have c4b0 : decide (x5_1 < (l0.length : Int)) = false := decide_eq_false c4
     clear c4
     obtain rfl := Option.some.inj H
     go_wp2
     repeat (go_quiet (fail); try go_wp2)
     go_ret
     exact ⟨by first | rfl | (simp; done) | (simp [*]; done), by repeat (first | exact Drawn0.refl _ | apply Drawn0.step)⟩
 ·rw [if_neg c3] at H
  have c3b0 : ((l0.length : Int) == (l1.length : Int)) = false := beq_eq_false_iff_ne.mpr c3
  have c3b1 : ((l0.length : Int) != (l1.length : Int)) = true := bne_iff_ne.mpr c3
  have c3b2 : (l0.length == l1.length) = false := by first | simpa using c3 | (simp at c3 ⊢; omega)
  obtain rfl := Option.some.inj H
  go_enter Try.func62, Try.ntmps62
  go_wp2
  repeat (go_quiet (fail); try go_wp2)
  go_ret
  exact ⟨by first | rfl | (simp; done) | (simp [*]; done), by repeat (first | exact Drawn0.refl _ | apply Drawn0.step)⟩
end Go.Proofs.Ytcgefpklljclgaa.Print

namespace Go.Proofs.Ytcgefpklljclgaa.Print
open Go.RowKit Go.Proofs.YtcgefpklljclgaaW.PrintWords Go.Proofs.YtcgefpklljclgaaW.PrintLast Go.Proofs.YtcgefpklljclgaaW.PrintMore
attribute [local go_sem] max2_int min2_int max_two min_two max_three min_three max_four min_four   -- for this text's walks alone
set_option linter.unusedVariables false
set_option linter.unusedSimpArgs false
/-! ### r10_no: function 113 -/
def r10_no.f (a0 : Int) : Option ((List (S31)) × Int) := some (([] : List (S31)), a0)
set_option maxHeartbeats 8000000 in
set_option maxRecDepth 100000 in
theorem r10_no.calls (a0 : Int) (r1 : List (S31)) (r2 : Int) (w : World) (h : r10_no.f a0 = some (r1, r2)) :
  Calls Try.prog 113 #[.int .i64 a0] w fun e w' => ∃ v0_ : Value, e = .returned (.agg #[v0_, .int .i64 r2]) ∧ Kd.R k31 31 w' w.heap.size (fun _ => True) v0_ r1 ∧ Below w.heap.size w w' := by
 have hu67 := Try.underlying67
 have HB := Aside0.mk (Below.refl w.heap.size w)
 have H : (some (([] : List (S31)), a0)) = some (r1, r2) := h
 clear h
 simp only [Option.some.injEq, Prod.mk.injEq] at H
 obtain ⟨rfl, rfl⟩ := H
 go_enter Try.func113, Try.ntmps113
 go_wp2_with (first|((with_reducible refine gate_dst (N := 2) rfl ?_);refine box_event ?hg (N := 2) ?hd (cs := #[.slice none 0 0, .int .i64 0]) (t := 67) ?hr ?_;(case hd => rfl);(case hg => rfl);(case hr => first|(go_simp;done)|(go_simp;rfl));intro gb1 hg w2 hbox hb;have n0_ := Aside0.mk (below_step (by repeat (first|(with_reducible first|exact HB.out|apply below_alloc|apply pw_below_drewN|apply below_drew1)|exact HB.out)) hb);have n1_ := Aside0.mk (hbox);have n2_ := Aside0.mk ((by rw [hg];exact (below_size (by repeat (first|(with_reducible first|exact HB.out|apply below_alloc|apply pw_below_drewN|apply below_drew1)|exact HB.out))) : w.heap.size ≤ gb1));have n3_ := Aside0.mk ((by rw [hg];exact (below_size (by repeat (first|(with_reducible first|exact HB.out|apply below_alloc|apply pw_below_drewN|apply below_drew1)|exact HB.out))) : w.heap.size ≤ gb1));clear HB;have HB := n0_;have BK1 := n1_;have GW1 := n2_;have GE1 := n3_;clear n0_ n1_ n2_ n3_;clear hb hbox hg;have hcz3_0 : w2.cell? ⟨gb1, 0, none⟩ = some (.slice none 0 0) := (blk_cell BK1.out 0).trans rfl;have hcz3_1 : w2.cell? ⟨gb1, 1, none⟩ = some (.int .i64 0) := (blk_cell BK1.out 1).trans rfl;have hfz3_0 := blk_frozen BK1.out 0;have hfz3_1 := blk_frozen BK1.out 1))
 refine bodyPost_ret (results_cell_row rfl _ _ gb1 67 #[.slice none 0 0, .int .i64 a0] (0, 0) _ rfl (by (with_reducible repeat (first|refine blk_drewN ?_ _|refine blk_drew ?_|refine blk_alloc ?_ _));refine blk_put (cs := #[.slice none 0 0, .int .i64 0]) ?_ 1 _ rfl;(with_reducible repeat (first|refine blk_drewN ?_ _|refine blk_drew ?_|refine blk_alloc ?_ _));refine blk_put (cs := #[.slice none 0 0, .int .i64 0]) ?_ 0 _ rfl;(with_reducible repeat (first|refine blk_drewN ?_ _|refine blk_drew ?_|refine blk_alloc ?_ _));exact BK1.out) Try.underlying67 rfl (by kernel_rfl)) rfl ?_
 exact ⟨_, by first|rfl|(simp [errW_none, errW_some] <;> rfl)|(simp [*, errW_none, errW_some] <;> rfl), by first|exact Kd.R_nil _ _ _ _ _|exact Kd.N_nil _ _ _ _ _|exact Kd.V_nil _ _ _ _ _|exact Kd.Q_nil _ _ _ _ _|exact Kd.S_nil _ _ _ _ _, by repeat (first|(with_reducible first|exact HB.out|apply below_alloc|apply pw_below_drewN|apply below_drew1|refine below_set ?_ GE1.out)|exact HB.out)⟩
end Go.Proofs.Ytcgefpklljclgaa.Print

namespace Go.Proofs.Ytcgefpklljclgaa.Print
open Go.RowKit Go.Proofs.YtcgefpklljclgaaW.PrintWords Go.Proofs.YtcgefpklljclgaaW.PrintLast Go.Proofs.YtcgefpklljclgaaW.PrintMore
attribute [local go_sem] max2_int min2_int max_two min_two max_three min_three max_four min_four   -- for this text's walks alone
set_option linter.unusedVariables false
set_option linter.unusedSimpArgs false
/-! ### r10_copied: function 124 -/
def r10_copied.f (l0 : List (S31)) : Option ((List (S31))) := (some (([] : List (S31)) : List (S31))).bind fun y1 => (if y1.length + l0.length < 1256584717458 then (some (y1 ++ l0)) else (none))
set_option maxHeartbeats 8000000 in
set_option maxRecDepth 100000 in
theorem r10_copied.calls (A0 : Option Addr) (c0 : Nat) (l0 : List (S31)) (r : List (S31)) (w : World) (hr0 : Kd.C k31 w A0 l0.length l0) (hc0 : l0.length ≤ c0) (h : r10_copied.f l0 = some r) :
  Calls Try.prog 124 #[.slice A0 l0.length c0] w fun e w' => ∃ v0_ : Value, e = .returned (v0_) ∧ Kd.R k31 31 w' w.heap.size (fun _ => True) v0_ r ∧ Below w.heap.size w w' := by
 have HR0 := Aside0.mk hr0
 have HC0 := Aside0.mk hc0
 clear hr0 hc0
 have HB := Aside0.mk (Below.refl w.heap.size w)
 have H : ((some (([] : List (S31)) : List (S31))).bind fun y1 => (if y1.length + l0.length < 1256584717458 then (some (y1 ++ l0)) else (none))) = some r := h
 clear h
 obtain ⟨y1, hy1⟩ : ∃ y_ : List (S31), y_ = (([] : List (S31))) := ⟨_, rfl⟩
 replace H : (if y1.length + l0.length < 1256584717458 then (some (y1 ++ l0)) else (none)) = some r := by first|(rw [hy1];with_reducible exact H)|(have H2_ := (Option.bind_some _ _).symm.trans H;rw [hy1];with_reducible exact H2_)|(have H2_ := (Option.bind_some _ _).symm.trans H;with_reducible exact H2_)|with_reducible exact H|(rw [hy1];exact H)|exact H
 have Ny1 := Aside0.mk hy1
 clear hy1
 by_cases c2 : y1.length + l0.length < 1256584717458
 ·rw [if_pos c2] at H
  have LMc2 := Aside0.mk c2
  clear c2
  obtain ⟨y4, hy4⟩ : ∃ y_ : List (S31), y_ = (y1 ++ l0) := ⟨_, rfl⟩
  replace H : (some y4) = some r := by first|(rw [hy4];with_reducible exact H)|(have H2_ := (Option.bind_some _ _).symm.trans H;rw [hy4];with_reducible exact H2_)|(have H2_ := (Option.bind_some _ _).symm.trans H;with_reducible exact H2_)|with_reducible exact H|(rw [hy4];exact H)|exact H
  have Ny4 := Aside0.mk hy4
  clear hy4
  obtain rfl := Option.some.inj H
  go_enter Try.func124, Try.ntmps124
  go_wp2_with (first|((with_reducible refine gate_dst (N := 3) rfl ?_);refine Kd.R_lit k31 _ 31 ?hg (N := 3) ?hd (xs := ([] : List (S31))) (inner := []) (ok := fun _ => True) (okp := fun _ => True) ?hr ?hp (fun _ hk => hk) trivial (Below.refl _ _) (Nat.le_refl _) (by simp) ?_;(case hd => rfl);(case hg => rfl);(case hr => first|(go_simp;done)|(go_simp;rfl));(case hp => exact (Reps.none _ _));intro v2 w3 ho4 hb hg_ hnew_;clear hg_ hnew_;(first|rw [← Ny1.out] at ho4|(simp only [Int.reduceToNat] at ho4;rw [← Ny1.out] at ho4));have n0_ := Aside0.mk (Kd.R_lower ho4 (below_size (by repeat (first|(with_reducible first|exact HB.out|apply below_alloc|apply pw_below_drewN|apply below_drew1)|exact HB.out))));have n1_ := Aside0.mk (below_step (by repeat (first|(with_reducible first|exact HB.out|apply below_alloc|apply pw_below_drewN|apply below_drew1)|exact HB.out)) hb);clear HB;have HO3 := n0_;have HB := n1_;clear n0_ n1_;clear hb ho4)|((with_reducible refine gate_builtin (b := .append) (xs := #[.tmp 3, .tmp 4]) rfl ?_);at_builtin;refine Kd.R_append_rows k31 (w0 := w) w.heap.size rfl (.tmp 3) (.tmp 4) 24 31 (.agg #[(.string ⟨#[]⟩), (.string ⟨#[]⟩), (.int .i64 0), (.int .i64 0), (.int .i64 0), (.int .i64 0), (.int .i64 0), (.int .i64 0), (.int .i64 0), (.int .i64 0), (.int .i64 0), (.int .i64 0)]) 112 rfl Try.underlying24 info31 rfl (by decide) (by omega) v2 y1 l0 _ _ _ (fun _ => True) (fun _ => False) rfl rfl ?aO ?aR (fun _ _ h => h) (fun _ h => h.elim) ?aF ?aB ?aS ?aL ?_;(case aR => repeat (first|exact (Kd.C_below HR0.out HB.out)|(with_reducible refine Kd.C_alloc ?_ _)|(with_reducible refine Kd.C_drewN ?_ _)|(with_reducible refine Kd.C_drew ?_)));(case aB => exact (by repeat (first|(with_reducible first|exact HB.out|apply below_alloc|apply pw_below_drewN|apply below_drew1)|exact HB.out)));(case aF => exact (fun _ _ => trivial));(case aO => exact (by (with_reducible repeat (first|apply Kd.R_alloc|apply Kd.R_drewN|apply Kd.R_drew));exact HO3.out));(case aS => exact (below_size (by repeat (first|(with_reducible first|exact HB.out|apply below_alloc|apply pw_below_drewN|apply below_drew1)|exact HB.out))));(case aL => have := LMc2.out;omega);intro v5 w5 ho hb hg hat;rw [← Ny4.out] at ho;have n0_ := Aside0.mk (hb);have n1_ := Aside0.mk (ho);clear HB;clear HO3;have HB := n0_;have HO6 := n1_;clear n0_ n1_;clear ho hb hg hat))
  go_ret
  exact ⟨_, by first|rfl|(simp [errW_none, errW_some] <;> rfl)|(simp [*, errW_none, errW_some] <;> rfl), by (with_reducible repeat (first|apply Kd.R_alloc|apply Kd.R_drewN|apply Kd.R_drew));exact HO6.out, by repeat (first|(with_reducible first|exact HB.out|apply below_alloc|apply pw_below_drewN|apply below_drew1)|exact HB.out)⟩
 ·rw [if_neg c2] at H
  exact absurd H (by simp)
end Go.Proofs.Ytcgefpklljclgaa.Print

namespace Go.Proofs.Ytcgefpklljclgaa.Print
open Go.RowKit Go.Proofs.YtcgefpklljclgaaW.PrintWords Go.Proofs.YtcgefpklljclgaaW.PrintLast Go.Proofs.YtcgefpklljclgaaW.PrintMore
attribute [local go_sem] max2_int min2_int max_two min_two max_three min_three max_four min_four   -- for this text's walks alone
set_option linter.unusedVariables false
set_option linter.unusedSimpArgs false
/-! ### r10_Admit: function 66 -/
def r10_Admit.l0 : Nat → ByteArray → List ByteArray → List (S31) → Int → Int → Int → Int → Option ((List (S31)) × Int)
 | 0, _, _, _, _, _, _, _ => none
 | k + 1, x1, x7, x8, x9, x2000, x2001, x2002 => if x9 < (x7.length : Int) then (if 0 ≤ x9 then ((r10_Find.f k x8 (rdOf ByteArray.empty x7 x9)).bind fun t25 => (if 0 ≤ t25 then (if t25 < (x8.length : Int) then ((r10_Add.f ((rd_T31 x8 t25).f4.f0) ((rd_T31 x8 t25).f4.f1) ((rd_T31 x8 t25).f4.f2) x2000 x2001 x2002).bind fun bt27 => ((some (x8.set (t25 : Int).toNat (⟨(rd_T31 x8 t25).f0, (rd_T31 x8 t25).f1, (⟨(rd_T31 x8 t25).f2.f0, (rd_T31 x8 t25).f2.f1, (rd_T31 x8 t25).f2.f2⟩ : S27), (⟨(rd_T31 x8 t25).f3.f0, (rd_T31 x8 t25).f3.f1, (rd_T31 x8 t25).f3.f2⟩ : S27), (⟨bt27.1, bt27.2.1, bt27.2.2⟩ : S27), (rd_T31 x8 t25).f5⟩ : S31) : List (S31))).bind fun y30 => ((r10_Le.f ((rd_T31 y30 t25).f4.f0) ((rd_T31 y30 t25).f4.f1) ((rd_T31 y30 t25).f4.f2) ((rd_T31 y30 t25).f2.f0) ((rd_T31 y30 t25).f2.f1) ((rd_T31 y30 t25).f2.f2)).bind fun t33 => (if t33 = true then (r10_Admit.l0 k x1 x7 y30 (wrap64 (x9 + 1)) x2000 x2001 x2002) else ((r10_no.f 12).bind fun bt34 => (some (bt34.1, bt34.2))))))) else (none)) else (none))) else (none)) else ((r10_Find.f k x8 x1).bind fun t18 => (if 0 ≤ t18 then (if t18 < (x8.length : Int) then ((r10_Add.f ((rd_T31 x8 t18).f3.f0) ((rd_T31 x8 t18).f3.f1) ((rd_T31 x8 t18).f3.f2) x2000 x2001 x2002).bind fun bt20 => (some ((x8.set (t18 : Int).toNat (⟨(rd_T31 x8 t18).f0, (rd_T31 x8 t18).f1, (⟨(rd_T31 x8 t18).f2.f0, (rd_T31 x8 t18).f2.f1, (rd_T31 x8 t18).f2.f2⟩ : S27), (⟨bt20.1, bt20.2.1, bt20.2.2⟩ : S27), (⟨(rd_T31 x8 t18).f4.f0, (rd_T31 x8 t18).f4.f1, (rd_T31 x8 t18).f4.f2⟩ : S27), (rd_T31 x8 t18).f5⟩ : S31)), 0))) else (none)) else (none)))
def r10_Admit.f (k : Nat) (l0 : List (S31)) (a1 : ByteArray) (a2_0 : Int) (a2_1 : Int) (a2_2 : Int) : Option ((List (S31)) × Int) := (r10_Up.f k l0 a1).bind fun t3 => ((r10_MayVec.f a2_0 a2_1 a2_2).bind fun t6 => (if t6 = true then (if (t3.length : Int) = 0 then ((r10_no.f 2).bind fun bt11 => (some (bt11.1, bt11.2))) else ((r10_copied.f l0).bind fun t15 => (r10_Admit.l0 k a1 t3 t15 0 a2_0 a2_1 a2_2))) else ((r10_no.f 1).bind fun bt7 => (some (bt7.1, bt7.2)))))
theorem r10_Admit.mono_l : ∀ k, (∀ y0 y1 y2 y3 y4 y5 y6, LeO (r10_Admit.l0 k y0 y1 y2 y3 y4 y5 y6) (r10_Admit.l0 (k + 1) y0 y1 y2 y3 y4 y5 y6))
 | 0 => fun _ _ _ _ _ _ _ r h => by simp [r10_Admit.l0] at h
 | k + 1 => by
  have ih0 := r10_Admit.mono_l k
  ·intro y0 y1 y2 y3 y4 y5 y6
   unfold r10_Admit.l0
   repeat' first
   | (with_reducible exact ih0 _ _ _ _ _ _ _)
   | (with_reducible exact r10_Find.mono _ _ _)
   | (with_reducible exact r10_Up.mono _ _ _)
   | (with_reducible exact LeO.refl _)
   | (with_reducible exact LeO.none _)
   | (with_reducible refine LeO.ite ?_ ?_)
   | (with_reducible refine LeO.bind ?_ (fun _ => ?_))
   | exact ih0 _ _ _ _ _ _ _
   | exact r10_Find.mono _ _ _
   | exact r10_Up.mono _ _ _
   | exact LeO.none _
   | refine LeO.ite ?_ ?_
   | refine LeO.bind ?_ (fun _ => ?_)
theorem r10_Admit.mono : ∀ a0 a1 a2 a3 a4 k, LeO (r10_Admit.f k a0 a1 a2 a3 a4) (r10_Admit.f (k + 1) a0 a1 a2 a3 a4) := by
 intro a0 a1 a2 a3 a4 k
 have ih0 := r10_Admit.mono_l k
 unfold r10_Admit.f
 repeat' first
   | (with_reducible exact ih0 _ _ _ _ _ _ _)
   | (with_reducible exact r10_Find.mono _ _ _)
   | (with_reducible exact r10_Up.mono _ _ _)
   | (with_reducible exact LeO.refl _)
   | (with_reducible exact LeO.none _)
   | (with_reducible refine LeO.ite ?_ ?_)
   | (with_reducible refine LeO.bind ?_ (fun _ => ?_))
   | exact ih0 _ _ _ _ _ _ _
   | exact r10_Find.mono _ _ _
   | exact r10_Up.mono _ _ _
   | exact LeO.none _
   | refine LeO.ite ?_ ?_
   | refine LeO.bind ?_ (fun _ => ?_)
def r10_Admit.T11 : Bool × List (List Nat × List Nat) := (true, [([], []), ([], []), ([], []), ([], []), ([2, 3], [2, 3]), ([4], [4]), ([5], [5]), ([], []), ([6, 7], [6, 7]), ([0, 1, 0, 1, 2, 3, 4, 5, 6, 7, 8], [0, 1]), ([9, 0, 1, 2, 3, 4, 5, 6, 7, 8], [9]), ([10, 8, 8, 0, 1, 2, 3, 4, 5, 6, 7, 8], [8, 10])])
def r10_Admit.B11 : List Nat := [0, 0, 0, 0, 12, 28, 60, 0, 252, 511, 1023, 2047]
theorem r10_Admit.tab11 : rtab .any (opsOf Try.f66 11) = r10_Admit.T11 := by kernel_rfl
theorem r10_Admit.bits11 : waitsOk r10_Admit.T11.2 r10_Admit.B11 = true := by kernel_rfl
def r10_Admit.T12 : Bool × List (List Nat × List Nat) := (true, [([], []), ([], []), ([0, 1], [0, 1]), ([2], [2]), ([3], [3]), ([], []), ([], []), ([5, 6], [5, 6]), ([7], [7]), ([8], [8]), ([4, 9], [4, 9]), ([10], [10])])
def r10_Admit.B12 : List Nat := [0, 0, 3, 7, 15, 0, 0, 96, 224, 480, 1023, 2047]
theorem r10_Admit.tab12 : rtab .any (opsOf Try.f66 12) = r10_Admit.T12 := by kernel_rfl
theorem r10_Admit.bits12 : waitsOk r10_Admit.T12.2 r10_Admit.B12 = true := by kernel_rfl
def r10_Admit.T15 : Bool × List (List Nat × List Nat) := (true, [([], []), ([], []), ([], []), ([], []), ([2, 3], [2, 3]), ([4], [4]), ([5], [5]), ([], []), ([6, 7], [6, 7]), ([0, 1, 0, 1, 2, 3, 4, 5, 6, 7, 8], [0, 1]), ([9, 0, 1, 2, 3, 4, 5, 6, 7, 8], [9]), ([10, 8, 8, 0, 1, 2, 3, 4, 5, 6, 7, 8], [8, 10])])
def r10_Admit.B15 : List Nat := [0, 0, 0, 0, 12, 28, 60, 0, 252, 511, 1023, 2047]
theorem r10_Admit.tab15 : rtab .any (opsOf Try.f66 15) = r10_Admit.T15 := by kernel_rfl
theorem r10_Admit.bits15 : waitsOk r10_Admit.T15.2 r10_Admit.B15 = true := by kernel_rfl
set_option maxHeartbeats 8000000 in
set_option maxRecDepth 100000 in
theorem r10_Admit.calls (k : Nat) (A0 : Option Addr) (c0 : Nat) (l0 : List (S31)) (a1 : ByteArray) (a2_0 : Int) (a2_1 : Int) (a2_2 : Int) (r1 : List (S31)) (r2 : Int) (w : World) (hr0 : Kd.C k31 w A0 l0.length l0) (hc0 : l0.length ≤ c0) (h : r10_Admit.f k l0 a1 a2_0 a2_1 a2_2 = some (r1, r2)) :
  Calls Try.prog 66 #[.slice A0 l0.length c0, .string a1, .agg #[.int .i64 a2_0, .int .i64 a2_1, .int .i64 a2_2]] w fun e w' => ∃ v0_ : Value, e = .returned (.agg #[v0_, .int .i64 r2]) ∧ Kd.R k31 31 w' w.heap.size (fun _ => True) v0_ r1 ∧ Below w.heap.size w w' := by
 have hu27 := Try.underlying27
 have hu67 := Try.underlying67
 have HR0 := Aside0.mk hr0
 have HC0 := Aside0.mk hc0
 clear hr0 hc0
 have HB := Aside0.mk (Below.refl w.heap.size w)
 have H : ((r10_Up.f k l0 a1).bind fun t3 => ((r10_MayVec.f a2_0 a2_1 a2_2).bind fun t6 => (if t6 = true then (if (t3.length : Int) = 0 then ((r10_no.f 2).bind fun bt11 => (some (bt11.1, bt11.2))) else ((r10_copied.f l0).bind fun t15 => (r10_Admit.l0 k a1 t3 t15 0 a2_0 a2_1 a2_2))) else ((r10_no.f 1).bind fun bt7 => (some (bt7.1, bt7.2)))))) = some (r1, r2) := h
 clear h
 replace H := Option.bind_eq_some_iff.mp H
 obtain ⟨t3, A40, H⟩ := H
 replace H : ((r10_MayVec.f a2_0 a2_1 a2_2).bind fun t6 => (if t6 = true then (if (t3.length : Int) = 0 then ((r10_no.f 2).bind fun bt11 => (some (bt11.1, bt11.2))) else ((r10_copied.f l0).bind fun t15 => (r10_Admit.l0 k a1 t3 t15 0 a2_0 a2_1 a2_2))) else ((r10_no.f 1).bind fun bt7 => (some (bt7.1, bt7.2))))) = some (r1, r2) := H
 have A4 := Aside0.mk A40
 clear A40
 replace H := Option.bind_eq_some_iff.mp H
 obtain ⟨t6, A50, H⟩ := H
 replace H : (if t6 = true then (if (t3.length : Int) = 0 then ((r10_no.f 2).bind fun bt11 => (some (bt11.1, bt11.2))) else ((r10_copied.f l0).bind fun t15 => (r10_Admit.l0 k a1 t3 t15 0 a2_0 a2_1 a2_2))) else ((r10_no.f 1).bind fun bt7 => (some (bt7.1, bt7.2)))) = some (r1, r2) := H
 have A5 := Aside0.mk A50
 clear A50
 by_cases c6 : t6 = true
 ·subst c6
  have H1 : (if (t3.length : Int) = 0 then ((r10_no.f 2).bind fun bt11 => (some (bt11.1, bt11.2))) else ((r10_copied.f l0).bind fun t15 => (r10_Admit.l0 k a1 t3 t15 0 a2_0 a2_1 a2_2))) = some (r1, r2) := by rw [if_pos rfl] at H; exact H
  clear H
  have H := H1
  clear H1
  by_cases c7 : (t3.length : Int) = 0
  ·rw [if_pos c7] at H
   have c7b0 : ((t3.length : Int) == 0) = true := beq_iff_eq.mpr c7
   have c7b1 : ((t3.length : Int) != 0) = false := bne_eq_false_iff_eq.mpr c7
   clear c7
   replace H := Option.bind_eq_some_iff.mp H
   obtain ⟨⟨t11, t14⟩, A80, H⟩ := H
   replace H : (some (t11, t14)) = some (r1, r2) := H
   have A8 := Aside0.mk A80
   clear A80
   simp only [Option.some.injEq, Prod.mk.injEq] at H
   obtain ⟨rfl, rfl⟩ := H
   go_enter Try.func66, Try.ntmps66
   go_wp2_with (first|((with_reducible refine gate_dst (N := 5) rfl ?_);refine box_event ?hg (N := 5) ?hd (cs := #[.int .i64 a2_0, .int .i64 a2_1, .int .i64 a2_2]) (t := 27) ?hr ?_;(case hd => rfl);(case hg => rfl);(case hr => first|(go_simp;done)|(go_simp;rfl));intro gb1 hg w9 hbox hb;have n0_ := Aside0.mk (below_step (by repeat (first|(with_reducible first|exact HB.out|apply below_alloc|apply pw_below_drewN|apply below_drew1)|exact HB.out)) hb);have n1_ := Aside0.mk (hbox);have n2_ := Aside0.mk ((by rw [hg];exact (below_size (by repeat (first|(with_reducible first|exact HB.out|apply below_alloc|apply pw_below_drewN|apply below_drew1)|exact HB.out))) : w.heap.size ≤ gb1));have n3_ := Aside0.mk ((by rw [hg];exact (below_size (by repeat (first|(with_reducible first|exact HB.out|apply below_alloc|apply pw_below_drewN|apply below_drew1)|exact HB.out))) : w.heap.size ≤ gb1));clear HB;have HB := n0_;have BK1 := n1_;have GW1 := n2_;have GE1 := n3_;clear n0_ n1_ n2_ n3_;clear hb hbox hg)|((with_reducible refine gate_dst (N := 6) rfl ?_);refine box_event ?hg (N := 6) ?hd (cs := #[.slice none 0 0, .int .i64 0]) (t := 67) ?hr ?_;(case hd => rfl);(case hg => rfl);(case hr => first|(go_simp;done)|(go_simp;rfl));intro gb2 hg w10 hbox hb;have n0_ := Aside0.mk (blk_below (g := gb1) (o := .cells #[.int .i64 a2_0, .int .i64 a2_1, .int .i64 a2_2] 27 (0, 0)) (by (with_reducible repeat (first|refine blk_drewN ?_ _|refine blk_drew ?_|refine blk_alloc ?_ _));exact BK1.out) hb);have n1_ := Aside0.mk (below_step (by repeat (first|(with_reducible first|exact HB.out|apply below_alloc|apply pw_below_drewN|apply below_drew1|refine below_set ?_ GE1.out)|exact HB.out)) hb);have n2_ := Aside0.mk (hbox);have n3_ := Aside0.mk ((by rw [hg];exact (below_size (by repeat (first|(with_reducible first|exact HB.out|apply below_alloc|apply pw_below_drewN|apply below_drew1|refine below_set ?_ GE1.out)|exact HB.out))) : w.heap.size ≤ gb2));have n4_ := Aside0.mk ((by rw [hg];exact (below_size (by repeat (first|(with_reducible first|exact HB.out|apply below_alloc|apply pw_below_drewN|apply below_drew1|refine below_set ?_ GE1.out)|exact HB.out))) : w.heap.size ≤ gb2));have n5_ := Aside0.mk ((by rw [hg];exact Nat.ne_of_lt (blk_lt (g := gb1) (o := .cells #[.int .i64 a2_0, .int .i64 a2_1, .int .i64 a2_2] 27 (0, 0)) (by (with_reducible repeat (first|refine blk_drewN ?_ _|refine blk_drew ?_|refine blk_alloc ?_ _));exact BK1.out)) : gb1 ≠ gb2));have n6_ := Aside0.mk ((by rw [hg];exact Nat.ne_of_gt (blk_lt (g := gb1) (o := .cells #[.int .i64 a2_0, .int .i64 a2_1, .int .i64 a2_2] 27 (0, 0)) (by (with_reducible repeat (first|refine blk_drewN ?_ _|refine blk_drew ?_|refine blk_alloc ?_ _));exact BK1.out)) : gb2 ≠ gb1));clear BK1;clear HB;have BK1 := n0_;have HB := n1_;have BK2 := n2_;have GW2 := n3_;have GE2 := n4_;have NB1_2 := n5_;have NB2_1 := n6_;clear n0_ n1_ n2_ n3_ n4_ n5_ n6_;clear hb hbox hg)|((with_reducible refine gate_callee (f := 106) rfl ?_);refine goesL_ (some 14) rfl rfl Try.func106 (by kernel_rfl) rfl #[.slice A0 l0.length c0, .string a1] rfl (by (try simp only [List.map_toArray, List.map_cons, List.map_nil]);first|done|rfl|(simp only [List.length_drop, List.length_take];rfl)) ?_;(with_reducible refine (r10_Up.calls k _ _ l0 a1 t3 _ ?side1 ?side2 A4.out).mono ?_);(case side1 => repeat (first|exact (Kd.C_below HR0.out HB.out)|(with_reducible refine Kd.C_alloc ?_ _)|(with_reducible refine Kd.C_drewN ?_ _)|(with_reducible refine Kd.C_drew ?_)));(case side2 => exact HC0.out);rintro e w11 ⟨v4, rfl, ho0, hb⟩;refine ⟨_, rfl, ?_⟩;have n0_ := Aside0.mk (Kd.R_lower ho0 (below_size (by repeat (first|(with_reducible first|exact HB.out|apply below_alloc|apply pw_below_drewN|apply below_drew1|refine below_set ?_ GE1.out|refine below_set ?_ GE2.out)|exact HB.out))));have n1_ := Aside0.mk (blk_below (g := gb1) (o := .cells #[.int .i64 a2_0, .int .i64 a2_1, .int .i64 a2_2] 27 (0, 0)) (by (with_reducible repeat (first|refine blk_drewN ?_ _|refine blk_drew ?_|refine blk_alloc ?_ _));exact BK1.out) hb);have n2_ := Aside0.mk (blk_below (g := gb2) (o := .cells #[.slice none 0 0, .int .i64 0] 67 (0, 0)) (by (with_reducible repeat (first|refine blk_drewN ?_ _|refine blk_drew ?_|refine blk_alloc ?_ _));exact BK2.out) hb);have n3_ := Aside0.mk (below_step (by repeat (first|(with_reducible first|exact HB.out|apply below_alloc|apply pw_below_drewN|apply below_drew1|refine below_set ?_ GE1.out|refine below_set ?_ GE2.out)|exact HB.out)) hb);clear BK1;clear BK2;clear HB;have HO5 := n0_;have BK1 := n1_;have BK2 := n2_;have HB := n3_;clear n0_ n1_ n2_ n3_;(try clear hb);(try clear hb2);(try clear hk);(try clear hi);(try clear ho0);have hnb12 := NB1_2.out;have hnc12 := NB2_1.out;have hcz13_0 : w11.cell? ⟨gb1, 0, none⟩ = some (.int .i64 a2_0) := (blk_cell BK1.out 0).trans rfl;have hcz13_1 : w11.cell? ⟨gb1, 1, none⟩ = some (.int .i64 a2_1) := (blk_cell BK1.out 1).trans rfl;have hcz13_2 : w11.cell? ⟨gb1, 2, none⟩ = some (.int .i64 a2_2) := (blk_cell BK1.out 2).trans rfl;have hfz13_0 := blk_frozen BK1.out 0;have hfz13_1 := blk_frozen BK1.out 1;have hfz13_2 := blk_frozen BK1.out 2)|((with_reducible refine gate_callee (f := 65) rfl ?_);refine goesL_ (some 16) rfl rfl Try.func65 (by kernel_rfl) rfl #[.agg #[.int .i64 a2_0, .int .i64 a2_1, .int .i64 a2_2]] rfl (by (try simp only [List.map_toArray, List.map_cons, List.map_nil]);first|done|rfl|(simp only [List.length_drop, List.length_take];rfl)) ?_;(with_reducible refine (r10_MayVec.calls a2_0 a2_1 a2_2 true _ A5.out).mono ?_);rintro e w14 ⟨rfl, hb⟩;refine ⟨_, rfl, ?_⟩;have n0_ := Aside0.mk (Kd.R_below (by (with_reducible repeat (first|apply Kd.R_alloc|apply Kd.R_drewN|apply Kd.R_drew));exact HO5.out) hb);have n1_ := Aside0.mk (blk_below (g := gb1) (o := .cells #[.int .i64 a2_0, .int .i64 a2_1, .int .i64 a2_2] 27 (0, 0)) (by (with_reducible repeat (first|refine blk_drewN ?_ _|refine blk_drew ?_|refine blk_alloc ?_ _));exact BK1.out) hb);have n2_ := Aside0.mk (blk_below (g := gb2) (o := .cells #[.slice none 0 0, .int .i64 0] 67 (0, 0)) (by (with_reducible repeat (first|refine blk_drewN ?_ _|refine blk_drew ?_|refine blk_alloc ?_ _));exact BK2.out) hb);have n3_ := Aside0.mk (below_step (by repeat (first|(with_reducible first|exact HB.out|apply below_alloc|apply pw_below_drewN|apply below_drew1|refine below_set ?_ GE1.out|refine below_set ?_ GE2.out)|exact HB.out)) hb);clear HO5;clear BK1;clear BK2;clear HB;have HO5 := n0_;have BK1 := n1_;have BK2 := n2_;have HB := n3_;clear n0_ n1_ n2_ n3_;(try clear hb);(try clear hb2);(try clear hk);(try clear hi);obtain ⟨Ao15, co15, eo15⟩ := Kd.R_slice HO5.out;subst eo15)|((with_reducible refine gate_callee (f := 113) rfl ?_);refine goesL_ (some 22) rfl rfl Try.func113 (by kernel_rfl) rfl #[.int .i64 2] rfl (by (try simp only [List.map_toArray, List.map_cons, List.map_nil]);first|done|rfl|(simp only [List.length_drop, List.length_take];rfl)) ?_;(with_reducible refine (r10_no.calls 2 t11 t14 _ A8.out).mono ?_);rintro e w16 ⟨v12, rfl, ho0, hb⟩;refine ⟨_, rfl, ?_⟩;have n0_ := Aside0.mk (Kd.R_below (by (with_reducible repeat (first|apply Kd.R_alloc|apply Kd.R_drewN|apply Kd.R_drew));exact HO5.out) hb);have n1_ := Aside0.mk (Kd.R_lower ho0 (below_size (by repeat (first|(with_reducible first|exact HB.out|apply below_alloc|apply pw_below_drewN|apply below_drew1|refine below_set ?_ GE1.out|refine below_set ?_ GE2.out)|exact HB.out))));have n2_ := Aside0.mk (blk_below (g := gb1) (o := .cells #[.int .i64 a2_0, .int .i64 a2_1, .int .i64 a2_2] 27 (0, 0)) (by (with_reducible repeat (first|refine blk_drewN ?_ _|refine blk_drew ?_|refine blk_alloc ?_ _));exact BK1.out) hb);have n3_ := Aside0.mk (blk_below (g := gb2) (o := .cells #[.slice none 0 0, .int .i64 0] 67 (0, 0)) (by (with_reducible repeat (first|refine blk_drewN ?_ _|refine blk_drew ?_|refine blk_alloc ?_ _));exact BK2.out) hb);have n4_ := Aside0.mk (below_step (by repeat (first|(with_reducible first|exact HB.out|apply below_alloc|apply pw_below_drewN|apply below_drew1|refine below_set ?_ GE1.out|refine below_set ?_ GE2.out)|exact HB.out)) hb);clear HO5;clear BK1;clear BK2;clear HB;have HO5 := n0_;have HO13 := n1_;have BK1 := n2_;have BK2 := n3_;have HB := n4_;clear n0_ n1_ n2_ n3_ n4_;(try clear hb);(try clear hb2);(try clear hk);(try clear hi);(try clear ho0);obtain ⟨Ao17, co17, eo17⟩ := Kd.R_slice HO13.out;subst eo17;have hcz18_0 : w16.cell? ⟨gb2, 0, none⟩ = some (.slice none 0 0) := (blk_cell BK2.out 0).trans rfl;have hcz18_1 : w16.cell? ⟨gb2, 1, none⟩ = some (.int .i64 0) := (blk_cell BK2.out 1).trans rfl;have hfz18_0 := blk_frozen BK2.out 0;have hfz18_1 := blk_frozen BK2.out 1))
   refine bodyPost_ret (results_cell_row rfl _ _ gb2 67 #[.slice Ao17 t11.length co17, .int .i64 t14] (0, 0) _ rfl (by (with_reducible repeat (first|refine blk_drewN ?_ _|refine blk_drew ?_|refine blk_alloc ?_ _));refine blk_put (cs := #[.slice Ao17 t11.length co17, .int .i64 0]) ?_ 1 _ rfl;(with_reducible repeat (first|refine blk_drewN ?_ _|refine blk_drew ?_|refine blk_alloc ?_ _));refine blk_put (cs := #[.slice none 0 0, .int .i64 0]) ?_ 0 _ rfl;(with_reducible repeat (first|refine blk_drewN ?_ _|refine blk_drew ?_|refine blk_alloc ?_ _));exact BK2.out) Try.underlying67 rfl (by kernel_rfl)) rfl ?_
   exact ⟨_, by first|rfl|(simp [errW_none, errW_some] <;> rfl)|(simp [*, errW_none, errW_some] <;> rfl), by (with_reducible repeat (first|apply Kd.R_alloc|apply Kd.R_drewN|apply Kd.R_drew));exact Kd.R_mono (Kd.R_far (p := ⟨gb2, 1, none⟩) (Kd.R_far (p := ⟨gb2, 0, none⟩) (Kd.R_types HO13.out BK2.out (by decide)) (fun _ hk => hk.2) (.slice Ao17 t11.length co17)) (fun _ hk => hk.2) (.int .i64 t14)) (fun _ hk => trivial), by repeat (first|(with_reducible first|exact HB.out|apply below_alloc|apply pw_below_drewN|apply below_drew1|refine below_set ?_ GE1.out|refine below_set ?_ GE2.out)|exact HB.out)⟩
  ·rw [if_neg c7] at H
   have c7b0 : ((t3.length : Int) == 0) = false := beq_eq_false_iff_ne.mpr c7
   have c7b1 : ((t3.length : Int) != 0) = true := bne_iff_ne.mpr c7
   have c7b2 : ¬ (t3 = []) := fun h_ => c7 (by rw [h_]; rfl)
   replace H := Option.bind_eq_some_iff.mp H
   obtain ⟨t15, A190, H⟩ := H
   replace H : (r10_Admit.l0 k a1 t3 t15 0 a2_0 a2_1 a2_2) = some (r1, r2) := H
   have A19 := Aside0.mk A190
   clear A190
   have H' := Aside0.mk H
   clear H
   go_enter Try.func66, Try.ntmps66
   go_wp2_with (first|((with_reducible refine gate_dst (N := 5) rfl ?_);refine box_event ?hg (N := 5) ?hd (cs := #[.int .i64 a2_0, .int .i64 a2_1, .int .i64 a2_2]) (t := 27) ?hr ?_;(case hd => rfl);(case hg => rfl);(case hr => first|(go_simp;done)|(go_simp;rfl));intro gb1 hg w20 hbox hb;have n0_ := Aside0.mk (below_step (by repeat (first|(with_reducible first|exact HB.out|apply below_alloc|apply pw_below_drewN|apply below_drew1)|exact HB.out)) hb);have n1_ := Aside0.mk (hbox);have n2_ := Aside0.mk ((by rw [hg];exact (below_size (by repeat (first|(with_reducible first|exact HB.out|apply below_alloc|apply pw_below_drewN|apply below_drew1)|exact HB.out))) : w.heap.size ≤ gb1));have n3_ := Aside0.mk ((by rw [hg];exact (below_size (by repeat (first|(with_reducible first|exact HB.out|apply below_alloc|apply pw_below_drewN|apply below_drew1)|exact HB.out))) : w.heap.size ≤ gb1));clear HB;have HB := n0_;have BK1 := n1_;have GW1 := n2_;have GE1 := n3_;clear n0_ n1_ n2_ n3_;clear hb hbox hg)|((with_reducible refine gate_dst (N := 6) rfl ?_);refine box_event ?hg (N := 6) ?hd (cs := #[.slice none 0 0, .int .i64 0]) (t := 67) ?hr ?_;(case hd => rfl);(case hg => rfl);(case hr => first|(go_simp;done)|(go_simp;rfl));intro gb2 hg w21 hbox hb;have n0_ := Aside0.mk (blk_below (g := gb1) (o := .cells #[.int .i64 a2_0, .int .i64 a2_1, .int .i64 a2_2] 27 (0, 0)) (by (with_reducible repeat (first|refine blk_drewN ?_ _|refine blk_drew ?_|refine blk_alloc ?_ _));exact BK1.out) hb);have n1_ := Aside0.mk (below_step (by repeat (first|(with_reducible first|exact HB.out|apply below_alloc|apply pw_below_drewN|apply below_drew1|refine below_set ?_ GE1.out)|exact HB.out)) hb);have n2_ := Aside0.mk (hbox);have n3_ := Aside0.mk ((by rw [hg];exact (below_size (by repeat (first|(with_reducible first|exact HB.out|apply below_alloc|apply pw_below_drewN|apply below_drew1|refine below_set ?_ GE1.out)|exact HB.out))) : w.heap.size ≤ gb2));have n4_ := Aside0.mk ((by rw [hg];exact (below_size (by repeat (first|(with_reducible first|exact HB.out|apply below_alloc|apply pw_below_drewN|apply below_drew1|refine below_set ?_ GE1.out)|exact HB.out))) : w.heap.size ≤ gb2));have n5_ := Aside0.mk ((by rw [hg];exact Nat.ne_of_lt (blk_lt (g := gb1) (o := .cells #[.int .i64 a2_0, .int .i64 a2_1, .int .i64 a2_2] 27 (0, 0)) (by (with_reducible repeat (first|refine blk_drewN ?_ _|refine blk_drew ?_|refine blk_alloc ?_ _));exact BK1.out)) : gb1 ≠ gb2));have n6_ := Aside0.mk ((by rw [hg];exact Nat.ne_of_gt (blk_lt (g := gb1) (o := .cells #[.int .i64 a2_0, .int .i64 a2_1, .int .i64 a2_2] 27 (0, 0)) (by (with_reducible repeat (first|refine blk_drewN ?_ _|refine blk_drew ?_|refine blk_alloc ?_ _));exact BK1.out)) : gb2 ≠ gb1));clear BK1;clear HB;have BK1 := n0_;have HB := n1_;have BK2 := n2_;have GW2 := n3_;have GE2 := n4_;have NB1_2 := n5_;have NB2_1 := n6_;clear n0_ n1_ n2_ n3_ n4_ n5_ n6_;clear hb hbox hg)|((with_reducible refine gate_callee (f := 106) rfl ?_);refine goesL_ (some 14) rfl rfl Try.func106 (by kernel_rfl) rfl #[.slice A0 l0.length c0, .string a1] rfl (by (try simp only [List.map_toArray, List.map_cons, List.map_nil]);first|done|rfl|(simp only [List.length_drop, List.length_take];rfl)) ?_;(with_reducible refine (r10_Up.calls k _ _ l0 a1 t3 _ ?side1 ?side2 A4.out).mono ?_);(case side1 => repeat (first|exact (Kd.C_below HR0.out HB.out)|(with_reducible refine Kd.C_alloc ?_ _)|(with_reducible refine Kd.C_drewN ?_ _)|(with_reducible refine Kd.C_drew ?_)));(case side2 => exact HC0.out);rintro e w22 ⟨v4, rfl, ho0, hb⟩;refine ⟨_, rfl, ?_⟩;have n0_ := Aside0.mk (Kd.R_lower ho0 (below_size (by repeat (first|(with_reducible first|exact HB.out|apply below_alloc|apply pw_below_drewN|apply below_drew1|refine below_set ?_ GE1.out|refine below_set ?_ GE2.out)|exact HB.out))));have n1_ := Aside0.mk (blk_below (g := gb1) (o := .cells #[.int .i64 a2_0, .int .i64 a2_1, .int .i64 a2_2] 27 (0, 0)) (by (with_reducible repeat (first|refine blk_drewN ?_ _|refine blk_drew ?_|refine blk_alloc ?_ _));exact BK1.out) hb);have n2_ := Aside0.mk (blk_below (g := gb2) (o := .cells #[.slice none 0 0, .int .i64 0] 67 (0, 0)) (by (with_reducible repeat (first|refine blk_drewN ?_ _|refine blk_drew ?_|refine blk_alloc ?_ _));exact BK2.out) hb);have n3_ := Aside0.mk (below_step (by repeat (first|(with_reducible first|exact HB.out|apply below_alloc|apply pw_below_drewN|apply below_drew1|refine below_set ?_ GE1.out|refine below_set ?_ GE2.out)|exact HB.out)) hb);clear BK1;clear BK2;clear HB;have HO5 := n0_;have BK1 := n1_;have BK2 := n2_;have HB := n3_;clear n0_ n1_ n2_ n3_;(try clear hb);(try clear hb2);(try clear hk);(try clear hi);(try clear ho0);have hnb23 := NB1_2.out;have hnc23 := NB2_1.out;have hcz24_0 : w22.cell? ⟨gb1, 0, none⟩ = some (.int .i64 a2_0) := (blk_cell BK1.out 0).trans rfl;have hcz24_1 : w22.cell? ⟨gb1, 1, none⟩ = some (.int .i64 a2_1) := (blk_cell BK1.out 1).trans rfl;have hcz24_2 : w22.cell? ⟨gb1, 2, none⟩ = some (.int .i64 a2_2) := (blk_cell BK1.out 2).trans rfl;have hfz24_0 := blk_frozen BK1.out 0;have hfz24_1 := blk_frozen BK1.out 1;have hfz24_2 := blk_frozen BK1.out 2)|((with_reducible refine gate_callee (f := 65) rfl ?_);refine goesL_ (some 16) rfl rfl Try.func65 (by kernel_rfl) rfl #[.agg #[.int .i64 a2_0, .int .i64 a2_1, .int .i64 a2_2]] rfl (by (try simp only [List.map_toArray, List.map_cons, List.map_nil]);first|done|rfl|(simp only [List.length_drop, List.length_take];rfl)) ?_;(with_reducible refine (r10_MayVec.calls a2_0 a2_1 a2_2 true _ A5.out).mono ?_);rintro e w25 ⟨rfl, hb⟩;refine ⟨_, rfl, ?_⟩;have n0_ := Aside0.mk (Kd.R_below (by (with_reducible repeat (first|apply Kd.R_alloc|apply Kd.R_drewN|apply Kd.R_drew));exact HO5.out) hb);have n1_ := Aside0.mk (blk_below (g := gb1) (o := .cells #[.int .i64 a2_0, .int .i64 a2_1, .int .i64 a2_2] 27 (0, 0)) (by (with_reducible repeat (first|refine blk_drewN ?_ _|refine blk_drew ?_|refine blk_alloc ?_ _));exact BK1.out) hb);have n2_ := Aside0.mk (blk_below (g := gb2) (o := .cells #[.slice none 0 0, .int .i64 0] 67 (0, 0)) (by (with_reducible repeat (first|refine blk_drewN ?_ _|refine blk_drew ?_|refine blk_alloc ?_ _));exact BK2.out) hb);have n3_ := Aside0.mk (below_step (by repeat (first|(with_reducible first|exact HB.out|apply below_alloc|apply pw_below_drewN|apply below_drew1|refine below_set ?_ GE1.out|refine below_set ?_ GE2.out)|exact HB.out)) hb);clear HO5;clear BK1;clear BK2;clear HB;have HO5 := n0_;have BK1 := n1_;have BK2 := n2_;have HB := n3_;clear n0_ n1_ n2_ n3_;(try clear hb);(try clear hb2);(try clear hk);(try clear hi);obtain ⟨Ao26, co26, eo26⟩ := Kd.R_slice HO5.out;subst eo26)|((with_reducible refine gate_callee (f := 124) rfl ?_);refine goesL_ (some 24) rfl rfl Try.func124 (by kernel_rfl) rfl #[.slice A0 l0.length c0] rfl (by (try simp only [List.map_toArray, List.map_cons, List.map_nil]);first|done|rfl|(simp only [List.length_drop, List.length_take];rfl)) ?_;(with_reducible refine (r10_copied.calls _ _ l0 t15 _ ?side1 ?side2 A19.out).mono ?_);(case side1 => repeat (first|exact (Kd.C_below HR0.out HB.out)|(with_reducible refine Kd.C_alloc ?_ _)|(with_reducible refine Kd.C_drewN ?_ _)|(with_reducible refine Kd.C_drew ?_)));(case side2 => exact HC0.out);rintro e w27 ⟨v16, rfl, ho0, hb⟩;refine ⟨_, rfl, ?_⟩;have n0_ := Aside0.mk (Kd.R_below (by (with_reducible repeat (first|apply Kd.R_alloc|apply Kd.R_drewN|apply Kd.R_drew));exact HO5.out) hb);have n1_ := Aside0.mk (Kd.R_lower ho0 (below_size (by repeat (first|(with_reducible first|exact HB.out|apply below_alloc|apply pw_below_drewN|apply below_drew1|refine below_set ?_ GE1.out|refine below_set ?_ GE2.out)|exact HB.out))));have n2_ := Aside0.mk (blk_below (g := gb1) (o := .cells #[.int .i64 a2_0, .int .i64 a2_1, .int .i64 a2_2] 27 (0, 0)) (by (with_reducible repeat (first|refine blk_drewN ?_ _|refine blk_drew ?_|refine blk_alloc ?_ _));exact BK1.out) hb);have n3_ := Aside0.mk (blk_below (g := gb2) (o := .cells #[.slice none 0 0, .int .i64 0] 67 (0, 0)) (by (with_reducible repeat (first|refine blk_drewN ?_ _|refine blk_drew ?_|refine blk_alloc ?_ _));exact BK2.out) hb);have n4_ := Aside0.mk (below_step (by repeat (first|(with_reducible first|exact HB.out|apply below_alloc|apply pw_below_drewN|apply below_drew1|refine below_set ?_ GE1.out|refine below_set ?_ GE2.out)|exact HB.out)) hb);clear HO5;clear BK1;clear BK2;clear HB;have HO5 := n0_;have HO17 := n1_;have BK1 := n2_;have BK2 := n3_;have HB := n4_;clear n0_ n1_ n2_ n3_ n4_;(try clear hb);(try clear hb2);(try clear hk);(try clear hi);(try clear ho0)))
   go_loopg [9] k (fun kq v9 w' => ∃ (x8_1 : List (S31)) (x9_1 : Int) (x3001_1 : Int), v9 = .int .i64 x9_1 ∧ Aside0 (r10_Admit.l0 kq a1 t3 x8_1 x9_1 a2_0 a2_1 a2_2 = some (r1, r2)) ∧ Aside0 (kq ≤ k) ∧ Aside0 (Kd.R Kd.string 9 w' w.heap.size (fun _ => True) (.slice Ao26 t3.length co26) t3) ∧ Aside0 (Kd.R k31 31 w' w.heap.size (fun _ => True) v16 x8_1) ∧ Aside0 (w'.heap[gb1]? = some (.cells #[.int .i64 a2_0, .int .i64 a2_1, .int .i64 a2_2] 27 (0, 0))) ∧ Aside0 (w'.heap[gb2]? = some (.cells #[(.slice none 0 0), .int .i64 x3001_1] 67 (0, 0))) ∧ Aside0 (Below w.heap.size w w'))
   case atStart => exact ⟨(t15), (0), (0), (by first|rfl|(simp;done)|(simp [*];done)), H', ⟨Nat.le_refl _⟩, ⟨by (with_reducible repeat (first|apply Kd.R_alloc|apply Kd.R_drewN|apply Kd.R_drew));exact HO5.out⟩, ⟨by (with_reducible repeat (first|apply Kd.R_alloc|apply Kd.R_drewN|apply Kd.R_drew));exact HO17.out⟩, ⟨by (with_reducible repeat (first|refine blk_drewN ?_ _|refine blk_drew ?_|refine blk_alloc ?_ _));exact BK1.out⟩, ⟨by (with_reducible repeat (first|refine blk_drewN ?_ _|refine blk_drew ?_|refine blk_alloc ?_ _));exact BK2.out⟩, ⟨by repeat (first|(with_reducible first|exact HB.out|apply below_alloc|apply pw_below_drewN|apply below_drew1|refine below_set ?_ GE1.out|refine below_set ?_ GE2.out)|exact HB.out)⟩⟩
   case round =>
    clear H'
    try clear c1
    try clear c2
    try clear p2
    try clear c6
    try clear c7
    try clear c7b0
    try clear c7b1
    try clear c7b2
    try clear c10
    try clear c11
    try clear c12
    try clear c23
    try clear hcz13_0
    try clear hcz13_1
    try clear hcz13_2
    try clear hcz18_0
    try clear hcz18_1
    try clear hcz24_0
    try clear hcz24_1
    try clear hcz24_2
    try clear hfz13_0
    try clear hfz13_1
    try clear hfz13_2
    try clear hfz18_0
    try clear hfz18_1
    try clear hfz24_0
    try clear hfz24_1
    try clear hfz24_2
    obtain ⟨x8_1, x9_1, x3001_1, rfl, HA, HK1, HO_7, HO_8, BK1, BK2, HB⟩ := hrel
    cases gk with
    | zero => exact absurd HA.out (by simp [r10_Admit.l0])
    | succ k1 =>
     have H := HA.out
     clear HA
     simp only [r10_Admit.l0] at H
     by_cases c28 : x9_1 < (t3.length : Int)
     ·rw [if_pos c28] at H
      have c28b0 : decide (x9_1 < (t3.length : Int)) = true := decide_eq_true c28
      clear c28
      by_cases c29 : 0 ≤ x9_1
      ·rw [if_pos c29] at H
       have c29b0 : decide (0 ≤ x9_1) = true := decide_eq_true c29
       clear c29
       replace H := Option.bind_eq_some_iff.mp H
       obtain ⟨t25, A300, H⟩ := H
       replace H : (if 0 ≤ t25 then (if t25 < (x8_1.length : Int) then ((r10_Add.f ((rd_T31 x8_1 t25).f4.f0) ((rd_T31 x8_1 t25).f4.f1) ((rd_T31 x8_1 t25).f4.f2) a2_0 a2_1 a2_2).bind fun bt27 => ((some (x8_1.set (t25 : Int).toNat (⟨(rd_T31 x8_1 t25).f0, (rd_T31 x8_1 t25).f1, (⟨(rd_T31 x8_1 t25).f2.f0, (rd_T31 x8_1 t25).f2.f1, (rd_T31 x8_1 t25).f2.f2⟩ : S27), (⟨(rd_T31 x8_1 t25).f3.f0, (rd_T31 x8_1 t25).f3.f1, (rd_T31 x8_1 t25).f3.f2⟩ : S27), (⟨bt27.1, bt27.2.1, bt27.2.2⟩ : S27), (rd_T31 x8_1 t25).f5⟩ : S31) : List (S31))).bind fun y30 => ((r10_Le.f ((rd_T31 y30 t25).f4.f0) ((rd_T31 y30 t25).f4.f1) ((rd_T31 y30 t25).f4.f2) ((rd_T31 y30 t25).f2.f0) ((rd_T31 y30 t25).f2.f1) ((rd_T31 y30 t25).f2.f2)).bind fun t33 => (if t33 = true then (r10_Admit.l0 k1 a1 t3 y30 (wrap64 (x9_1 + 1)) a2_0 a2_1 a2_2) else ((r10_no.f 12).bind fun bt34 => (some (bt34.1, bt34.2))))))) else (none)) else (none)) = some (r1, r2) := H
       have A30 := Aside0.mk A300
       clear A300
       by_cases c31 : 0 ≤ t25
       ·rw [if_pos c31] at H
        have c31b0 : decide (0 ≤ t25) = true := decide_eq_true c31
        clear c31
        by_cases c32 : t25 < (x8_1.length : Int)
        ·rw [if_pos c32] at H
         have c32b0 : decide (t25 < (x8_1.length : Int)) = true := decide_eq_true c32
         clear c32
         replace H := Option.bind_eq_some_iff.mp H
         obtain ⟨⟨t27, t28, t29⟩, A330, H⟩ := H
         replace H : ((some (x8_1.set (t25 : Int).toNat (⟨(rd_T31 x8_1 t25).f0, (rd_T31 x8_1 t25).f1, (⟨(rd_T31 x8_1 t25).f2.f0, (rd_T31 x8_1 t25).f2.f1, (rd_T31 x8_1 t25).f2.f2⟩ : S27), (⟨(rd_T31 x8_1 t25).f3.f0, (rd_T31 x8_1 t25).f3.f1, (rd_T31 x8_1 t25).f3.f2⟩ : S27), (⟨t27, t28, t29⟩ : S27), (rd_T31 x8_1 t25).f5⟩ : S31) : List (S31))).bind fun y30 => ((r10_Le.f ((rd_T31 y30 t25).f4.f0) ((rd_T31 y30 t25).f4.f1) ((rd_T31 y30 t25).f4.f2) ((rd_T31 y30 t25).f2.f0) ((rd_T31 y30 t25).f2.f1) ((rd_T31 y30 t25).f2.f2)).bind fun t33 => (if t33 = true then (r10_Admit.l0 k1 a1 t3 y30 (wrap64 (x9_1 + 1)) a2_0 a2_1 a2_2) else ((r10_no.f 12).bind fun bt34 => (some (bt34.1, bt34.2)))))) = some (r1, r2) := H
         have A33 := Aside0.mk A330
         clear A330
         obtain ⟨y30, hy30⟩ : ∃ y_ : List (S31), y_ = (x8_1.set (t25 : Int).toNat (⟨(rd_T31 x8_1 t25).f0, (rd_T31 x8_1 t25).f1, (⟨(rd_T31 x8_1 t25).f2.f0, (rd_T31 x8_1 t25).f2.f1, (rd_T31 x8_1 t25).f2.f2⟩ : S27), (⟨(rd_T31 x8_1 t25).f3.f0, (rd_T31 x8_1 t25).f3.f1, (rd_T31 x8_1 t25).f3.f2⟩ : S27), (⟨t27, t28, t29⟩ : S27), (rd_T31 x8_1 t25).f5⟩ : S31)) := ⟨_, rfl⟩
         replace H : ((r10_Le.f ((rd_T31 y30 t25).f4.f0) ((rd_T31 y30 t25).f4.f1) ((rd_T31 y30 t25).f4.f2) ((rd_T31 y30 t25).f2.f0) ((rd_T31 y30 t25).f2.f1) ((rd_T31 y30 t25).f2.f2)).bind fun t33 => (if t33 = true then (r10_Admit.l0 k1 a1 t3 y30 (wrap64 (x9_1 + 1)) a2_0 a2_1 a2_2) else ((r10_no.f 12).bind fun bt34 => (some (bt34.1, bt34.2))))) = some (r1, r2) := by first|(rw [hy30];with_reducible exact H)|(have H2_ := (Option.bind_some _ _).symm.trans H;rw [hy30];with_reducible exact H2_)|(have H2_ := (Option.bind_some _ _).symm.trans H;with_reducible exact H2_)|with_reducible exact H|(rw [hy30];exact H)|exact H
         have Ny30 := Aside0.mk hy30
         clear hy30
         replace H := Option.bind_eq_some_iff.mp H
         obtain ⟨t33, A350, H⟩ := H
         replace H : (if t33 = true then (r10_Admit.l0 k1 a1 t3 y30 (wrap64 (x9_1 + 1)) a2_0 a2_1 a2_2) else ((r10_no.f 12).bind fun bt34 => (some (bt34.1, bt34.2)))) = some (r1, r2) := H
         have A35 := Aside0.mk A350
         clear A350
         by_cases c36 : t33 = true
         ·subst c36
          have H1 : (r10_Admit.l0 k1 a1 t3 y30 (wrap64 (x9_1 + 1)) a2_0 a2_1 a2_2) = some (r1, r2) := by rw [if_pos rfl] at H; exact H
          clear H
          have H := H1
          clear H1
          have H' := Aside0.mk H
          clear H
          have p24 : 0 ≤ (x9_1 : Int) := of_decide_eq_true (by first|(with_reducible assumption)|assumption)
          have q24 : x9_1 < (t3.length : Int) := of_decide_eq_true (by first|(with_reducible assumption)|assumption)
          obtain ⟨ad24, e24, hx24_0⟩ := Kd.at_string (Kd.R_reads' HO_7.out).2.2 x9_1 p24 q24
          cases e24
          replace p24 := eq_true p24
          replace q24 := eq_true q24
          obtain ⟨Ao37, co37, eo37⟩ := Kd.R_slice HO_8.out
          subst eo37
          try go_wp2_with (first|((with_reducible refine gate_callee (f := 50) rfl ?_);refine goesL_ (some 36) rfl rfl Try.func50 (by kernel_rfl) rfl #[.slice Ao37 x8_1.length co37, .string (rdOf ByteArray.empty t3 x9_1)] rfl (by (try simp only [List.map_toArray, List.map_cons, List.map_nil]);first|done|rfl|(simp only [List.length_drop, List.length_take];rfl)) ?_;(with_reducible refine (r10_Find.calls k1 _ _ x8_1 (rdOf ByteArray.empty t3 x9_1) t25 _ ?side1 ?side2 A30.out).mono ?_);(case side1 => repeat (first|exact (Kd.R_reads' HO_8.out).2.2|(with_reducible refine Kd.C_alloc ?_ _)|(with_reducible refine Kd.C_drewN ?_ _)|(with_reducible refine Kd.C_drew ?_)));(case side2 => exact (Kd.R_reads' HO_8.out).2.1);rintro e w' ⟨rfl, ⟨nd, rfl⟩⟩;refine ⟨_, rfl, ?_⟩;(try (rw [drewN_self wr];generalize hq_ : World.drewN wr _ = wr;have n0_ : Aside0 (Kd.R Kd.string 9 wr w.heap.size (fun _ => True) (.slice (some ad24) t3.length co26) t3) := ⟨by rw [← hq_];exact (by (with_reducible repeat (first|apply Kd.R_alloc|apply Kd.R_drewN|apply Kd.R_drew));exact HO_7.out)⟩;have n1_ : Aside0 (Kd.R k31 31 wr w.heap.size (fun _ => True) (.slice Ao37 x8_1.length co37) x8_1) := ⟨by rw [← hq_];exact (by (with_reducible repeat (first|apply Kd.R_alloc|apply Kd.R_drewN|apply Kd.R_drew));exact HO_8.out)⟩;have n2_ : Aside0 (wr.heap[gb1]? = some (.cells #[.int .i64 a2_0, .int .i64 a2_1, .int .i64 a2_2] 27 (0, 0))) := ⟨by rw [← hq_];exact (by (with_reducible repeat (first|refine blk_drewN ?_ _|refine blk_drew ?_|refine blk_alloc ?_ _));exact BK1.out)⟩;have n3_ : Aside0 (wr.heap[gb2]? = some (.cells #[.slice none 0 0, .int .i64 x3001_1] 67 (0, 0))) := ⟨by rw [← hq_];exact (by (with_reducible repeat (first|refine blk_drewN ?_ _|refine blk_drew ?_|refine blk_alloc ?_ _));exact BK2.out)⟩;have n4_ : Aside0 (Below w.heap.size w wr) := ⟨by rw [← hq_];exact (by repeat (first|(with_reducible first|exact HB.out|apply below_alloc|apply pw_below_drewN|apply below_drew1|refine below_set ?_ GE1.out|refine below_set ?_ GE2.out)|exact HB.out))⟩;clear HO_7 HO_8 BK1 BK2 HB hq_;have HO_7 := n0_;have HO_8 := n1_;have BK1 := n2_;have BK2 := n3_;have HB := n4_;clear n0_ n1_ n2_ n3_ n4_))))
          have n0_ := Aside0.mk (Kd.R_drew HO_7.out)
          have n1_ := Aside0.mk (Kd.R_drew HO_8.out)
          have n2_ := Aside0.mk (blk_drew BK1.out)
          have n3_ := Aside0.mk (blk_drew BK2.out)
          have n4_ := Aside0.mk (below_drew1 HB.out)
          clear HO_7
          clear HO_8
          clear BK1
          clear BK2
          clear HB
          have HO_7 := n0_
          have HO_8 := n1_
          have BK1 := n2_
          have BK2 := n3_
          have HB := n4_
          clear n0_ n1_ n2_ n3_ n4_
          have p26 : 0 ≤ (t25 : Int) := of_decide_eq_true (by first|(with_reducible assumption)|assumption)
          have q26 : t25 < (x8_1.length : Int) := of_decide_eq_true (by first|(with_reducible assumption)|assumption)
          obtain ⟨ad26, e26, hx26_0, hx26_1, hx26_2, hx26_3, hx26_4, hx26_5, hx26_6, hx26_7, hx26_8, hx26_9, hx26_10, hx26_11⟩ := at_T31 (Kd.R_reads' HO_8.out).2.2 t25 p26 q26
          cases e26
          replace p26 := eq_true p26
          replace q26 := eq_true q26
          refine start_ (n := 12) (S := fun w' => w'.cell? ⟨gb1, 0, none⟩ = some (.int .i64 a2_0) ∧ w'.cell? ⟨gb1, 1, none⟩ = some (.int .i64 a2_1) ∧ w'.cell? ⟨gb1, 2, none⟩ = some (.int .i64 a2_2) ∧ w'.cell? (ad26.add ((t25).toNat * 12)) = some (.string ((rd_T31 x8_1 t25).f0)) ∧ w'.cell? ⟨(ad26.add ((t25).toNat * 12)).block, (ad26.add ((t25).toNat * 12)).off + 1, none⟩ = some (.string ((rd_T31 x8_1 t25).f1)) ∧ w'.cell? ⟨(ad26.add ((t25).toNat * 12)).block, (ad26.add ((t25).toNat * 12)).off + 2, none⟩ = some (.int .i64 ((rd_T31 x8_1 t25).f2.f0)) ∧ w'.cell? ⟨(ad26.add ((t25).toNat * 12)).block, (ad26.add ((t25).toNat * 12)).off + 3, none⟩ = some (.int .i64 ((rd_T31 x8_1 t25).f2.f1)) ∧ w'.cell? ⟨(ad26.add ((t25).toNat * 12)).block, (ad26.add ((t25).toNat * 12)).off + 4, none⟩ = some (.int .i64 ((rd_T31 x8_1 t25).f2.f2)) ∧ w'.cell? ⟨(ad26.add ((t25).toNat * 12)).block, (ad26.add ((t25).toNat * 12)).off + 5, none⟩ = some (.int .i64 ((rd_T31 x8_1 t25).f3.f0)) ∧ w'.cell? ⟨(ad26.add ((t25).toNat * 12)).block, (ad26.add ((t25).toNat * 12)).off + 6, none⟩ = some (.int .i64 ((rd_T31 x8_1 t25).f3.f1)) ∧ w'.cell? ⟨(ad26.add ((t25).toNat * 12)).block, (ad26.add ((t25).toNat * 12)).off + 7, none⟩ = some (.int .i64 ((rd_T31 x8_1 t25).f3.f2)) ∧ w'.cell? ⟨(ad26.add ((t25).toNat * 12)).block, (ad26.add ((t25).toNat * 12)).off + 8, none⟩ = some (.int .i64 ((rd_T31 x8_1 t25).f4.f0)) ∧ w'.cell? ⟨(ad26.add ((t25).toNat * 12)).block, (ad26.add ((t25).toNat * 12)).off + 9, none⟩ = some (.int .i64 ((rd_T31 x8_1 t25).f4.f1)) ∧ w'.cell? ⟨(ad26.add ((t25).toNat * 12)).block, (ad26.add ((t25).toNat * 12)).off + 10, none⟩ = some (.int .i64 ((rd_T31 x8_1 t25).f4.f2)) ∧ w'.cell? ⟨(ad26.add ((t25).toNat * 12)).block, (ad26.add ((t25).toNat * 12)).off + 11, none⟩ = some (.int .i64 ((rd_T31 x8_1 t25).f5))) (ds := [11]) #[false, false, false, false, false, false, false, false, false, false, false, false] (by kernel_rfl) rfl rfl ⟨(blk_cell BK1.out 0).trans rfl, (blk_cell BK1.out 1).trans rfl, (blk_cell BK1.out 2).trans rfl, hx26_0, hx26_1, hx26_2, hx26_3, hx26_4, hx26_5, hx26_6, hx26_7, hx26_8, hx26_9, hx26_10, hx26_11⟩ (fun hHeld => ?_); refine with_tabW r10_Admit.tab11 r10_Admit.bits11 (fun HT_ HW_ => ?_)
          generalize wr.drew = w38 at HO_7 HO_8 BK1 BK2 HB hx26_0 hx26_1 hx26_10 hx26_11 hx26_2 hx26_3 hx26_4 hx26_5 hx26_6 hx26_7 hx26_8 hx26_9 hHeld ⊢
          refine pure_ (i := 0) (N := some 37) (v := ?_) (a' := ?_) #[true, false, false, false, false, false, false, false, false, false, false, false] rfl rfl (any_of HT_.out (by kernel_rfl)) (fun _ _ _ h => h) (Or.inl ⟨by rfl, ?_⟩) ?_ ?_
          rotate_left
          ·intro w'
           go_simp
           with_reducible rfl
          rotate_left
          ·simp only [Act.put, List.setIfInBounds_toArray, List.set_cons_zero, List.set_cons_succ, i64_w, i32_w]
           rfl
          refine pure_ (i := 1) (N := some 38) (v := ?_) (a' := ?_) #[true, true, false, false, false, false, false, false, false, false, false, false] rfl rfl (any_of HT_.out (by kernel_rfl)) (fun _ _ _ h => h) (Or.inl ⟨by rfl, ?_⟩) ?_ ?_
          rotate_left
          ·intro w'
           go_simp
           with_reducible rfl
          rotate_left
          ·simp only [Act.put, List.setIfInBounds_toArray, List.set_cons_zero, List.set_cons_succ, i64_w, i32_w]
           rfl
          refine pure_ (i := 2) (N := some 39) (v := ?_) (a' := ?_) #[true, true, true, false, false, false, false, false, false, false, false, false] rfl rfl (any_of HT_.out (by kernel_rfl)) (fun _ _ _ h => h) (Or.inl ⟨by rfl, ?_⟩) ?_ ?_
          rotate_left
          ·intro w'
           go_simp
           with_reducible rfl
          rotate_left
          ·simp only [Act.put, List.setIfInBounds_toArray, List.set_cons_zero, List.set_cons_succ, i64_w, i32_w]
           rfl
          refine pure_ (i := 3) (N := some 40) (v := ?_) (a' := ?_) #[true, true, true, true, false, false, false, false, false, false, false, false] rfl rfl (any_of HT_.out (by kernel_rfl)) (fun _ _ _ h => h) (Or.inl ⟨by rfl, ?_⟩) ?_ ?_
          rotate_left
          ·intro w'
           go_simp
           with_reducible rfl
          rotate_left
          ·simp only [Act.put, List.setIfInBounds_toArray, List.set_cons_zero, List.set_cons_succ, i64_w, i32_w]
           rfl
          refine pure_ (i := 4) (N := some 41) (v := ?_) (a' := ?_) #[true, true, true, true, true, false, false, false, false, false, false, false] rfl rfl (any_of HT_.out (by kernel_rfl)) (fun _ _ _ h => h) (Or.inl ⟨by rfl, ?_⟩) ?_ ?_
          rotate_left
          ·intro w'
           go_simp
           with_reducible rfl
          rotate_left
          ·simp only [Act.put, List.setIfInBounds_toArray, List.set_cons_zero, List.set_cons_succ, i64_w, i32_w]
           rfl
          refine pure_ (i := 5) (N := some 42) (v := ?_) (a' := ?_) #[true, true, true, true, true, true, false, false, false, false, false, false] rfl rfl (any_of HT_.out (by kernel_rfl)) (fun _ _ _ h => h) (Or.inl ⟨by rfl, ?_⟩) ?_ ?_
          rotate_left
          ·intro w'
           go_simp
           with_reducible rfl
          rotate_left
          ·simp only [Act.put, List.setIfInBounds_toArray, List.set_cons_zero, List.set_cons_succ, i64_w, i32_w]
           rfl
          refine take_ (i := 6) (N := some 43) (v := ?_) (a' := ?_) #[true, true, true, true, true, true, true, false, false, false, false, false] rfl rfl (take_ofW HT_.out HW_.out (by kernel_rfl)) (fun _ _ _ h => h) (Or.inl ⟨by rfl, ?_⟩) hHeld ?_ ?_
          rotate_left
          ·rintro w' ⟨s0, s1, s2, s3, s4, s5, s6, s7, s8, s9, s10, s11, s12, s13, s14⟩
           go_simp
           with_reducible rfl
          rotate_left
          ·simp only [Act.put, List.setIfInBounds_toArray, List.set_cons_zero, List.set_cons_succ, i64_w, i32_w]
           rfl
          refine take_ (i := 7) (N := some 44) (v := ?_) (a' := ?_) #[true, true, true, true, true, true, true, true, false, false, false, false] rfl rfl (take_ofW HT_.out HW_.out (by kernel_rfl)) (fun _ _ _ h => h) (Or.inl ⟨by rfl, ?_⟩) hHeld ?_ ?_
          rotate_left
          ·rintro w' ⟨s0, s1, s2, s3, s4, s5, s6, s7, s8, s9, s10, s11, s12, s13, s14⟩
           go_simp
           with_reducible rfl
          rotate_left
          ·simp only [Act.put, List.setIfInBounds_toArray, List.set_cons_zero, List.set_cons_succ, i64_w, i32_w]
           rfl
          refine one_ (i := 8) (N := some 45) #[true, true, true, true, true, true, true, true, true, false, false, false] rfl rfl (one_of HT_.out (by kernel_rfl)) (by decide) (fun K hK => ?_)
          refine goes_ Try.func63 (by kernel_rfl) rfl #[.agg #[.int .i64 ((rd_T31 x8_1 t25).f4.f0), .int .i64 ((rd_T31 x8_1 t25).f4.f1), .int .i64 ((rd_T31 x8_1 t25).f4.f2)], .agg #[.int .i64 a2_0, .int .i64 a2_1, .int .i64 a2_2]] (by rfl) rfl rfl (by (try simp only [List.map_toArray, List.map_cons, List.map_nil]); first | done | rfl | (simp only [List.length_drop, List.length_take]; rfl)) ?_
          with_reducible refine (r10_Add.calls ((rd_T31 x8_1 t25).f4.f0) ((rd_T31 x8_1 t25).f4.f1) ((rd_T31 x8_1 t25).f4.f2) a2_0 a2_1 a2_2 t27 t28 t29 _ A33.out).mono ?_
          rintro e w39 ⟨rfl, hb⟩
          have HS3_ := (hb.cell (World.block_lt_of_cell? _ _ (hHeld.2.2.2.1))).trans (hHeld.2.2.2.1)
          have HS4_ := (hb.cell (World.block_lt_of_cell? _ _ (hHeld.2.2.2.2.1))).trans (hHeld.2.2.2.2.1)
          have HS5_ := (hb.cell (World.block_lt_of_cell? _ _ (hHeld.2.2.2.2.2.1))).trans (hHeld.2.2.2.2.2.1)
          have HS6_ := (hb.cell (World.block_lt_of_cell? _ _ (hHeld.2.2.2.2.2.2.1))).trans (hHeld.2.2.2.2.2.2.1)
          have HS7_ := (hb.cell (World.block_lt_of_cell? _ _ (hHeld.2.2.2.2.2.2.2.1))).trans (hHeld.2.2.2.2.2.2.2.1)
          have HS8_ := (hb.cell (World.block_lt_of_cell? _ _ (hHeld.2.2.2.2.2.2.2.2.1))).trans (hHeld.2.2.2.2.2.2.2.2.1)
          have HS9_ := (hb.cell (World.block_lt_of_cell? _ _ (hHeld.2.2.2.2.2.2.2.2.2.1))).trans (hHeld.2.2.2.2.2.2.2.2.2.1)
          have HS10_ := (hb.cell (World.block_lt_of_cell? _ _ (hHeld.2.2.2.2.2.2.2.2.2.2.1))).trans (hHeld.2.2.2.2.2.2.2.2.2.2.1)
          have HS11_ := (hb.cell (World.block_lt_of_cell? _ _ (hHeld.2.2.2.2.2.2.2.2.2.2.2.1))).trans (hHeld.2.2.2.2.2.2.2.2.2.2.2.1)
          have HS12_ := (hb.cell (World.block_lt_of_cell? _ _ (hHeld.2.2.2.2.2.2.2.2.2.2.2.2.1))).trans (hHeld.2.2.2.2.2.2.2.2.2.2.2.2.1)
          have HS13_ := (hb.cell (World.block_lt_of_cell? _ _ (hHeld.2.2.2.2.2.2.2.2.2.2.2.2.2.1))).trans (hHeld.2.2.2.2.2.2.2.2.2.2.2.2.2.1)
          have HS14_ := (hb.cell (World.block_lt_of_cell? _ _ (hHeld.2.2.2.2.2.2.2.2.2.2.2.2.2.2))).trans (hHeld.2.2.2.2.2.2.2.2.2.2.2.2.2.2)
          refine ⟨_, rfl, ?_⟩
          have n0_ := Aside0.mk (Kd.R_below (by (with_reducible repeat (first|apply Kd.R_alloc|apply Kd.R_drewN|apply Kd.R_drew));exact HO_7.out) hb)
          have n1_ := Aside0.mk (Kd.R_below (by (with_reducible repeat (first|apply Kd.R_alloc|apply Kd.R_drewN|apply Kd.R_drew));exact HO_8.out) hb)
          have n2_ := Aside0.mk (blk_below (g := gb1) (o := .cells #[.int .i64 a2_0, .int .i64 a2_1, .int .i64 a2_2] 27 (0, 0)) (by (with_reducible repeat (first|refine blk_drewN ?_ _|refine blk_drew ?_|refine blk_alloc ?_ _));exact BK1.out) hb)
          have n3_ := Aside0.mk (blk_below (g := gb2) (o := .cells #[.slice none 0 0, .int .i64 x3001_1] 67 (0, 0)) (by (with_reducible repeat (first|refine blk_drewN ?_ _|refine blk_drew ?_|refine blk_alloc ?_ _));exact BK2.out) hb)
          have n4_ := Aside0.mk (below_step (by repeat (first|(with_reducible first|exact HB.out|apply below_alloc|apply pw_below_drewN|apply below_drew1|refine below_set ?_ GE1.out|refine below_set ?_ GE2.out)|exact HB.out)) hb)
          clear HO_7
          clear HO_8
          clear BK1
          clear BK2
          clear HB
          have HO_7 := n0_
          have HO_8 := n1_
          have BK1 := n2_
          have BK2 := n3_
          have HB := n4_
          clear n0_ n1_ n2_ n3_ n4_
          (try clear hb)
          (try clear hb2)
          (try clear hk)
          (try clear hi)
          have p34 : 0 ≤ (t25 : Int) := of_decide_eq_true (by first|(with_reducible assumption)|assumption)
          have q34 : (t25 : Int) < ((x8_1.length : Int) : Int) := of_decide_eq_true (by first|(with_reducible assumption)|assumption)
          obtain ⟨go34, co34, eo34, gb34, gl34, cl34, HG34⟩ := Kd.R_form HO_8.out (by omega)
          (first | cases eo34 | (injection eo34 with ea_ en_ ec_; (first | subst ea_ | (injection ea_ with ea_; subst ea_)); subst ec_; clear en_))
          have GB34 := Aside0.mk gb34
          have GG34 := Aside0.mk HG34
          clear gb34 gl34 HG34
          (first | simp only [add_plain] at hx26_0 | skip)
          (first | simp only [add_plain] at hx26_1 | skip)
          (first | simp only [add_plain] at hx26_2 | skip)
          (first | simp only [add_plain] at hx26_3 | skip)
          (first | simp only [add_plain] at hx26_4 | skip)
          (first | simp only [add_plain] at hx26_5 | skip)
          (first | simp only [add_plain] at hx26_6 | skip)
          (first | simp only [add_plain] at hx26_7 | skip)
          (first | simp only [add_plain] at hx26_8 | skip)
          (first | simp only [add_plain] at hx26_9 | skip)
          (first | simp only [add_plain] at hx26_10 | skip)
          (first | simp only [add_plain] at hx26_11 | skip)
          obtain ⟨ce34, hcl34, hM34, hcc34, hfr34⟩ := Kd.R_elem HO_8.out z31 (t25 : Int) p34 q34
          obtain rfl := k31_openM hM34
          have hx34_0 : World.cell? _ ⟨go34, (t25 : Int).toNat * 12, none⟩ = some (.string ((rd_T31 x8_1 t25).f0)) := hcc34 0 _ rfl
          have hx34_1 : World.cell? _ ⟨go34, (t25 : Int).toNat * 12 + 1, none⟩ = some (.string ((rd_T31 x8_1 t25).f1)) := hcc34 1 _ rfl
          have hx34_2 : World.cell? _ ⟨go34, (t25 : Int).toNat * 12 + 2, none⟩ = some (.int .i64 ((rd_T31 x8_1 t25).f2.f0)) := hcc34 2 _ rfl
          have hx34_3 : World.cell? _ ⟨go34, (t25 : Int).toNat * 12 + 3, none⟩ = some (.int .i64 ((rd_T31 x8_1 t25).f2.f1)) := hcc34 3 _ rfl
          have hx34_4 : World.cell? _ ⟨go34, (t25 : Int).toNat * 12 + 4, none⟩ = some (.int .i64 ((rd_T31 x8_1 t25).f2.f2)) := hcc34 4 _ rfl
          have hx34_5 : World.cell? _ ⟨go34, (t25 : Int).toNat * 12 + 5, none⟩ = some (.int .i64 ((rd_T31 x8_1 t25).f3.f0)) := hcc34 5 _ rfl
          have hx34_6 : World.cell? _ ⟨go34, (t25 : Int).toNat * 12 + 6, none⟩ = some (.int .i64 ((rd_T31 x8_1 t25).f3.f1)) := hcc34 6 _ rfl
          have hx34_7 : World.cell? _ ⟨go34, (t25 : Int).toNat * 12 + 7, none⟩ = some (.int .i64 ((rd_T31 x8_1 t25).f3.f2)) := hcc34 7 _ rfl
          have hx34_8 : World.cell? _ ⟨go34, (t25 : Int).toNat * 12 + 8, none⟩ = some (.int .i64 ((rd_T31 x8_1 t25).f4.f0)) := hcc34 8 _ rfl
          have hx34_9 : World.cell? _ ⟨go34, (t25 : Int).toNat * 12 + 9, none⟩ = some (.int .i64 ((rd_T31 x8_1 t25).f4.f1)) := hcc34 9 _ rfl
          have hx34_10 : World.cell? _ ⟨go34, (t25 : Int).toNat * 12 + 10, none⟩ = some (.int .i64 ((rd_T31 x8_1 t25).f4.f2)) := hcc34 10 _ rfl
          have hx34_11 : World.cell? _ ⟨go34, (t25 : Int).toNat * 12 + 11, none⟩ = some (.int .i64 ((rd_T31 x8_1 t25).f5)) := hcc34 11 _ rfl
          have hf34_0 : World.frozen? _ ⟨go34, (t25 : Int).toNat * 12, none⟩ = false := hfr34 0
          have hf34_1 : World.frozen? _ ⟨go34, (t25 : Int).toNat * 12 + 1, none⟩ = false := hfr34 1
          have hf34_2 : World.frozen? _ ⟨go34, (t25 : Int).toNat * 12 + 2, none⟩ = false := hfr34 2
          have hf34_3 : World.frozen? _ ⟨go34, (t25 : Int).toNat * 12 + 3, none⟩ = false := hfr34 3
          have hf34_4 : World.frozen? _ ⟨go34, (t25 : Int).toNat * 12 + 4, none⟩ = false := hfr34 4
          have hf34_5 : World.frozen? _ ⟨go34, (t25 : Int).toNat * 12 + 5, none⟩ = false := hfr34 5
          have hf34_6 : World.frozen? _ ⟨go34, (t25 : Int).toNat * 12 + 6, none⟩ = false := hfr34 6
          have hf34_7 : World.frozen? _ ⟨go34, (t25 : Int).toNat * 12 + 7, none⟩ = false := hfr34 7
          have hf34_8 : World.frozen? _ ⟨go34, (t25 : Int).toNat * 12 + 8, none⟩ = false := hfr34 8
          have hf34_9 : World.frozen? _ ⟨go34, (t25 : Int).toNat * 12 + 9, none⟩ = false := hfr34 9
          have hf34_10 : World.frozen? _ ⟨go34, (t25 : Int).toNat * 12 + 10, none⟩ = false := hfr34 10
          have hf34_11 : World.frozen? _ ⟨go34, (t25 : Int).toNat * 12 + 11, none⟩ = false := hfr34 11
          clear hcl34 hcc34 hfr34 hM34
          replace p34 := eq_true p34
          replace q34 := eq_true q34
          obtain ⟨ce40, hcl40, hM40, hcc40, hfr40⟩ := Kd.R_elem HO_8.out z31 (t25 : Int) (of_decide_eq_true (by first|(with_reducible assumption)|assumption)) (by have h_ : (t25 : Int) < ((x8_1.length : Int) : Int) := of_decide_eq_true (by first|(with_reducible assumption)|assumption);first|exact h_|(have e_ := (Kd.R_reads' HO_8.out).1;omega)|simpa using h_)
          obtain rfl := k31_openM hM40
          have HP40 := (Kd.R_seg HO_8.out (t25 : Int) (of_decide_eq_true (by first|(with_reducible assumption)|assumption)) (by have h_ : (t25 : Int) < ((x8_1.length : Int) : Int) := of_decide_eq_true (by first|(with_reducible assumption)|assumption);first|exact h_|(have e_ := (Kd.R_reads' HO_8.out).1;omega)|simpa using h_) (seg := [.int .i64 t27, .int .i64 t28, .int .i64 t29]) (j := 8) hcl40 hcc40 (show 11 ≤ 12 from by decide) (x' := (⟨(rd_T31 x8_1 t25).f0, (rd_T31 x8_1 t25).f1, (⟨(rd_T31 x8_1 t25).f2.f0, (rd_T31 x8_1 t25).f2.f1, (rd_T31 x8_1 t25).f2.f2⟩ : S27), (⟨(rd_T31 x8_1 t25).f3.f0, (rd_T31 x8_1 t25).f3.f1, (rd_T31 x8_1 t25).f3.f2⟩ : S27), (⟨t27, t28, t29⟩ : S27), (rd_T31 x8_1 t25).f5⟩ : S31)) (k31_mkM _ _ _ (⟨(rd_T31 x8_1 t25).f0, (rd_T31 x8_1 t25).f1, (⟨(rd_T31 x8_1 t25).f2.f0, (rd_T31 x8_1 t25).f2.f1, (rd_T31 x8_1 t25).f2.f2⟩ : S27), (⟨(rd_T31 x8_1 t25).f3.f0, (rd_T31 x8_1 t25).f3.f1, (rd_T31 x8_1 t25).f3.f2⟩ : S27), (⟨t27, t28, t29⟩ : S27), (rd_T31 x8_1 t25).f5⟩ : S31) ) (fun _ hk => hk)).1
          rw [← Ny30.out] at HP40
          have HQ40 := Aside0.mk HP40
          clear hcl40 hcc40 hfr40 hM40 HP40
          refine hK.out _ _ ⟨(blk_cell BK1.out 0).trans rfl, (blk_cell BK1.out 1).trans rfl, (blk_cell BK1.out 2).trans rfl, HS3_, HS4_, HS5_, HS6_, HS7_, HS8_, HS9_, HS10_, HS11_, HS12_, HS13_, HS14_⟩ (fun hHeld => ?_)
          clear hK K
          refine norm_ (a' := ?_) ?_ ?_
          rotate_left
          ·show Act.put _ (some 45) _ = _
           simp only [Act.put, List.setIfInBounds_toArray, List.set_cons_zero, List.set_cons_succ, i64_w, i32_w]
           rfl
          refine pure_ (i := 9) (N := some 46) (v := ?_) (a' := ?_) #[true, true, true, true, true, true, true, true, true, true, false, false] rfl rfl (any_of HT_.out (by kernel_rfl)) (fun _ _ _ h => h) (Or.inl ⟨by rfl, ?_⟩) ?_ ?_
          rotate_left
          ·intro w'
           go_simp
           with_reducible rfl
          rotate_left
          ·simp only [Act.put, List.setIfInBounds_toArray, List.set_cons_zero, List.set_cons_succ, i64_w, i32_w]
           rfl
          refine pure_ (i := 10) (N := some 47) (v := ?_) (a' := ?_) #[true, true, true, true, true, true, true, true, true, true, true, false] rfl rfl (any_of HT_.out (by kernel_rfl)) (fun _ _ _ h => h) (Or.inl ⟨by rfl, ?_⟩) ?_ ?_
          rotate_left
          ·intro w'
           go_simp
           with_reducible rfl
          rotate_left
          ·simp only [Act.put, List.setIfInBounds_toArray, List.set_cons_zero, List.set_cons_succ, i64_w, i32_w]
           rfl
          refine last_ (i := 11) (N := none) #[true, true, true, true, true, true, true, true, true, true, true, true] rfl rfl (one_of HT_.out (by kernel_rfl)) (by decide) (fun K hK => ?_)
          refine skip_ (w1 := ?_) (by rfl) rfl ?_ ?_
          rotate_left
          ·go_simp
           rfl
          refine hK.out _ _ ?_
          clear hK K
          refine done_ (done_of HT_.out (by kernel_rfl)) ?_
          try go_wp2
          have n0_ : Aside0 (Kd.R Kd.string 9 (((w39.setCell ⟨go34, (t25 : Int).toNat * 12 + 8, none⟩ (.int .i64 t27)).setCell ⟨go34, (t25 : Int).toNat * 12 + 9, none⟩ (.int .i64 t28)).setCell ⟨go34, (t25 : Int).toNat * 12 + 10, none⟩ (.int .i64 t29)) w.heap.size (fun _ => True) (.slice (some ad24) t3.length co26) t3) := ⟨by (with_reducible repeat (first|apply Kd.R_alloc|apply Kd.R_drewN|apply Kd.R_drew));exact Kd.R_mono (Kd.R_far (p := ⟨go34, (t25 : Int).toNat * 12 + 10, none⟩) (Kd.R_far (p := ⟨go34, (t25 : Int).toNat * 12 + 9, none⟩) (Kd.R_far (p := ⟨go34, (t25 : Int).toNat * 12 + 8, none⟩) (Kd.R_types HO_7.out GG34.out (by decide)) (fun _ hk => hk.2) (.int .i64 t27)) (fun _ hk => hk.2) (.int .i64 t28)) (fun _ hk => hk.2) (.int .i64 t29)) (fun _ hk => trivial)⟩
          have n1_ : Aside0 (Kd.R k31 31 (((w39.setCell ⟨go34, (t25 : Int).toNat * 12 + 8, none⟩ (.int .i64 t27)).setCell ⟨go34, (t25 : Int).toNat * 12 + 9, none⟩ (.int .i64 t28)).setCell ⟨go34, (t25 : Int).toNat * 12 + 10, none⟩ (.int .i64 t29)) w.heap.size (fun _ => True) (.slice (some ⟨go34, 0, none⟩) x8_1.length co37) y30) := ⟨by (with_reducible repeat (first|apply Kd.R_alloc|apply Kd.R_drewN|apply Kd.R_drew));exact HQ40.out⟩
          have n2_ : Aside0 ((((w39.setCell ⟨go34, (t25 : Int).toNat * 12 + 8, none⟩ (.int .i64 t27)).setCell ⟨go34, (t25 : Int).toNat * 12 + 9, none⟩ (.int .i64 t28)).setCell ⟨go34, (t25 : Int).toNat * 12 + 10, none⟩ (.int .i64 t29)).heap[gb1]? = some (.cells #[.int .i64 a2_0, .int .i64 a2_1, .int .i64 a2_2] 27 (0, 0))) := ⟨by (with_reducible repeat (first|refine blk_drewN ?_ _|refine blk_drew ?_|refine blk_alloc ?_ _));refine blk_far ?_ (by have h_ := Kd.R_ne HO_8.out BK1.out (by decide);intro e_;exact h_ (by rw [e_];rfl)) _;(with_reducible repeat (first|refine blk_drewN ?_ _|refine blk_drew ?_|refine blk_alloc ?_ _));refine blk_far ?_ (by have h_ := Kd.R_ne HO_8.out BK1.out (by decide);intro e_;exact h_ (by rw [e_];rfl)) _;(with_reducible repeat (first|refine blk_drewN ?_ _|refine blk_drew ?_|refine blk_alloc ?_ _));refine blk_far ?_ (by have h_ := Kd.R_ne HO_8.out BK1.out (by decide);intro e_;exact h_ (by rw [e_];rfl)) _;(with_reducible repeat (first|refine blk_drewN ?_ _|refine blk_drew ?_|refine blk_alloc ?_ _));exact BK1.out⟩
          have n3_ : Aside0 ((((w39.setCell ⟨go34, (t25 : Int).toNat * 12 + 8, none⟩ (.int .i64 t27)).setCell ⟨go34, (t25 : Int).toNat * 12 + 9, none⟩ (.int .i64 t28)).setCell ⟨go34, (t25 : Int).toNat * 12 + 10, none⟩ (.int .i64 t29)).heap[gb2]? = some (.cells #[.slice none 0 0, .int .i64 x3001_1] 67 (0, 0))) := ⟨by (with_reducible repeat (first|refine blk_drewN ?_ _|refine blk_drew ?_|refine blk_alloc ?_ _));refine blk_far ?_ (by have h_ := Kd.R_ne HO_8.out BK2.out (by decide);intro e_;exact h_ (by rw [e_];rfl)) _;(with_reducible repeat (first|refine blk_drewN ?_ _|refine blk_drew ?_|refine blk_alloc ?_ _));refine blk_far ?_ (by have h_ := Kd.R_ne HO_8.out BK2.out (by decide);intro e_;exact h_ (by rw [e_];rfl)) _;(with_reducible repeat (first|refine blk_drewN ?_ _|refine blk_drew ?_|refine blk_alloc ?_ _));refine blk_far ?_ (by have h_ := Kd.R_ne HO_8.out BK2.out (by decide);intro e_;exact h_ (by rw [e_];rfl)) _;(with_reducible repeat (first|refine blk_drewN ?_ _|refine blk_drew ?_|refine blk_alloc ?_ _));exact BK2.out⟩
          have n4_ : Aside0 (Below w.heap.size w (((w39.setCell ⟨go34, (t25 : Int).toNat * 12 + 8, none⟩ (.int .i64 t27)).setCell ⟨go34, (t25 : Int).toNat * 12 + 9, none⟩ (.int .i64 t28)).setCell ⟨go34, (t25 : Int).toNat * 12 + 10, none⟩ (.int .i64 t29))) := ⟨by repeat (first|(with_reducible first|exact HB.out|apply below_alloc|apply pw_below_drewN|apply below_drew1|refine below_set ?_ GB34.out|refine below_set ?_ GB34.out|refine below_set ?_ GB34.out|refine below_set ?_ GE1.out|refine below_set ?_ GE2.out)|exact HB.out)⟩
          (try clear HO_7)
          (try clear HO_8)
          (try clear BK1)
          (try clear BK2)
          (try clear HB)
          generalize (((w39.setCell ⟨go34, (t25 : Int).toNat * 12 + 8, none⟩ (.int .i64 t27)).setCell ⟨go34, (t25 : Int).toNat * 12 + 9, none⟩ (.int .i64 t28)).setCell ⟨go34, (t25 : Int).toNat * 12 + 10, none⟩ (.int .i64 t29)) = w41 at n0_ n1_ n2_ n3_ n4_ ⊢
          have HO_7 := n0_
          have HO_8 := n1_
          have BK1 := n2_
          have BK2 := n3_
          have HB := n4_
          clear n0_ n1_ n2_ n3_ n4_
          have n0_ := Aside0.mk (Kd.R_drew HO_7.out)
          have n1_ := Aside0.mk (Kd.R_drew HO_8.out)
          have n2_ := Aside0.mk (blk_drew BK1.out)
          have n3_ := Aside0.mk (blk_drew BK2.out)
          have n4_ := Aside0.mk (below_drew1 HB.out)
          clear HO_7
          clear HO_8
          clear BK1
          clear BK2
          clear HB
          have HO_7 := n0_
          have HO_8 := n1_
          have BK1 := n2_
          have BK2 := n3_
          have HB := n4_
          clear n0_ n1_ n2_ n3_ n4_
          have p31 : 0 ≤ (t25 : Int) := of_decide_eq_true (by first|(with_reducible assumption)|assumption)
          have q31 : t25 < (y30.length : Int) := (by have h_ : (t25 : Int) < ((x8_1.length : Int) : Int) := of_decide_eq_true (by first|(with_reducible assumption)|assumption);first|(have e_ := (Kd.R_reads' HO_8.out).1;omega)|simpa only [Ny30.out, List.length_set] using h_)
          have ql31 : ((t25 : Int) < ((x8_1.length : Int) : Int)) = True := eq_true (of_decide_eq_true (by first|(with_reducible assumption)|assumption))
          obtain ⟨ad31, e31, hx31_0, hx31_1, hx31_2, hx31_3, hx31_4, hx31_5, hx31_6, hx31_7, hx31_8, hx31_9, hx31_10, hx31_11⟩ := at_T31 (Kd.R_reads' HO_8.out).2.2 t25 p31 q31
          obtain rfl : (⟨go34, 0, none⟩ : Addr) = ad31 := (by injection e31)
          (first | simp only [add_plain] at hx31_0 | simp only [add_at] at hx31_0 | simp only [Addr.add, Nat.zero_add] at hx31_0 | skip)
          (first | simp only [add_plain] at hx31_1 | simp only [add_at] at hx31_1 | simp only [Addr.add, Nat.zero_add] at hx31_1 | skip)
          (first | simp only [add_plain] at hx31_2 | simp only [add_at] at hx31_2 | simp only [Addr.add, Nat.zero_add] at hx31_2 | skip)
          (first | simp only [add_plain] at hx31_3 | simp only [add_at] at hx31_3 | simp only [Addr.add, Nat.zero_add] at hx31_3 | skip)
          (first | simp only [add_plain] at hx31_4 | simp only [add_at] at hx31_4 | simp only [Addr.add, Nat.zero_add] at hx31_4 | skip)
          (first | simp only [add_plain] at hx31_5 | simp only [add_at] at hx31_5 | simp only [Addr.add, Nat.zero_add] at hx31_5 | skip)
          (first | simp only [add_plain] at hx31_6 | simp only [add_at] at hx31_6 | simp only [Addr.add, Nat.zero_add] at hx31_6 | skip)
          (first | simp only [add_plain] at hx31_7 | simp only [add_at] at hx31_7 | simp only [Addr.add, Nat.zero_add] at hx31_7 | skip)
          (first | simp only [add_plain] at hx31_8 | simp only [add_at] at hx31_8 | simp only [Addr.add, Nat.zero_add] at hx31_8 | skip)
          (first | simp only [add_plain] at hx31_9 | simp only [add_at] at hx31_9 | simp only [Addr.add, Nat.zero_add] at hx31_9 | skip)
          (first | simp only [add_plain] at hx31_10 | simp only [add_at] at hx31_10 | simp only [Addr.add, Nat.zero_add] at hx31_10 | skip)
          (first | simp only [add_plain] at hx31_11 | simp only [add_at] at hx31_11 | simp only [Addr.add, Nat.zero_add] at hx31_11 | skip)
          replace p31 := eq_true p31
          replace q31 := eq_true q31
          have p32 : 0 ≤ (t25 : Int) := of_decide_eq_true (by first|(with_reducible assumption)|assumption)
          have q32 : t25 < (y30.length : Int) := (by have h_ : (t25 : Int) < ((x8_1.length : Int) : Int) := of_decide_eq_true (by first|(with_reducible assumption)|assumption);first|(have e_ := (Kd.R_reads' HO_8.out).1;omega)|simpa only [Ny30.out, List.length_set] using h_)
          have ql32 : ((t25 : Int) < ((x8_1.length : Int) : Int)) = True := eq_true (of_decide_eq_true (by first|(with_reducible assumption)|assumption))
          obtain ⟨ad32, e32, hx32_0, hx32_1, hx32_2, hx32_3, hx32_4, hx32_5, hx32_6, hx32_7, hx32_8, hx32_9, hx32_10, hx32_11⟩ := at_T31 (Kd.R_reads' HO_8.out).2.2 t25 p32 q32
          obtain rfl : (⟨go34, 0, none⟩ : Addr) = ad32 := (by injection e32)
          (first | simp only [add_plain] at hx32_0 | simp only [add_at] at hx32_0 | simp only [Addr.add, Nat.zero_add] at hx32_0 | skip)
          (first | simp only [add_plain] at hx32_1 | simp only [add_at] at hx32_1 | simp only [Addr.add, Nat.zero_add] at hx32_1 | skip)
          (first | simp only [add_plain] at hx32_2 | simp only [add_at] at hx32_2 | simp only [Addr.add, Nat.zero_add] at hx32_2 | skip)
          (first | simp only [add_plain] at hx32_3 | simp only [add_at] at hx32_3 | simp only [Addr.add, Nat.zero_add] at hx32_3 | skip)
          (first | simp only [add_plain] at hx32_4 | simp only [add_at] at hx32_4 | simp only [Addr.add, Nat.zero_add] at hx32_4 | skip)
          (first | simp only [add_plain] at hx32_5 | simp only [add_at] at hx32_5 | simp only [Addr.add, Nat.zero_add] at hx32_5 | skip)
          (first | simp only [add_plain] at hx32_6 | simp only [add_at] at hx32_6 | simp only [Addr.add, Nat.zero_add] at hx32_6 | skip)
          (first | simp only [add_plain] at hx32_7 | simp only [add_at] at hx32_7 | simp only [Addr.add, Nat.zero_add] at hx32_7 | skip)
          (first | simp only [add_plain] at hx32_8 | simp only [add_at] at hx32_8 | simp only [Addr.add, Nat.zero_add] at hx32_8 | skip)
          (first | simp only [add_plain] at hx32_9 | simp only [add_at] at hx32_9 | simp only [Addr.add, Nat.zero_add] at hx32_9 | skip)
          (first | simp only [add_plain] at hx32_10 | simp only [add_at] at hx32_10 | simp only [Addr.add, Nat.zero_add] at hx32_10 | skip)
          (first | simp only [add_plain] at hx32_11 | simp only [add_at] at hx32_11 | simp only [Addr.add, Nat.zero_add] at hx32_11 | skip)
          replace p32 := eq_true p32
          replace q32 := eq_true q32
          refine start_ (n := 12) (S := fun w' => w'.cell? ⟨go34, (t25).toNat * 12, none⟩ = some (.string ((rd_T31 y30 t25).f0)) ∧ w'.cell? ⟨go34, (t25).toNat * 12 + 1, none⟩ = some (.string ((rd_T31 y30 t25).f1)) ∧ w'.cell? ⟨go34, (t25).toNat * 12 + 2, none⟩ = some (.int .i64 ((rd_T31 y30 t25).f2.f0)) ∧ w'.cell? ⟨go34, (t25).toNat * 12 + 3, none⟩ = some (.int .i64 ((rd_T31 y30 t25).f2.f1)) ∧ w'.cell? ⟨go34, (t25).toNat * 12 + 4, none⟩ = some (.int .i64 ((rd_T31 y30 t25).f2.f2)) ∧ w'.cell? ⟨go34, (t25).toNat * 12 + 5, none⟩ = some (.int .i64 ((rd_T31 y30 t25).f3.f0)) ∧ w'.cell? ⟨go34, (t25).toNat * 12 + 6, none⟩ = some (.int .i64 ((rd_T31 y30 t25).f3.f1)) ∧ w'.cell? ⟨go34, (t25).toNat * 12 + 7, none⟩ = some (.int .i64 ((rd_T31 y30 t25).f3.f2)) ∧ w'.cell? ⟨go34, (t25).toNat * 12 + 8, none⟩ = some (.int .i64 ((rd_T31 y30 t25).f4.f0)) ∧ w'.cell? ⟨go34, (t25).toNat * 12 + 9, none⟩ = some (.int .i64 ((rd_T31 y30 t25).f4.f1)) ∧ w'.cell? ⟨go34, (t25).toNat * 12 + 10, none⟩ = some (.int .i64 ((rd_T31 y30 t25).f4.f2)) ∧ w'.cell? ⟨go34, (t25).toNat * 12 + 11, none⟩ = some (.int .i64 ((rd_T31 y30 t25).f5)) ∧ w'.cell? ⟨go34, (t25).toNat * 12, none⟩ = some (.string ((rd_T31 y30 t25).f0)) ∧ w'.cell? ⟨go34, (t25).toNat * 12 + 1, none⟩ = some (.string ((rd_T31 y30 t25).f1)) ∧ w'.cell? ⟨go34, (t25).toNat * 12 + 2, none⟩ = some (.int .i64 ((rd_T31 y30 t25).f2.f0)) ∧ w'.cell? ⟨go34, (t25).toNat * 12 + 3, none⟩ = some (.int .i64 ((rd_T31 y30 t25).f2.f1)) ∧ w'.cell? ⟨go34, (t25).toNat * 12 + 4, none⟩ = some (.int .i64 ((rd_T31 y30 t25).f2.f2)) ∧ w'.cell? ⟨go34, (t25).toNat * 12 + 5, none⟩ = some (.int .i64 ((rd_T31 y30 t25).f3.f0)) ∧ w'.cell? ⟨go34, (t25).toNat * 12 + 6, none⟩ = some (.int .i64 ((rd_T31 y30 t25).f3.f1)) ∧ w'.cell? ⟨go34, (t25).toNat * 12 + 7, none⟩ = some (.int .i64 ((rd_T31 y30 t25).f3.f2)) ∧ w'.cell? ⟨go34, (t25).toNat * 12 + 8, none⟩ = some (.int .i64 ((rd_T31 y30 t25).f4.f0)) ∧ w'.cell? ⟨go34, (t25).toNat * 12 + 9, none⟩ = some (.int .i64 ((rd_T31 y30 t25).f4.f1)) ∧ w'.cell? ⟨go34, (t25).toNat * 12 + 10, none⟩ = some (.int .i64 ((rd_T31 y30 t25).f4.f2)) ∧ w'.cell? ⟨go34, (t25).toNat * 12 + 11, none⟩ = some (.int .i64 ((rd_T31 y30 t25).f5))) (ds := []) #[false, false, false, false, false, false, false, false, false, false, false, false] (by kernel_rfl) rfl rfl ⟨hx31_0, hx31_1, hx31_2, hx31_3, hx31_4, hx31_5, hx31_6, hx31_7, hx31_8, hx31_9, hx31_10, hx31_11, hx32_0, hx32_1, hx32_2, hx32_3, hx32_4, hx32_5, hx32_6, hx32_7, hx32_8, hx32_9, hx32_10, hx32_11⟩ (fun hHeld => ?_); refine with_tabW r10_Admit.tab12 r10_Admit.bits12 (fun HT_ HW_ => ?_)
          generalize w41.drew = w42 at HO_7 HO_8 BK1 BK2 HB HQ40 hx31_0 hx31_1 hx31_10 hx31_11 hx31_2 hx31_3 hx31_4 hx31_5 hx31_6 hx31_7 hx31_8 hx31_9 hx32_0 hx32_1 hx32_10 hx32_11 hx32_2 hx32_3 hx32_4 hx32_5 hx32_6 hx32_7 hx32_8 hx32_9 hHeld ⊢
          refine pure_ (i := 0) (N := some 48) (v := ?_) (a' := ?_) #[true, false, false, false, false, false, false, false, false, false, false, false] rfl rfl (any_of HT_.out (by kernel_rfl)) (fun _ _ _ h => h) (Or.inl ⟨by rfl, ?_⟩) ?_ ?_
          rotate_left
          ·intro w'
           go_simp
           with_reducible rfl
          rotate_left
          ·simp only [Act.put, List.setIfInBounds_toArray, List.set_cons_zero, List.set_cons_succ, i64_w, i32_w]
           rfl
          refine pure_ (i := 1) (N := some 49) (v := ?_) (a' := ?_) #[true, true, false, false, false, false, false, false, false, false, false, false] rfl rfl (any_of HT_.out (by kernel_rfl)) (fun _ _ _ h => h) (Or.inl ⟨by rfl, ?_⟩) ?_ ?_
          rotate_left
          ·intro w'
           go_simp
           with_reducible rfl
          rotate_left
          ·simp only [Act.put, List.setIfInBounds_toArray, List.set_cons_zero, List.set_cons_succ, i64_w, i32_w]
           rfl
          refine pure_ (i := 2) (N := some 50) (v := ?_) (a' := ?_) #[true, true, true, false, false, false, false, false, false, false, false, false] rfl rfl (any_of HT_.out (by kernel_rfl)) (fun _ _ _ h => h) (Or.inl ⟨by rfl, ?_⟩) ?_ ?_
          rotate_left
          ·intro w'
           go_simp
           with_reducible rfl
          rotate_left
          ·simp only [Act.put, List.setIfInBounds_toArray, List.set_cons_zero, List.set_cons_succ, i64_w, i32_w]
           rfl
          refine pure_ (i := 3) (N := some 51) (v := ?_) (a' := ?_) #[true, true, true, true, false, false, false, false, false, false, false, false] rfl rfl (any_of HT_.out (by kernel_rfl)) (fun _ _ _ h => h) (Or.inl ⟨by rfl, ?_⟩) ?_ ?_
          rotate_left
          ·intro w'
           go_simp
           with_reducible rfl
          rotate_left
          ·simp only [Act.put, List.setIfInBounds_toArray, List.set_cons_zero, List.set_cons_succ, i64_w, i32_w]
           rfl
          refine pure_ (i := 5) (N := some 53) (v := ?_) (a' := ?_) #[true, true, true, true, false, true, false, false, false, false, false, false] rfl rfl (any_of HT_.out (by kernel_rfl)) (fun _ _ _ h => h) (Or.inl ⟨by rfl, ?_⟩) ?_ ?_
          rotate_left
          ·intro w'
           go_simp
           with_reducible rfl
          rotate_left
          ·simp only [Act.put, List.setIfInBounds_toArray, List.set_cons_zero, List.set_cons_succ, i64_w, i32_w]
           rfl
          refine pure_ (i := 6) (N := some 54) (v := ?_) (a' := ?_) #[true, true, true, true, false, true, true, false, false, false, false, false] rfl rfl (any_of HT_.out (by kernel_rfl)) (fun _ _ _ h => h) (Or.inl ⟨by rfl, ?_⟩) ?_ ?_
          rotate_left
          ·intro w'
           go_simp
           with_reducible rfl
          rotate_left
          ·simp only [Act.put, List.setIfInBounds_toArray, List.set_cons_zero, List.set_cons_succ, i64_w, i32_w]
           rfl
          refine pure_ (i := 7) (N := some 55) (v := ?_) (a' := ?_) #[true, true, true, true, false, true, true, true, false, false, false, false] rfl rfl (any_of HT_.out (by kernel_rfl)) (fun _ _ _ h => h) (Or.inl ⟨by rfl, ?_⟩) ?_ ?_
          rotate_left
          ·intro w'
           go_simp
           with_reducible rfl
          rotate_left
          ·simp only [Act.put, List.setIfInBounds_toArray, List.set_cons_zero, List.set_cons_succ, i64_w, i32_w]
           rfl
          refine pure_ (i := 8) (N := some 56) (v := ?_) (a' := ?_) #[true, true, true, true, false, true, true, true, true, false, false, false] rfl rfl (any_of HT_.out (by kernel_rfl)) (fun _ _ _ h => h) (Or.inl ⟨by rfl, ?_⟩) ?_ ?_
          rotate_left
          ·intro w'
           go_simp
           with_reducible rfl
          rotate_left
          ·simp only [Act.put, List.setIfInBounds_toArray, List.set_cons_zero, List.set_cons_succ, i64_w, i32_w]
           rfl
          refine take_ (i := 4) (N := some 52) (v := ?_) (a' := ?_) #[true, true, true, true, true, true, true, true, true, false, false, false] rfl rfl (take_ofW HT_.out HW_.out (by kernel_rfl)) (fun _ _ _ h => h) (Or.inl ⟨by rfl, ?_⟩) hHeld ?_ ?_
          rotate_left
          ·rintro w' ⟨s0, s1, s2, s3, s4, s5, s6, s7, s8, s9, s10, s11, s12, s13, s14, s15, s16, s17, s18, s19, s20, s21, s22, s23⟩
           go_simp
           with_reducible rfl
          rotate_left
          ·simp only [Act.put, List.setIfInBounds_toArray, List.set_cons_zero, List.set_cons_succ, i64_w, i32_w]
           rfl
          refine take_ (i := 9) (N := some 57) (v := ?_) (a' := ?_) #[true, true, true, true, true, true, true, true, true, true, false, false] rfl rfl (take_ofW HT_.out HW_.out (by kernel_rfl)) (fun _ _ _ h => h) (Or.inl ⟨by rfl, ?_⟩) hHeld ?_ ?_
          rotate_left
          ·rintro w' ⟨s0, s1, s2, s3, s4, s5, s6, s7, s8, s9, s10, s11, s12, s13, s14, s15, s16, s17, s18, s19, s20, s21, s22, s23⟩
           go_simp
           with_reducible rfl
          rotate_left
          ·simp only [Act.put, List.setIfInBounds_toArray, List.set_cons_zero, List.set_cons_succ, i64_w, i32_w]
           rfl
          refine one_ (i := 10) (N := some 58) #[true, true, true, true, true, true, true, true, true, true, true, false] rfl rfl (one_of HT_.out (by kernel_rfl)) (by decide) (fun K hK => ?_)
          refine goes_ Try.func34 (by kernel_rfl) rfl #[.agg #[.int .i64 ((rd_T31 y30 t25).f4.f0), .int .i64 ((rd_T31 y30 t25).f4.f1), .int .i64 ((rd_T31 y30 t25).f4.f2)], .agg #[.int .i64 ((rd_T31 y30 t25).f2.f0), .int .i64 ((rd_T31 y30 t25).f2.f1), .int .i64 ((rd_T31 y30 t25).f2.f2)]] (by rfl) rfl rfl (by (try simp only [List.map_toArray, List.map_cons, List.map_nil]); first | done | rfl | (simp only [List.length_drop, List.length_take]; rfl)) ?_
          with_reducible refine (r10_Le.calls ((rd_T31 y30 t25).f4.f0) ((rd_T31 y30 t25).f4.f1) ((rd_T31 y30 t25).f4.f2) ((rd_T31 y30 t25).f2.f0) ((rd_T31 y30 t25).f2.f1) ((rd_T31 y30 t25).f2.f2) true _ A35.out).mono ?_
          rintro e w43 ⟨rfl, hb⟩
          have HS0_ := (hb.cell (World.block_lt_of_cell? _ _ (hHeld.1))).trans (hHeld.1)
          have HS1_ := (hb.cell (World.block_lt_of_cell? _ _ (hHeld.2.1))).trans (hHeld.2.1)
          have HS2_ := (hb.cell (World.block_lt_of_cell? _ _ (hHeld.2.2.1))).trans (hHeld.2.2.1)
          have HS3_ := (hb.cell (World.block_lt_of_cell? _ _ (hHeld.2.2.2.1))).trans (hHeld.2.2.2.1)
          have HS4_ := (hb.cell (World.block_lt_of_cell? _ _ (hHeld.2.2.2.2.1))).trans (hHeld.2.2.2.2.1)
          have HS5_ := (hb.cell (World.block_lt_of_cell? _ _ (hHeld.2.2.2.2.2.1))).trans (hHeld.2.2.2.2.2.1)
          have HS6_ := (hb.cell (World.block_lt_of_cell? _ _ (hHeld.2.2.2.2.2.2.1))).trans (hHeld.2.2.2.2.2.2.1)
          have HS7_ := (hb.cell (World.block_lt_of_cell? _ _ (hHeld.2.2.2.2.2.2.2.1))).trans (hHeld.2.2.2.2.2.2.2.1)
          have HS8_ := (hb.cell (World.block_lt_of_cell? _ _ (hHeld.2.2.2.2.2.2.2.2.1))).trans (hHeld.2.2.2.2.2.2.2.2.1)
          have HS9_ := (hb.cell (World.block_lt_of_cell? _ _ (hHeld.2.2.2.2.2.2.2.2.2.1))).trans (hHeld.2.2.2.2.2.2.2.2.2.1)
          have HS10_ := (hb.cell (World.block_lt_of_cell? _ _ (hHeld.2.2.2.2.2.2.2.2.2.2.1))).trans (hHeld.2.2.2.2.2.2.2.2.2.2.1)
          have HS11_ := (hb.cell (World.block_lt_of_cell? _ _ (hHeld.2.2.2.2.2.2.2.2.2.2.2.1))).trans (hHeld.2.2.2.2.2.2.2.2.2.2.2.1)
          have HS12_ := (hb.cell (World.block_lt_of_cell? _ _ (hHeld.2.2.2.2.2.2.2.2.2.2.2.2.1))).trans (hHeld.2.2.2.2.2.2.2.2.2.2.2.2.1)
          have HS13_ := (hb.cell (World.block_lt_of_cell? _ _ (hHeld.2.2.2.2.2.2.2.2.2.2.2.2.2.1))).trans (hHeld.2.2.2.2.2.2.2.2.2.2.2.2.2.1)
          have HS14_ := (hb.cell (World.block_lt_of_cell? _ _ (hHeld.2.2.2.2.2.2.2.2.2.2.2.2.2.2.1))).trans (hHeld.2.2.2.2.2.2.2.2.2.2.2.2.2.2.1)
          have HS15_ := (hb.cell (World.block_lt_of_cell? _ _ (hHeld.2.2.2.2.2.2.2.2.2.2.2.2.2.2.2.1))).trans (hHeld.2.2.2.2.2.2.2.2.2.2.2.2.2.2.2.1)
          have HS16_ := (hb.cell (World.block_lt_of_cell? _ _ (hHeld.2.2.2.2.2.2.2.2.2.2.2.2.2.2.2.2.1))).trans (hHeld.2.2.2.2.2.2.2.2.2.2.2.2.2.2.2.2.1)
          have HS17_ := (hb.cell (World.block_lt_of_cell? _ _ (hHeld.2.2.2.2.2.2.2.2.2.2.2.2.2.2.2.2.2.1))).trans (hHeld.2.2.2.2.2.2.2.2.2.2.2.2.2.2.2.2.2.1)
          have HS18_ := (hb.cell (World.block_lt_of_cell? _ _ (hHeld.2.2.2.2.2.2.2.2.2.2.2.2.2.2.2.2.2.2.1))).trans (hHeld.2.2.2.2.2.2.2.2.2.2.2.2.2.2.2.2.2.2.1)
          have HS19_ := (hb.cell (World.block_lt_of_cell? _ _ (hHeld.2.2.2.2.2.2.2.2.2.2.2.2.2.2.2.2.2.2.2.1))).trans (hHeld.2.2.2.2.2.2.2.2.2.2.2.2.2.2.2.2.2.2.2.1)
          have HS20_ := (hb.cell (World.block_lt_of_cell? _ _ (hHeld.2.2.2.2.2.2.2.2.2.2.2.2.2.2.2.2.2.2.2.2.1))).trans (hHeld.2.2.2.2.2.2.2.2.2.2.2.2.2.2.2.2.2.2.2.2.1)
          have HS21_ := (hb.cell (World.block_lt_of_cell? _ _ (hHeld.2.2.2.2.2.2.2.2.2.2.2.2.2.2.2.2.2.2.2.2.2.1))).trans (hHeld.2.2.2.2.2.2.2.2.2.2.2.2.2.2.2.2.2.2.2.2.2.1)
          have HS22_ := (hb.cell (World.block_lt_of_cell? _ _ (hHeld.2.2.2.2.2.2.2.2.2.2.2.2.2.2.2.2.2.2.2.2.2.2.1))).trans (hHeld.2.2.2.2.2.2.2.2.2.2.2.2.2.2.2.2.2.2.2.2.2.2.1)
          have HS23_ := (hb.cell (World.block_lt_of_cell? _ _ (hHeld.2.2.2.2.2.2.2.2.2.2.2.2.2.2.2.2.2.2.2.2.2.2.2))).trans (hHeld.2.2.2.2.2.2.2.2.2.2.2.2.2.2.2.2.2.2.2.2.2.2.2)
          refine ⟨_, rfl, ?_⟩
          have n0_ := Aside0.mk (Kd.R_below (by (with_reducible repeat (first|apply Kd.R_alloc|apply Kd.R_drewN|apply Kd.R_drew));exact HO_7.out) hb)
          have n1_ := Aside0.mk (Kd.R_below (by (with_reducible repeat (first|apply Kd.R_alloc|apply Kd.R_drewN|apply Kd.R_drew));exact HO_8.out) hb)
          have n2_ := Aside0.mk (blk_below (g := gb1) (o := .cells #[.int .i64 a2_0, .int .i64 a2_1, .int .i64 a2_2] 27 (0, 0)) (by (with_reducible repeat (first|refine blk_drewN ?_ _|refine blk_drew ?_|refine blk_alloc ?_ _));exact BK1.out) hb)
          have n3_ := Aside0.mk (blk_below (g := gb2) (o := .cells #[.slice none 0 0, .int .i64 x3001_1] 67 (0, 0)) (by (with_reducible repeat (first|refine blk_drewN ?_ _|refine blk_drew ?_|refine blk_alloc ?_ _));exact BK2.out) hb)
          have n4_ := Aside0.mk (below_step (by repeat (first|(with_reducible first|exact HB.out|apply below_alloc|apply pw_below_drewN|apply below_drew1|refine below_set ?_ GE1.out|refine below_set ?_ GE2.out)|exact HB.out)) hb)
          clear HO_7
          clear HO_8
          clear BK1
          clear BK2
          clear HB
          have HO_7 := n0_
          have HO_8 := n1_
          have BK1 := n2_
          have BK2 := n3_
          have HB := n4_
          clear n0_ n1_ n2_ n3_ n4_
          (try clear hb)
          (try clear hb2)
          (try clear hk)
          (try clear hi)
          refine hK.out _ _ ⟨HS0_, HS1_, HS2_, HS3_, HS4_, HS5_, HS6_, HS7_, HS8_, HS9_, HS10_, HS11_, HS12_, HS13_, HS14_, HS15_, HS16_, HS17_, HS18_, HS19_, HS20_, HS21_, HS22_, HS23_⟩ (fun hHeld => ?_)
          clear hK K
          refine norm_ (a' := ?_) ?_ ?_
          rotate_left
          ·show Act.put _ (some 58) _ = _
           simp only [Act.put, List.setIfInBounds_toArray, List.set_cons_zero, List.set_cons_succ, i64_w, i32_w]
           rfl
          refine pure_ (i := 11) (N := some 59) (v := ?_) (a' := ?_) #[true, true, true, true, true, true, true, true, true, true, true, true] rfl rfl (any_of HT_.out (by kernel_rfl)) (fun _ _ _ h => h) (Or.inl ⟨by rfl, ?_⟩) ?_ ?_
          rotate_left
          ·intro w'
           go_simp
           with_reducible rfl
          rotate_left
          ·simp only [Act.put, List.setIfInBounds_toArray, List.set_cons_zero, List.set_cons_succ, i64_w, i32_w]
           rfl
          refine done_ (done_of HT_.out (by kernel_rfl)) ?_
          try go_wp2
          go_roundg k1
          case measure => have := HK1.out; omega
          case rel => exact ⟨(y30), (wrap64 (x9_1 + 1)), (x3001_1), (by first|rfl|(simp;done)|(simp [*];done)), H', ⟨by have := HK1.out;omega⟩, ⟨by (with_reducible repeat (first|apply Kd.R_alloc|apply Kd.R_drewN|apply Kd.R_drew));exact HO_7.out⟩, ⟨by (with_reducible repeat (first|apply Kd.R_alloc|apply Kd.R_drewN|apply Kd.R_drew));exact HO_8.out⟩, ⟨by (with_reducible repeat (first|refine blk_drewN ?_ _|refine blk_drew ?_|refine blk_alloc ?_ _));exact BK1.out⟩, ⟨by (with_reducible repeat (first|refine blk_drewN ?_ _|refine blk_drew ?_|refine blk_alloc ?_ _));exact BK2.out⟩, ⟨by repeat (first|(with_reducible first|exact HB.out|apply below_alloc|apply pw_below_drewN|apply below_drew1|refine below_set ?_ GE1.out|refine below_set ?_ GE2.out)|exact HB.out)⟩⟩
         ·replace c36 := Bool.eq_false_iff.mpr c36
          subst c36
          have H1 : ((r10_no.f 12).bind fun bt34 => (some (bt34.1, bt34.2))) = some (r1, r2) := by rw [if_neg (show ¬ (false = true) by decide)] at H; exact H
          clear H
          have H := H1
          clear H1
          replace H := Option.bind_eq_some_iff.mp H
          obtain ⟨⟨t34, t37⟩, A440, H⟩ := H
          replace H : (some (t34, t37)) = some (r1, r2) := H
          have A44 := Aside0.mk A440
          clear A440
          simp only [Option.some.injEq, Prod.mk.injEq] at H
          obtain ⟨rfl, rfl⟩ := H
          have p24 : 0 ≤ (x9_1 : Int) := of_decide_eq_true (by first|(with_reducible assumption)|assumption)
          have q24 : x9_1 < (t3.length : Int) := of_decide_eq_true (by first|(with_reducible assumption)|assumption)
          obtain ⟨ad24, e24, hx24_0⟩ := Kd.at_string (Kd.R_reads' HO_7.out).2.2 x9_1 p24 q24
          cases e24
          replace p24 := eq_true p24
          replace q24 := eq_true q24
          obtain ⟨Ao45, co45, eo45⟩ := Kd.R_slice HO_8.out
          subst eo45
          try go_wp2_with (first|((with_reducible refine gate_callee (f := 50) rfl ?_);refine goesL_ (some 36) rfl rfl Try.func50 (by kernel_rfl) rfl #[.slice Ao45 x8_1.length co45, .string (rdOf ByteArray.empty t3 x9_1)] rfl (by (try simp only [List.map_toArray, List.map_cons, List.map_nil]);first|done|rfl|(simp only [List.length_drop, List.length_take];rfl)) ?_;(with_reducible refine (r10_Find.calls k1 _ _ x8_1 (rdOf ByteArray.empty t3 x9_1) t25 _ ?side1 ?side2 A30.out).mono ?_);(case side1 => repeat (first|exact (Kd.R_reads' HO_8.out).2.2|(with_reducible refine Kd.C_alloc ?_ _)|(with_reducible refine Kd.C_drewN ?_ _)|(with_reducible refine Kd.C_drew ?_)));(case side2 => exact (Kd.R_reads' HO_8.out).2.1);rintro e w' ⟨rfl, ⟨nd, rfl⟩⟩;refine ⟨_, rfl, ?_⟩;(try (rw [drewN_self wr];generalize hq_ : World.drewN wr _ = wr;have n0_ : Aside0 (Kd.R Kd.string 9 wr w.heap.size (fun _ => True) (.slice (some ad24) t3.length co26) t3) := ⟨by rw [← hq_];exact (by (with_reducible repeat (first|apply Kd.R_alloc|apply Kd.R_drewN|apply Kd.R_drew));exact HO_7.out)⟩;have n1_ : Aside0 (Kd.R k31 31 wr w.heap.size (fun _ => True) (.slice Ao45 x8_1.length co45) x8_1) := ⟨by rw [← hq_];exact (by (with_reducible repeat (first|apply Kd.R_alloc|apply Kd.R_drewN|apply Kd.R_drew));exact HO_8.out)⟩;have n2_ : Aside0 (wr.heap[gb1]? = some (.cells #[.int .i64 a2_0, .int .i64 a2_1, .int .i64 a2_2] 27 (0, 0))) := ⟨by rw [← hq_];exact (by (with_reducible repeat (first|refine blk_drewN ?_ _|refine blk_drew ?_|refine blk_alloc ?_ _));exact BK1.out)⟩;have n3_ : Aside0 (wr.heap[gb2]? = some (.cells #[.slice none 0 0, .int .i64 x3001_1] 67 (0, 0))) := ⟨by rw [← hq_];exact (by (with_reducible repeat (first|refine blk_drewN ?_ _|refine blk_drew ?_|refine blk_alloc ?_ _));exact BK2.out)⟩;have n4_ : Aside0 (Below w.heap.size w wr) := ⟨by rw [← hq_];exact (by repeat (first|(with_reducible first|exact HB.out|apply below_alloc|apply pw_below_drewN|apply below_drew1|refine below_set ?_ GE1.out|refine below_set ?_ GE2.out)|exact HB.out))⟩;clear HO_7 HO_8 BK1 BK2 HB hq_;have HO_7 := n0_;have HO_8 := n1_;have BK1 := n2_;have BK2 := n3_;have HB := n4_;clear n0_ n1_ n2_ n3_ n4_))))
          have n0_ := Aside0.mk (Kd.R_drew HO_7.out)
          have n1_ := Aside0.mk (Kd.R_drew HO_8.out)
          have n2_ := Aside0.mk (blk_drew BK1.out)
          have n3_ := Aside0.mk (blk_drew BK2.out)
          have n4_ := Aside0.mk (below_drew1 HB.out)
          clear HO_7
          clear HO_8
          clear BK1
          clear BK2
          clear HB
          have HO_7 := n0_
          have HO_8 := n1_
          have BK1 := n2_
          have BK2 := n3_
          have HB := n4_
          clear n0_ n1_ n2_ n3_ n4_
          have p26 : 0 ≤ (t25 : Int) := of_decide_eq_true (by first|(with_reducible assumption)|assumption)
          have q26 : t25 < (x8_1.length : Int) := of_decide_eq_true (by first|(with_reducible assumption)|assumption)
          obtain ⟨ad26, e26, hx26_0, hx26_1, hx26_2, hx26_3, hx26_4, hx26_5, hx26_6, hx26_7, hx26_8, hx26_9, hx26_10, hx26_11⟩ := at_T31 (Kd.R_reads' HO_8.out).2.2 t25 p26 q26
          cases e26
          replace p26 := eq_true p26
          replace q26 := eq_true q26
          refine start_ (n := 12) (S := fun w' => w'.cell? ⟨gb1, 0, none⟩ = some (.int .i64 a2_0) ∧ w'.cell? ⟨gb1, 1, none⟩ = some (.int .i64 a2_1) ∧ w'.cell? ⟨gb1, 2, none⟩ = some (.int .i64 a2_2) ∧ w'.cell? (ad26.add ((t25).toNat * 12)) = some (.string ((rd_T31 x8_1 t25).f0)) ∧ w'.cell? ⟨(ad26.add ((t25).toNat * 12)).block, (ad26.add ((t25).toNat * 12)).off + 1, none⟩ = some (.string ((rd_T31 x8_1 t25).f1)) ∧ w'.cell? ⟨(ad26.add ((t25).toNat * 12)).block, (ad26.add ((t25).toNat * 12)).off + 2, none⟩ = some (.int .i64 ((rd_T31 x8_1 t25).f2.f0)) ∧ w'.cell? ⟨(ad26.add ((t25).toNat * 12)).block, (ad26.add ((t25).toNat * 12)).off + 3, none⟩ = some (.int .i64 ((rd_T31 x8_1 t25).f2.f1)) ∧ w'.cell? ⟨(ad26.add ((t25).toNat * 12)).block, (ad26.add ((t25).toNat * 12)).off + 4, none⟩ = some (.int .i64 ((rd_T31 x8_1 t25).f2.f2)) ∧ w'.cell? ⟨(ad26.add ((t25).toNat * 12)).block, (ad26.add ((t25).toNat * 12)).off + 5, none⟩ = some (.int .i64 ((rd_T31 x8_1 t25).f3.f0)) ∧ w'.cell? ⟨(ad26.add ((t25).toNat * 12)).block, (ad26.add ((t25).toNat * 12)).off + 6, none⟩ = some (.int .i64 ((rd_T31 x8_1 t25).f3.f1)) ∧ w'.cell? ⟨(ad26.add ((t25).toNat * 12)).block, (ad26.add ((t25).toNat * 12)).off + 7, none⟩ = some (.int .i64 ((rd_T31 x8_1 t25).f3.f2)) ∧ w'.cell? ⟨(ad26.add ((t25).toNat * 12)).block, (ad26.add ((t25).toNat * 12)).off + 8, none⟩ = some (.int .i64 ((rd_T31 x8_1 t25).f4.f0)) ∧ w'.cell? ⟨(ad26.add ((t25).toNat * 12)).block, (ad26.add ((t25).toNat * 12)).off + 9, none⟩ = some (.int .i64 ((rd_T31 x8_1 t25).f4.f1)) ∧ w'.cell? ⟨(ad26.add ((t25).toNat * 12)).block, (ad26.add ((t25).toNat * 12)).off + 10, none⟩ = some (.int .i64 ((rd_T31 x8_1 t25).f4.f2)) ∧ w'.cell? ⟨(ad26.add ((t25).toNat * 12)).block, (ad26.add ((t25).toNat * 12)).off + 11, none⟩ = some (.int .i64 ((rd_T31 x8_1 t25).f5))) (ds := [11]) #[false, false, false, false, false, false, false, false, false, false, false, false] (by kernel_rfl) rfl rfl ⟨(blk_cell BK1.out 0).trans rfl, (blk_cell BK1.out 1).trans rfl, (blk_cell BK1.out 2).trans rfl, hx26_0, hx26_1, hx26_2, hx26_3, hx26_4, hx26_5, hx26_6, hx26_7, hx26_8, hx26_9, hx26_10, hx26_11⟩ (fun hHeld => ?_); refine with_tabW r10_Admit.tab11 r10_Admit.bits11 (fun HT_ HW_ => ?_)
          generalize wr.drew = w46 at HO_7 HO_8 BK1 BK2 HB hx26_0 hx26_1 hx26_10 hx26_11 hx26_2 hx26_3 hx26_4 hx26_5 hx26_6 hx26_7 hx26_8 hx26_9 hHeld ⊢
          refine pure_ (i := 0) (N := some 37) (v := ?_) (a' := ?_) #[true, false, false, false, false, false, false, false, false, false, false, false] rfl rfl (any_of HT_.out (by kernel_rfl)) (fun _ _ _ h => h) (Or.inl ⟨by rfl, ?_⟩) ?_ ?_
          rotate_left
          ·intro w'
           go_simp
           with_reducible rfl
          rotate_left
          ·simp only [Act.put, List.setIfInBounds_toArray, List.set_cons_zero, List.set_cons_succ, i64_w, i32_w]
           rfl
          refine pure_ (i := 1) (N := some 38) (v := ?_) (a' := ?_) #[true, true, false, false, false, false, false, false, false, false, false, false] rfl rfl (any_of HT_.out (by kernel_rfl)) (fun _ _ _ h => h) (Or.inl ⟨by rfl, ?_⟩) ?_ ?_
          rotate_left
          ·intro w'
           go_simp
           with_reducible rfl
          rotate_left
          ·simp only [Act.put, List.setIfInBounds_toArray, List.set_cons_zero, List.set_cons_succ, i64_w, i32_w]
           rfl
          refine pure_ (i := 2) (N := some 39) (v := ?_) (a' := ?_) #[true, true, true, false, false, false, false, false, false, false, false, false] rfl rfl (any_of HT_.out (by kernel_rfl)) (fun _ _ _ h => h) (Or.inl ⟨by rfl, ?_⟩) ?_ ?_
          rotate_left
          ·intro w'
           go_simp
           with_reducible rfl
          rotate_left
          ·simp only [Act.put, List.setIfInBounds_toArray, List.set_cons_zero, List.set_cons_succ, i64_w, i32_w]
           rfl
          refine pure_ (i := 3) (N := some 40) (v := ?_) (a' := ?_) #[true, true, true, true, false, false, false, false, false, false, false, false] rfl rfl (any_of HT_.out (by kernel_rfl)) (fun _ _ _ h => h) (Or.inl ⟨by rfl, ?_⟩) ?_ ?_
          rotate_left
          ·intro w'
           go_simp
           with_reducible rfl
          rotate_left
          ·simp only [Act.put, List.setIfInBounds_toArray, List.set_cons_zero, List.set_cons_succ, i64_w, i32_w]
           rfl
          refine pure_ (i := 4) (N := some 41) (v := ?_) (a' := ?_) #[true, true, true, true, true, false, false, false, false, false, false, false] rfl rfl (any_of HT_.out (by kernel_rfl)) (fun _ _ _ h => h) (Or.inl ⟨by rfl, ?_⟩) ?_ ?_
          rotate_left
          ·intro w'
           go_simp
           with_reducible rfl
          rotate_left
          ·simp only [Act.put, List.setIfInBounds_toArray, List.set_cons_zero, List.set_cons_succ, i64_w, i32_w]
           rfl
          refine pure_ (i := 5) (N := some 42) (v := ?_) (a' := ?_) #[true, true, true, true, true, true, false, false, false, false, false, false] rfl rfl (any_of HT_.out (by kernel_rfl)) (fun _ _ _ h => h) (Or.inl ⟨by rfl, ?_⟩) ?_ ?_
          rotate_left
          ·intro w'
           go_simp
           with_reducible rfl
          rotate_left
          ·simp only [Act.put, List.setIfInBounds_toArray, List.set_cons_zero, List.set_cons_succ, i64_w, i32_w]
           rfl
          refine take_ (i := 6) (N := some 43) (v := ?_) (a' := ?_) #[true, true, true, true, true, true, true, false, false, false, false, false] rfl rfl (take_ofW HT_.out HW_.out (by kernel_rfl)) (fun _ _ _ h => h) (Or.inl ⟨by rfl, ?_⟩) hHeld ?_ ?_
          rotate_left
          ·rintro w' ⟨s0, s1, s2, s3, s4, s5, s6, s7, s8, s9, s10, s11, s12, s13, s14⟩
           go_simp
           with_reducible rfl
          rotate_left
          ·simp only [Act.put, List.setIfInBounds_toArray, List.set_cons_zero, List.set_cons_succ, i64_w, i32_w]
           rfl
          refine take_ (i := 7) (N := some 44) (v := ?_) (a' := ?_) #[true, true, true, true, true, true, true, true, false, false, false, false] rfl rfl (take_ofW HT_.out HW_.out (by kernel_rfl)) (fun _ _ _ h => h) (Or.inl ⟨by rfl, ?_⟩) hHeld ?_ ?_
          rotate_left
          ·rintro w' ⟨s0, s1, s2, s3, s4, s5, s6, s7, s8, s9, s10, s11, s12, s13, s14⟩
           go_simp
           with_reducible rfl
          rotate_left
          ·simp only [Act.put, List.setIfInBounds_toArray, List.set_cons_zero, List.set_cons_succ, i64_w, i32_w]
           rfl
          refine one_ (i := 8) (N := some 45) #[true, true, true, true, true, true, true, true, true, false, false, false] rfl rfl (one_of HT_.out (by kernel_rfl)) (by decide) (fun K hK => ?_)
          refine goes_ Try.func63 (by kernel_rfl) rfl #[.agg #[.int .i64 ((rd_T31 x8_1 t25).f4.f0), .int .i64 ((rd_T31 x8_1 t25).f4.f1), .int .i64 ((rd_T31 x8_1 t25).f4.f2)], .agg #[.int .i64 a2_0, .int .i64 a2_1, .int .i64 a2_2]] (by rfl) rfl rfl (by (try simp only [List.map_toArray, List.map_cons, List.map_nil]); first | done | rfl | (simp only [List.length_drop, List.length_take]; rfl)) ?_
          with_reducible refine (r10_Add.calls ((rd_T31 x8_1 t25).f4.f0) ((rd_T31 x8_1 t25).f4.f1) ((rd_T31 x8_1 t25).f4.f2) a2_0 a2_1 a2_2 t27 t28 t29 _ A33.out).mono ?_
          rintro e w47 ⟨rfl, hb⟩
          have HS3_ := (hb.cell (World.block_lt_of_cell? _ _ (hHeld.2.2.2.1))).trans (hHeld.2.2.2.1)
          have HS4_ := (hb.cell (World.block_lt_of_cell? _ _ (hHeld.2.2.2.2.1))).trans (hHeld.2.2.2.2.1)
          have HS5_ := (hb.cell (World.block_lt_of_cell? _ _ (hHeld.2.2.2.2.2.1))).trans (hHeld.2.2.2.2.2.1)
          have HS6_ := (hb.cell (World.block_lt_of_cell? _ _ (hHeld.2.2.2.2.2.2.1))).trans (hHeld.2.2.2.2.2.2.1)
          have HS7_ := (hb.cell (World.block_lt_of_cell? _ _ (hHeld.2.2.2.2.2.2.2.1))).trans (hHeld.2.2.2.2.2.2.2.1)
          have HS8_ := (hb.cell (World.block_lt_of_cell? _ _ (hHeld.2.2.2.2.2.2.2.2.1))).trans (hHeld.2.2.2.2.2.2.2.2.1)
          have HS9_ := (hb.cell (World.block_lt_of_cell? _ _ (hHeld.2.2.2.2.2.2.2.2.2.1))).trans (hHeld.2.2.2.2.2.2.2.2.2.1)
          have HS10_ := (hb.cell (World.block_lt_of_cell? _ _ (hHeld.2.2.2.2.2.2.2.2.2.2.1))).trans (hHeld.2.2.2.2.2.2.2.2.2.2.1)
          have HS11_ := (hb.cell (World.block_lt_of_cell? _ _ (hHeld.2.2.2.2.2.2.2.2.2.2.2.1))).trans (hHeld.2.2.2.2.2.2.2.2.2.2.2.1)
          have HS12_ := (hb.cell (World.block_lt_of_cell? _ _ (hHeld.2.2.2.2.2.2.2.2.2.2.2.2.1))).trans (hHeld.2.2.2.2.2.2.2.2.2.2.2.2.1)
          have HS13_ := (hb.cell (World.block_lt_of_cell? _ _ (hHeld.2.2.2.2.2.2.2.2.2.2.2.2.2.1))).trans (hHeld.2.2.2.2.2.2.2.2.2.2.2.2.2.1)
          have HS14_ := (hb.cell (World.block_lt_of_cell? _ _ (hHeld.2.2.2.2.2.2.2.2.2.2.2.2.2.2))).trans (hHeld.2.2.2.2.2.2.2.2.2.2.2.2.2.2)
          refine ⟨_, rfl, ?_⟩
          have n0_ := Aside0.mk (Kd.R_below (by (with_reducible repeat (first|apply Kd.R_alloc|apply Kd.R_drewN|apply Kd.R_drew));exact HO_7.out) hb)
          have n1_ := Aside0.mk (Kd.R_below (by (with_reducible repeat (first|apply Kd.R_alloc|apply Kd.R_drewN|apply Kd.R_drew));exact HO_8.out) hb)
          have n2_ := Aside0.mk (blk_below (g := gb1) (o := .cells #[.int .i64 a2_0, .int .i64 a2_1, .int .i64 a2_2] 27 (0, 0)) (by (with_reducible repeat (first|refine blk_drewN ?_ _|refine blk_drew ?_|refine blk_alloc ?_ _));exact BK1.out) hb)
          have n3_ := Aside0.mk (blk_below (g := gb2) (o := .cells #[.slice none 0 0, .int .i64 x3001_1] 67 (0, 0)) (by (with_reducible repeat (first|refine blk_drewN ?_ _|refine blk_drew ?_|refine blk_alloc ?_ _));exact BK2.out) hb)
          have n4_ := Aside0.mk (below_step (by repeat (first|(with_reducible first|exact HB.out|apply below_alloc|apply pw_below_drewN|apply below_drew1|refine below_set ?_ GE1.out|refine below_set ?_ GE2.out)|exact HB.out)) hb)
          clear HO_7
          clear HO_8
          clear BK1
          clear BK2
          clear HB
          have HO_7 := n0_
          have HO_8 := n1_
          have BK1 := n2_
          have BK2 := n3_
          have HB := n4_
          clear n0_ n1_ n2_ n3_ n4_
          (try clear hb)
          (try clear hb2)
          (try clear hk)
          (try clear hi)
          have p34 : 0 ≤ (t25 : Int) := of_decide_eq_true (by first|(with_reducible assumption)|assumption)
          have q34 : (t25 : Int) < ((x8_1.length : Int) : Int) := of_decide_eq_true (by first|(with_reducible assumption)|assumption)
          obtain ⟨go34, co34, eo34, gb34, gl34, cl34, HG34⟩ := Kd.R_form HO_8.out (by omega)
          (first | cases eo34 | (injection eo34 with ea_ en_ ec_; (first | subst ea_ | (injection ea_ with ea_; subst ea_)); subst ec_; clear en_))
          have GB34 := Aside0.mk gb34
          have GG34 := Aside0.mk HG34
          clear gb34 gl34 HG34
          (first | simp only [add_plain] at hx26_0 | skip)
          (first | simp only [add_plain] at hx26_1 | skip)
          (first | simp only [add_plain] at hx26_2 | skip)
          (first | simp only [add_plain] at hx26_3 | skip)
          (first | simp only [add_plain] at hx26_4 | skip)
          (first | simp only [add_plain] at hx26_5 | skip)
          (first | simp only [add_plain] at hx26_6 | skip)
          (first | simp only [add_plain] at hx26_7 | skip)
          (first | simp only [add_plain] at hx26_8 | skip)
          (first | simp only [add_plain] at hx26_9 | skip)
          (first | simp only [add_plain] at hx26_10 | skip)
          (first | simp only [add_plain] at hx26_11 | skip)
          obtain ⟨ce34, hcl34, hM34, hcc34, hfr34⟩ := Kd.R_elem HO_8.out z31 (t25 : Int) p34 q34
          obtain rfl := k31_openM hM34
          have hx34_0 : World.cell? _ ⟨go34, (t25 : Int).toNat * 12, none⟩ = some (.string ((rd_T31 x8_1 t25).f0)) := hcc34 0 _ rfl
          have hx34_1 : World.cell? _ ⟨go34, (t25 : Int).toNat * 12 + 1, none⟩ = some (.string ((rd_T31 x8_1 t25).f1)) := hcc34 1 _ rfl
          have hx34_2 : World.cell? _ ⟨go34, (t25 : Int).toNat * 12 + 2, none⟩ = some (.int .i64 ((rd_T31 x8_1 t25).f2.f0)) := hcc34 2 _ rfl
          have hx34_3 : World.cell? _ ⟨go34, (t25 : Int).toNat * 12 + 3, none⟩ = some (.int .i64 ((rd_T31 x8_1 t25).f2.f1)) := hcc34 3 _ rfl
          have hx34_4 : World.cell? _ ⟨go34, (t25 : Int).toNat * 12 + 4, none⟩ = some (.int .i64 ((rd_T31 x8_1 t25).f2.f2)) := hcc34 4 _ rfl
          have hx34_5 : World.cell? _ ⟨go34, (t25 : Int).toNat * 12 + 5, none⟩ = some (.int .i64 ((rd_T31 x8_1 t25).f3.f0)) := hcc34 5 _ rfl
          have hx34_6 : World.cell? _ ⟨go34, (t25 : Int).toNat * 12 + 6, none⟩ = some (.int .i64 ((rd_T31 x8_1 t25).f3.f1)) := hcc34 6 _ rfl
          have hx34_7 : World.cell? _ ⟨go34, (t25 : Int).toNat * 12 + 7, none⟩ = some (.int .i64 ((rd_T31 x8_1 t25).f3.f2)) := hcc34 7 _ rfl
          have hx34_8 : World.cell? _ ⟨go34, (t25 : Int).toNat * 12 + 8, none⟩ = some (.int .i64 ((rd_T31 x8_1 t25).f4.f0)) := hcc34 8 _ rfl
          have hx34_9 : World.cell? _ ⟨go34, (t25 : Int).toNat * 12 + 9, none⟩ = some (.int .i64 ((rd_T31 x8_1 t25).f4.f1)) := hcc34 9 _ rfl
          have hx34_10 : World.cell? _ ⟨go34, (t25 : Int).toNat * 12 + 10, none⟩ = some (.int .i64 ((rd_T31 x8_1 t25).f4.f2)) := hcc34 10 _ rfl
          have hx34_11 : World.cell? _ ⟨go34, (t25 : Int).toNat * 12 + 11, none⟩ = some (.int .i64 ((rd_T31 x8_1 t25).f5)) := hcc34 11 _ rfl
          have hf34_0 : World.frozen? _ ⟨go34, (t25 : Int).toNat * 12, none⟩ = false := hfr34 0
          have hf34_1 : World.frozen? _ ⟨go34, (t25 : Int).toNat * 12 + 1, none⟩ = false := hfr34 1
          have hf34_2 : World.frozen? _ ⟨go34, (t25 : Int).toNat * 12 + 2, none⟩ = false := hfr34 2
          have hf34_3 : World.frozen? _ ⟨go34, (t25 : Int).toNat * 12 + 3, none⟩ = false := hfr34 3
          have hf34_4 : World.frozen? _ ⟨go34, (t25 : Int).toNat * 12 + 4, none⟩ = false := hfr34 4
          have hf34_5 : World.frozen? _ ⟨go34, (t25 : Int).toNat * 12 + 5, none⟩ = false := hfr34 5
          have hf34_6 : World.frozen? _ ⟨go34, (t25 : Int).toNat * 12 + 6, none⟩ = false := hfr34 6
          have hf34_7 : World.frozen? _ ⟨go34, (t25 : Int).toNat * 12 + 7, none⟩ = false := hfr34 7
          have hf34_8 : World.frozen? _ ⟨go34, (t25 : Int).toNat * 12 + 8, none⟩ = false := hfr34 8
          have hf34_9 : World.frozen? _ ⟨go34, (t25 : Int).toNat * 12 + 9, none⟩ = false := hfr34 9
          have hf34_10 : World.frozen? _ ⟨go34, (t25 : Int).toNat * 12 + 10, none⟩ = false := hfr34 10
          have hf34_11 : World.frozen? _ ⟨go34, (t25 : Int).toNat * 12 + 11, none⟩ = false := hfr34 11
          clear hcl34 hcc34 hfr34 hM34
          replace p34 := eq_true p34
          replace q34 := eq_true q34
          obtain ⟨ce48, hcl48, hM48, hcc48, hfr48⟩ := Kd.R_elem HO_8.out z31 (t25 : Int) (of_decide_eq_true (by first|(with_reducible assumption)|assumption)) (by have h_ : (t25 : Int) < ((x8_1.length : Int) : Int) := of_decide_eq_true (by first|(with_reducible assumption)|assumption);first|exact h_|(have e_ := (Kd.R_reads' HO_8.out).1;omega)|simpa using h_)
          obtain rfl := k31_openM hM48
          have HP48 := (Kd.R_seg HO_8.out (t25 : Int) (of_decide_eq_true (by first|(with_reducible assumption)|assumption)) (by have h_ : (t25 : Int) < ((x8_1.length : Int) : Int) := of_decide_eq_true (by first|(with_reducible assumption)|assumption);first|exact h_|(have e_ := (Kd.R_reads' HO_8.out).1;omega)|simpa using h_) (seg := [.int .i64 t27, .int .i64 t28, .int .i64 t29]) (j := 8) hcl48 hcc48 (show 11 ≤ 12 from by decide) (x' := (⟨(rd_T31 x8_1 t25).f0, (rd_T31 x8_1 t25).f1, (⟨(rd_T31 x8_1 t25).f2.f0, (rd_T31 x8_1 t25).f2.f1, (rd_T31 x8_1 t25).f2.f2⟩ : S27), (⟨(rd_T31 x8_1 t25).f3.f0, (rd_T31 x8_1 t25).f3.f1, (rd_T31 x8_1 t25).f3.f2⟩ : S27), (⟨t27, t28, t29⟩ : S27), (rd_T31 x8_1 t25).f5⟩ : S31)) (k31_mkM _ _ _ (⟨(rd_T31 x8_1 t25).f0, (rd_T31 x8_1 t25).f1, (⟨(rd_T31 x8_1 t25).f2.f0, (rd_T31 x8_1 t25).f2.f1, (rd_T31 x8_1 t25).f2.f2⟩ : S27), (⟨(rd_T31 x8_1 t25).f3.f0, (rd_T31 x8_1 t25).f3.f1, (rd_T31 x8_1 t25).f3.f2⟩ : S27), (⟨t27, t28, t29⟩ : S27), (rd_T31 x8_1 t25).f5⟩ : S31) ) (fun _ hk => hk)).1
          rw [← Ny30.out] at HP48
          have HQ48 := Aside0.mk HP48
          clear hcl48 hcc48 hfr48 hM48 HP48
          refine hK.out _ _ ⟨(blk_cell BK1.out 0).trans rfl, (blk_cell BK1.out 1).trans rfl, (blk_cell BK1.out 2).trans rfl, HS3_, HS4_, HS5_, HS6_, HS7_, HS8_, HS9_, HS10_, HS11_, HS12_, HS13_, HS14_⟩ (fun hHeld => ?_)
          clear hK K
          refine norm_ (a' := ?_) ?_ ?_
          rotate_left
          ·show Act.put _ (some 45) _ = _
           simp only [Act.put, List.setIfInBounds_toArray, List.set_cons_zero, List.set_cons_succ, i64_w, i32_w]
           rfl
          refine pure_ (i := 9) (N := some 46) (v := ?_) (a' := ?_) #[true, true, true, true, true, true, true, true, true, true, false, false] rfl rfl (any_of HT_.out (by kernel_rfl)) (fun _ _ _ h => h) (Or.inl ⟨by rfl, ?_⟩) ?_ ?_
          rotate_left
          ·intro w'
           go_simp
           with_reducible rfl
          rotate_left
          ·simp only [Act.put, List.setIfInBounds_toArray, List.set_cons_zero, List.set_cons_succ, i64_w, i32_w]
           rfl
          refine pure_ (i := 10) (N := some 47) (v := ?_) (a' := ?_) #[true, true, true, true, true, true, true, true, true, true, true, false] rfl rfl (any_of HT_.out (by kernel_rfl)) (fun _ _ _ h => h) (Or.inl ⟨by rfl, ?_⟩) ?_ ?_
          rotate_left
          ·intro w'
           go_simp
           with_reducible rfl
          rotate_left
          ·simp only [Act.put, List.setIfInBounds_toArray, List.set_cons_zero, List.set_cons_succ, i64_w, i32_w]
           rfl
          refine last_ (i := 11) (N := none) #[true, true, true, true, true, true, true, true, true, true, true, true] rfl rfl (one_of HT_.out (by kernel_rfl)) (by decide) (fun K hK => ?_)
          refine skip_ (w1 := ?_) (by rfl) rfl ?_ ?_
          rotate_left
          ·go_simp
           rfl
          refine hK.out _ _ ?_
          clear hK K
          refine done_ (done_of HT_.out (by kernel_rfl)) ?_
          have n0_ : Aside0 (Kd.R Kd.string 9 (((w47.setCell ⟨go34, (t25 : Int).toNat * 12 + 8, none⟩ (.int .i64 t27)).setCell ⟨go34, (t25 : Int).toNat * 12 + 9, none⟩ (.int .i64 t28)).setCell ⟨go34, (t25 : Int).toNat * 12 + 10, none⟩ (.int .i64 t29)) w.heap.size (fun _ => True) (.slice (some ad24) t3.length co26) t3) := ⟨by (with_reducible repeat (first|apply Kd.R_alloc|apply Kd.R_drewN|apply Kd.R_drew));exact Kd.R_mono (Kd.R_far (p := ⟨go34, (t25 : Int).toNat * 12 + 10, none⟩) (Kd.R_far (p := ⟨go34, (t25 : Int).toNat * 12 + 9, none⟩) (Kd.R_far (p := ⟨go34, (t25 : Int).toNat * 12 + 8, none⟩) (Kd.R_types HO_7.out GG34.out (by decide)) (fun _ hk => hk.2) (.int .i64 t27)) (fun _ hk => hk.2) (.int .i64 t28)) (fun _ hk => hk.2) (.int .i64 t29)) (fun _ hk => trivial)⟩
          have n1_ : Aside0 (Kd.R k31 31 (((w47.setCell ⟨go34, (t25 : Int).toNat * 12 + 8, none⟩ (.int .i64 t27)).setCell ⟨go34, (t25 : Int).toNat * 12 + 9, none⟩ (.int .i64 t28)).setCell ⟨go34, (t25 : Int).toNat * 12 + 10, none⟩ (.int .i64 t29)) w.heap.size (fun _ => True) (.slice (some ⟨go34, 0, none⟩) x8_1.length co45) y30) := ⟨by (with_reducible repeat (first|apply Kd.R_alloc|apply Kd.R_drewN|apply Kd.R_drew));exact HQ48.out⟩
          have n2_ : Aside0 ((((w47.setCell ⟨go34, (t25 : Int).toNat * 12 + 8, none⟩ (.int .i64 t27)).setCell ⟨go34, (t25 : Int).toNat * 12 + 9, none⟩ (.int .i64 t28)).setCell ⟨go34, (t25 : Int).toNat * 12 + 10, none⟩ (.int .i64 t29)).heap[gb1]? = some (.cells #[.int .i64 a2_0, .int .i64 a2_1, .int .i64 a2_2] 27 (0, 0))) := ⟨by (with_reducible repeat (first|refine blk_drewN ?_ _|refine blk_drew ?_|refine blk_alloc ?_ _));refine blk_far ?_ (by have h_ := Kd.R_ne HO_8.out BK1.out (by decide);intro e_;exact h_ (by rw [e_];rfl)) _;(with_reducible repeat (first|refine blk_drewN ?_ _|refine blk_drew ?_|refine blk_alloc ?_ _));refine blk_far ?_ (by have h_ := Kd.R_ne HO_8.out BK1.out (by decide);intro e_;exact h_ (by rw [e_];rfl)) _;(with_reducible repeat (first|refine blk_drewN ?_ _|refine blk_drew ?_|refine blk_alloc ?_ _));refine blk_far ?_ (by have h_ := Kd.R_ne HO_8.out BK1.out (by decide);intro e_;exact h_ (by rw [e_];rfl)) _;(with_reducible repeat (first|refine blk_drewN ?_ _|refine blk_drew ?_|refine blk_alloc ?_ _));exact BK1.out⟩
          have n3_ : Aside0 ((((w47.setCell ⟨go34, (t25 : Int).toNat * 12 + 8, none⟩ (.int .i64 t27)).setCell ⟨go34, (t25 : Int).toNat * 12 + 9, none⟩ (.int .i64 t28)).setCell ⟨go34, (t25 : Int).toNat * 12 + 10, none⟩ (.int .i64 t29)).heap[gb2]? = some (.cells #[.slice none 0 0, .int .i64 x3001_1] 67 (0, 0))) := ⟨by (with_reducible repeat (first|refine blk_drewN ?_ _|refine blk_drew ?_|refine blk_alloc ?_ _));refine blk_far ?_ (by have h_ := Kd.R_ne HO_8.out BK2.out (by decide);intro e_;exact h_ (by rw [e_];rfl)) _;(with_reducible repeat (first|refine blk_drewN ?_ _|refine blk_drew ?_|refine blk_alloc ?_ _));refine blk_far ?_ (by have h_ := Kd.R_ne HO_8.out BK2.out (by decide);intro e_;exact h_ (by rw [e_];rfl)) _;(with_reducible repeat (first|refine blk_drewN ?_ _|refine blk_drew ?_|refine blk_alloc ?_ _));refine blk_far ?_ (by have h_ := Kd.R_ne HO_8.out BK2.out (by decide);intro e_;exact h_ (by rw [e_];rfl)) _;(with_reducible repeat (first|refine blk_drewN ?_ _|refine blk_drew ?_|refine blk_alloc ?_ _));exact BK2.out⟩
          have n4_ : Aside0 (Below w.heap.size w (((w47.setCell ⟨go34, (t25 : Int).toNat * 12 + 8, none⟩ (.int .i64 t27)).setCell ⟨go34, (t25 : Int).toNat * 12 + 9, none⟩ (.int .i64 t28)).setCell ⟨go34, (t25 : Int).toNat * 12 + 10, none⟩ (.int .i64 t29))) := ⟨by repeat (first|(with_reducible first|exact HB.out|apply below_alloc|apply pw_below_drewN|apply below_drew1|refine below_set ?_ GB34.out|refine below_set ?_ GB34.out|refine below_set ?_ GB34.out|refine below_set ?_ GE1.out|refine below_set ?_ GE2.out)|exact HB.out)⟩
          (try clear HO_7)
          (try clear HO_8)
          (try clear BK1)
          (try clear BK2)
          (try clear HB)
          generalize (((w47.setCell ⟨go34, (t25 : Int).toNat * 12 + 8, none⟩ (.int .i64 t27)).setCell ⟨go34, (t25 : Int).toNat * 12 + 9, none⟩ (.int .i64 t28)).setCell ⟨go34, (t25 : Int).toNat * 12 + 10, none⟩ (.int .i64 t29)) = w49 at n0_ n1_ n2_ n3_ n4_ ⊢
          have HO_7 := n0_
          have HO_8 := n1_
          have BK1 := n2_
          have BK2 := n3_
          have HB := n4_
          clear n0_ n1_ n2_ n3_ n4_
          try go_wp2
          have n0_ := Aside0.mk (Kd.R_drew HO_7.out)
          have n1_ := Aside0.mk (Kd.R_drew HO_8.out)
          have n2_ := Aside0.mk (blk_drew BK1.out)
          have n3_ := Aside0.mk (blk_drew BK2.out)
          have n4_ := Aside0.mk (below_drew1 HB.out)
          clear HO_7
          clear HO_8
          clear BK1
          clear BK2
          clear HB
          have HO_7 := n0_
          have HO_8 := n1_
          have BK1 := n2_
          have BK2 := n3_
          have HB := n4_
          clear n0_ n1_ n2_ n3_ n4_
          have p31 : 0 ≤ (t25 : Int) := of_decide_eq_true (by first|(with_reducible assumption)|assumption)
          have q31 : t25 < (y30.length : Int) := (by have h_ : (t25 : Int) < ((x8_1.length : Int) : Int) := of_decide_eq_true (by first|(with_reducible assumption)|assumption);first|(have e_ := (Kd.R_reads' HO_8.out).1;omega)|simpa only [Ny30.out, List.length_set] using h_)
          have ql31 : ((t25 : Int) < ((x8_1.length : Int) : Int)) = True := eq_true (of_decide_eq_true (by first|(with_reducible assumption)|assumption))
          obtain ⟨ad31, e31, hx31_0, hx31_1, hx31_2, hx31_3, hx31_4, hx31_5, hx31_6, hx31_7, hx31_8, hx31_9, hx31_10, hx31_11⟩ := at_T31 (Kd.R_reads' HO_8.out).2.2 t25 p31 q31
          obtain rfl : (⟨go34, 0, none⟩ : Addr) = ad31 := (by injection e31)
          (first | simp only [add_plain] at hx31_0 | simp only [add_at] at hx31_0 | simp only [Addr.add, Nat.zero_add] at hx31_0 | skip)
          (first | simp only [add_plain] at hx31_1 | simp only [add_at] at hx31_1 | simp only [Addr.add, Nat.zero_add] at hx31_1 | skip)
          (first | simp only [add_plain] at hx31_2 | simp only [add_at] at hx31_2 | simp only [Addr.add, Nat.zero_add] at hx31_2 | skip)
          (first | simp only [add_plain] at hx31_3 | simp only [add_at] at hx31_3 | simp only [Addr.add, Nat.zero_add] at hx31_3 | skip)
          (first | simp only [add_plain] at hx31_4 | simp only [add_at] at hx31_4 | simp only [Addr.add, Nat.zero_add] at hx31_4 | skip)
          (first | simp only [add_plain] at hx31_5 | simp only [add_at] at hx31_5 | simp only [Addr.add, Nat.zero_add] at hx31_5 | skip)
          (first | simp only [add_plain] at hx31_6 | simp only [add_at] at hx31_6 | simp only [Addr.add, Nat.zero_add] at hx31_6 | skip)
          (first | simp only [add_plain] at hx31_7 | simp only [add_at] at hx31_7 | simp only [Addr.add, Nat.zero_add] at hx31_7 | skip)
          (first | simp only [add_plain] at hx31_8 | simp only [add_at] at hx31_8 | simp only [Addr.add, Nat.zero_add] at hx31_8 | skip)
          (first | simp only [add_plain] at hx31_9 | simp only [add_at] at hx31_9 | simp only [Addr.add, Nat.zero_add] at hx31_9 | skip)
          (first | simp only [add_plain] at hx31_10 | simp only [add_at] at hx31_10 | simp only [Addr.add, Nat.zero_add] at hx31_10 | skip)
          (first | simp only [add_plain] at hx31_11 | simp only [add_at] at hx31_11 | simp only [Addr.add, Nat.zero_add] at hx31_11 | skip)
          replace p31 := eq_true p31
          replace q31 := eq_true q31
          have p32 : 0 ≤ (t25 : Int) := of_decide_eq_true (by first|(with_reducible assumption)|assumption)
          have q32 : t25 < (y30.length : Int) := (by have h_ : (t25 : Int) < ((x8_1.length : Int) : Int) := of_decide_eq_true (by first|(with_reducible assumption)|assumption);first|(have e_ := (Kd.R_reads' HO_8.out).1;omega)|simpa only [Ny30.out, List.length_set] using h_)
          have ql32 : ((t25 : Int) < ((x8_1.length : Int) : Int)) = True := eq_true (of_decide_eq_true (by first|(with_reducible assumption)|assumption))
          obtain ⟨ad32, e32, hx32_0, hx32_1, hx32_2, hx32_3, hx32_4, hx32_5, hx32_6, hx32_7, hx32_8, hx32_9, hx32_10, hx32_11⟩ := at_T31 (Kd.R_reads' HO_8.out).2.2 t25 p32 q32
          obtain rfl : (⟨go34, 0, none⟩ : Addr) = ad32 := (by injection e32)
          (first | simp only [add_plain] at hx32_0 | simp only [add_at] at hx32_0 | simp only [Addr.add, Nat.zero_add] at hx32_0 | skip)
          (first | simp only [add_plain] at hx32_1 | simp only [add_at] at hx32_1 | simp only [Addr.add, Nat.zero_add] at hx32_1 | skip)
          (first | simp only [add_plain] at hx32_2 | simp only [add_at] at hx32_2 | simp only [Addr.add, Nat.zero_add] at hx32_2 | skip)
          (first | simp only [add_plain] at hx32_3 | simp only [add_at] at hx32_3 | simp only [Addr.add, Nat.zero_add] at hx32_3 | skip)
          (first | simp only [add_plain] at hx32_4 | simp only [add_at] at hx32_4 | simp only [Addr.add, Nat.zero_add] at hx32_4 | skip)
          (first | simp only [add_plain] at hx32_5 | simp only [add_at] at hx32_5 | simp only [Addr.add, Nat.zero_add] at hx32_5 | skip)
          (first | simp only [add_plain] at hx32_6 | simp only [add_at] at hx32_6 | simp only [Addr.add, Nat.zero_add] at hx32_6 | skip)
          (first | simp only [add_plain] at hx32_7 | simp only [add_at] at hx32_7 | simp only [Addr.add, Nat.zero_add] at hx32_7 | skip)
          (first | simp only [add_plain] at hx32_8 | simp only [add_at] at hx32_8 | simp only [Addr.add, Nat.zero_add] at hx32_8 | skip)
          (first | simp only [add_plain] at hx32_9 | simp only [add_at] at hx32_9 | simp only [Addr.add, Nat.zero_add] at hx32_9 | skip)
          (first | simp only [add_plain] at hx32_10 | simp only [add_at] at hx32_10 | simp only [Addr.add, Nat.zero_add] at hx32_10 | skip)
          (first | simp only [add_plain] at hx32_11 | simp only [add_at] at hx32_11 | simp only [Addr.add, Nat.zero_add] at hx32_11 | skip)
          replace p32 := eq_true p32
          replace q32 := eq_true q32
          refine start_ (n := 12) (S := fun w' => w'.cell? ⟨go34, (t25).toNat * 12, none⟩ = some (.string ((rd_T31 y30 t25).f0)) ∧ w'.cell? ⟨go34, (t25).toNat * 12 + 1, none⟩ = some (.string ((rd_T31 y30 t25).f1)) ∧ w'.cell? ⟨go34, (t25).toNat * 12 + 2, none⟩ = some (.int .i64 ((rd_T31 y30 t25).f2.f0)) ∧ w'.cell? ⟨go34, (t25).toNat * 12 + 3, none⟩ = some (.int .i64 ((rd_T31 y30 t25).f2.f1)) ∧ w'.cell? ⟨go34, (t25).toNat * 12 + 4, none⟩ = some (.int .i64 ((rd_T31 y30 t25).f2.f2)) ∧ w'.cell? ⟨go34, (t25).toNat * 12 + 5, none⟩ = some (.int .i64 ((rd_T31 y30 t25).f3.f0)) ∧ w'.cell? ⟨go34, (t25).toNat * 12 + 6, none⟩ = some (.int .i64 ((rd_T31 y30 t25).f3.f1)) ∧ w'.cell? ⟨go34, (t25).toNat * 12 + 7, none⟩ = some (.int .i64 ((rd_T31 y30 t25).f3.f2)) ∧ w'.cell? ⟨go34, (t25).toNat * 12 + 8, none⟩ = some (.int .i64 ((rd_T31 y30 t25).f4.f0)) ∧ w'.cell? ⟨go34, (t25).toNat * 12 + 9, none⟩ = some (.int .i64 ((rd_T31 y30 t25).f4.f1)) ∧ w'.cell? ⟨go34, (t25).toNat * 12 + 10, none⟩ = some (.int .i64 ((rd_T31 y30 t25).f4.f2)) ∧ w'.cell? ⟨go34, (t25).toNat * 12 + 11, none⟩ = some (.int .i64 ((rd_T31 y30 t25).f5)) ∧ w'.cell? ⟨go34, (t25).toNat * 12, none⟩ = some (.string ((rd_T31 y30 t25).f0)) ∧ w'.cell? ⟨go34, (t25).toNat * 12 + 1, none⟩ = some (.string ((rd_T31 y30 t25).f1)) ∧ w'.cell? ⟨go34, (t25).toNat * 12 + 2, none⟩ = some (.int .i64 ((rd_T31 y30 t25).f2.f0)) ∧ w'.cell? ⟨go34, (t25).toNat * 12 + 3, none⟩ = some (.int .i64 ((rd_T31 y30 t25).f2.f1)) ∧ w'.cell? ⟨go34, (t25).toNat * 12 + 4, none⟩ = some (.int .i64 ((rd_T31 y30 t25).f2.f2)) ∧ w'.cell? ⟨go34, (t25).toNat * 12 + 5, none⟩ = some (.int .i64 ((rd_T31 y30 t25).f3.f0)) ∧ w'.cell? ⟨go34, (t25).toNat * 12 + 6, none⟩ = some (.int .i64 ((rd_T31 y30 t25).f3.f1)) ∧ w'.cell? ⟨go34, (t25).toNat * 12 + 7, none⟩ = some (.int .i64 ((rd_T31 y30 t25).f3.f2)) ∧ w'.cell? ⟨go34, (t25).toNat * 12 + 8, none⟩ = some (.int .i64 ((rd_T31 y30 t25).f4.f0)) ∧ w'.cell? ⟨go34, (t25).toNat * 12 + 9, none⟩ = some (.int .i64 ((rd_T31 y30 t25).f4.f1)) ∧ w'.cell? ⟨go34, (t25).toNat * 12 + 10, none⟩ = some (.int .i64 ((rd_T31 y30 t25).f4.f2)) ∧ w'.cell? ⟨go34, (t25).toNat * 12 + 11, none⟩ = some (.int .i64 ((rd_T31 y30 t25).f5))) (ds := []) #[false, false, false, false, false, false, false, false, false, false, false, false] (by kernel_rfl) rfl rfl ⟨hx31_0, hx31_1, hx31_2, hx31_3, hx31_4, hx31_5, hx31_6, hx31_7, hx31_8, hx31_9, hx31_10, hx31_11, hx32_0, hx32_1, hx32_2, hx32_3, hx32_4, hx32_5, hx32_6, hx32_7, hx32_8, hx32_9, hx32_10, hx32_11⟩ (fun hHeld => ?_); refine with_tabW r10_Admit.tab12 r10_Admit.bits12 (fun HT_ HW_ => ?_)
          generalize w49.drew = w50 at HO_7 HO_8 BK1 BK2 HB hx31_0 hx31_1 hx31_10 hx31_11 hx31_2 hx31_3 hx31_4 hx31_5 hx31_6 hx31_7 hx31_8 hx31_9 hx32_0 hx32_1 hx32_10 hx32_11 hx32_2 hx32_3 hx32_4 hx32_5 hx32_6 hx32_7 hx32_8 hx32_9 hHeld ⊢
          refine pure_ (i := 0) (N := some 48) (v := ?_) (a' := ?_) #[true, false, false, false, false, false, false, false, false, false, false, false] rfl rfl (any_of HT_.out (by kernel_rfl)) (fun _ _ _ h => h) (Or.inl ⟨by rfl, ?_⟩) ?_ ?_
          rotate_left
          ·intro w'
           go_simp
           with_reducible rfl
          rotate_left
          ·simp only [Act.put, List.setIfInBounds_toArray, List.set_cons_zero, List.set_cons_succ, i64_w, i32_w]
           rfl
          refine pure_ (i := 1) (N := some 49) (v := ?_) (a' := ?_) #[true, true, false, false, false, false, false, false, false, false, false, false] rfl rfl (any_of HT_.out (by kernel_rfl)) (fun _ _ _ h => h) (Or.inl ⟨by rfl, ?_⟩) ?_ ?_
          rotate_left
          ·intro w'
           go_simp
           with_reducible rfl
          rotate_left
          ·simp only [Act.put, List.setIfInBounds_toArray, List.set_cons_zero, List.set_cons_succ, i64_w, i32_w]
           rfl
          refine pure_ (i := 2) (N := some 50) (v := ?_) (a' := ?_) #[true, true, true, false, false, false, false, false, false, false, false, false] rfl rfl (any_of HT_.out (by kernel_rfl)) (fun _ _ _ h => h) (Or.inl ⟨by rfl, ?_⟩) ?_ ?_
          rotate_left
          ·intro w'
           go_simp
           with_reducible rfl
          rotate_left
          ·simp only [Act.put, List.setIfInBounds_toArray, List.set_cons_zero, List.set_cons_succ, i64_w, i32_w]
           rfl
          refine pure_ (i := 3) (N := some 51) (v := ?_) (a' := ?_) #[true, true, true, true, false, false, false, false, false, false, false, false] rfl rfl (any_of HT_.out (by kernel_rfl)) (fun _ _ _ h => h) (Or.inl ⟨by rfl, ?_⟩) ?_ ?_
          rotate_left
          ·intro w'
           go_simp
           with_reducible rfl
          rotate_left
          ·simp only [Act.put, List.setIfInBounds_toArray, List.set_cons_zero, List.set_cons_succ, i64_w, i32_w]
           rfl
          refine pure_ (i := 5) (N := some 53) (v := ?_) (a' := ?_) #[true, true, true, true, false, true, false, false, false, false, false, false] rfl rfl (any_of HT_.out (by kernel_rfl)) (fun _ _ _ h => h) (Or.inl ⟨by rfl, ?_⟩) ?_ ?_
          rotate_left
          ·intro w'
           go_simp
           with_reducible rfl
          rotate_left
          ·simp only [Act.put, List.setIfInBounds_toArray, List.set_cons_zero, List.set_cons_succ, i64_w, i32_w]
           rfl
          refine pure_ (i := 6) (N := some 54) (v := ?_) (a' := ?_) #[true, true, true, true, false, true, true, false, false, false, false, false] rfl rfl (any_of HT_.out (by kernel_rfl)) (fun _ _ _ h => h) (Or.inl ⟨by rfl, ?_⟩) ?_ ?_
          rotate_left
          ·intro w'
           go_simp
           with_reducible rfl
          rotate_left
          ·simp only [Act.put, List.setIfInBounds_toArray, List.set_cons_zero, List.set_cons_succ, i64_w, i32_w]
           rfl
          refine pure_ (i := 7) (N := some 55) (v := ?_) (a' := ?_) #[true, true, true, true, false, true, true, true, false, false, false, false] rfl rfl (any_of HT_.out (by kernel_rfl)) (fun _ _ _ h => h) (Or.inl ⟨by rfl, ?_⟩) ?_ ?_
          rotate_left
          ·intro w'
           go_simp
           with_reducible rfl
          rotate_left
          ·simp only [Act.put, List.setIfInBounds_toArray, List.set_cons_zero, List.set_cons_succ, i64_w, i32_w]
           rfl
          refine pure_ (i := 8) (N := some 56) (v := ?_) (a' := ?_) #[true, true, true, true, false, true, true, true, true, false, false, false] rfl rfl (any_of HT_.out (by kernel_rfl)) (fun _ _ _ h => h) (Or.inl ⟨by rfl, ?_⟩) ?_ ?_
          rotate_left
          ·intro w'
           go_simp
           with_reducible rfl
          rotate_left
          ·simp only [Act.put, List.setIfInBounds_toArray, List.set_cons_zero, List.set_cons_succ, i64_w, i32_w]
           rfl
          refine take_ (i := 4) (N := some 52) (v := ?_) (a' := ?_) #[true, true, true, true, true, true, true, true, true, false, false, false] rfl rfl (take_ofW HT_.out HW_.out (by kernel_rfl)) (fun _ _ _ h => h) (Or.inl ⟨by rfl, ?_⟩) hHeld ?_ ?_
          rotate_left
          ·rintro w' ⟨s0, s1, s2, s3, s4, s5, s6, s7, s8, s9, s10, s11, s12, s13, s14, s15, s16, s17, s18, s19, s20, s21, s22, s23⟩
           go_simp
           with_reducible rfl
          rotate_left
          ·simp only [Act.put, List.setIfInBounds_toArray, List.set_cons_zero, List.set_cons_succ, i64_w, i32_w]
           rfl
          refine take_ (i := 9) (N := some 57) (v := ?_) (a' := ?_) #[true, true, true, true, true, true, true, true, true, true, false, false] rfl rfl (take_ofW HT_.out HW_.out (by kernel_rfl)) (fun _ _ _ h => h) (Or.inl ⟨by rfl, ?_⟩) hHeld ?_ ?_
          rotate_left
          ·rintro w' ⟨s0, s1, s2, s3, s4, s5, s6, s7, s8, s9, s10, s11, s12, s13, s14, s15, s16, s17, s18, s19, s20, s21, s22, s23⟩
           go_simp
           with_reducible rfl
          rotate_left
          ·simp only [Act.put, List.setIfInBounds_toArray, List.set_cons_zero, List.set_cons_succ, i64_w, i32_w]
           rfl
          refine one_ (i := 10) (N := some 58) #[true, true, true, true, true, true, true, true, true, true, true, false] rfl rfl (one_of HT_.out (by kernel_rfl)) (by decide) (fun K hK => ?_)
          refine goes_ Try.func34 (by kernel_rfl) rfl #[.agg #[.int .i64 ((rd_T31 y30 t25).f4.f0), .int .i64 ((rd_T31 y30 t25).f4.f1), .int .i64 ((rd_T31 y30 t25).f4.f2)], .agg #[.int .i64 ((rd_T31 y30 t25).f2.f0), .int .i64 ((rd_T31 y30 t25).f2.f1), .int .i64 ((rd_T31 y30 t25).f2.f2)]] (by rfl) rfl rfl (by (try simp only [List.map_toArray, List.map_cons, List.map_nil]); first | done | rfl | (simp only [List.length_drop, List.length_take]; rfl)) ?_
          with_reducible refine (r10_Le.calls ((rd_T31 y30 t25).f4.f0) ((rd_T31 y30 t25).f4.f1) ((rd_T31 y30 t25).f4.f2) ((rd_T31 y30 t25).f2.f0) ((rd_T31 y30 t25).f2.f1) ((rd_T31 y30 t25).f2.f2) false _ A35.out).mono ?_
          rintro e w51 ⟨rfl, hb⟩
          have HS0_ := (hb.cell (World.block_lt_of_cell? _ _ (hHeld.1))).trans (hHeld.1)
          have HS1_ := (hb.cell (World.block_lt_of_cell? _ _ (hHeld.2.1))).trans (hHeld.2.1)
          have HS2_ := (hb.cell (World.block_lt_of_cell? _ _ (hHeld.2.2.1))).trans (hHeld.2.2.1)
          have HS3_ := (hb.cell (World.block_lt_of_cell? _ _ (hHeld.2.2.2.1))).trans (hHeld.2.2.2.1)
          have HS4_ := (hb.cell (World.block_lt_of_cell? _ _ (hHeld.2.2.2.2.1))).trans (hHeld.2.2.2.2.1)
          have HS5_ := (hb.cell (World.block_lt_of_cell? _ _ (hHeld.2.2.2.2.2.1))).trans (hHeld.2.2.2.2.2.1)
          have HS6_ := (hb.cell (World.block_lt_of_cell? _ _ (hHeld.2.2.2.2.2.2.1))).trans (hHeld.2.2.2.2.2.2.1)
          have HS7_ := (hb.cell (World.block_lt_of_cell? _ _ (hHeld.2.2.2.2.2.2.2.1))).trans (hHeld.2.2.2.2.2.2.2.1)
          have HS8_ := (hb.cell (World.block_lt_of_cell? _ _ (hHeld.2.2.2.2.2.2.2.2.1))).trans (hHeld.2.2.2.2.2.2.2.2.1)
          have HS9_ := (hb.cell (World.block_lt_of_cell? _ _ (hHeld.2.2.2.2.2.2.2.2.2.1))).trans (hHeld.2.2.2.2.2.2.2.2.2.1)
          have HS10_ := (hb.cell (World.block_lt_of_cell? _ _ (hHeld.2.2.2.2.2.2.2.2.2.2.1))).trans (hHeld.2.2.2.2.2.2.2.2.2.2.1)
          have HS11_ := (hb.cell (World.block_lt_of_cell? _ _ (hHeld.2.2.2.2.2.2.2.2.2.2.2.1))).trans (hHeld.2.2.2.2.2.2.2.2.2.2.2.1)
          have HS12_ := (hb.cell (World.block_lt_of_cell? _ _ (hHeld.2.2.2.2.2.2.2.2.2.2.2.2.1))).trans (hHeld.2.2.2.2.2.2.2.2.2.2.2.2.1)
          have HS13_ := (hb.cell (World.block_lt_of_cell? _ _ (hHeld.2.2.2.2.2.2.2.2.2.2.2.2.2.1))).trans (hHeld.2.2.2.2.2.2.2.2.2.2.2.2.2.1)
          have HS14_ := (hb.cell (World.block_lt_of_cell? _ _ (hHeld.2.2.2.2.2.2.2.2.2.2.2.2.2.2.1))).trans (hHeld.2.2.2.2.2.2.2.2.2.2.2.2.2.2.1)
          have HS15_ := (hb.cell (World.block_lt_of_cell? _ _ (hHeld.2.2.2.2.2.2.2.2.2.2.2.2.2.2.2.1))).trans (hHeld.2.2.2.2.2.2.2.2.2.2.2.2.2.2.2.1)
          have HS16_ := (hb.cell (World.block_lt_of_cell? _ _ (hHeld.2.2.2.2.2.2.2.2.2.2.2.2.2.2.2.2.1))).trans (hHeld.2.2.2.2.2.2.2.2.2.2.2.2.2.2.2.2.1)
          have HS17_ := (hb.cell (World.block_lt_of_cell? _ _ (hHeld.2.2.2.2.2.2.2.2.2.2.2.2.2.2.2.2.2.1))).trans (hHeld.2.2.2.2.2.2.2.2.2.2.2.2.2.2.2.2.2.1)
          have HS18_ := (hb.cell (World.block_lt_of_cell? _ _ (hHeld.2.2.2.2.2.2.2.2.2.2.2.2.2.2.2.2.2.2.1))).trans (hHeld.2.2.2.2.2.2.2.2.2.2.2.2.2.2.2.2.2.2.1)
          have HS19_ := (hb.cell (World.block_lt_of_cell? _ _ (hHeld.2.2.2.2.2.2.2.2.2.2.2.2.2.2.2.2.2.2.2.1))).trans (hHeld.2.2.2.2.2.2.2.2.2.2.2.2.2.2.2.2.2.2.2.1)
          have HS20_ := (hb.cell (World.block_lt_of_cell? _ _ (hHeld.2.2.2.2.2.2.2.2.2.2.2.2.2.2.2.2.2.2.2.2.1))).trans (hHeld.2.2.2.2.2.2.2.2.2.2.2.2.2.2.2.2.2.2.2.2.1)
          have HS21_ := (hb.cell (World.block_lt_of_cell? _ _ (hHeld.2.2.2.2.2.2.2.2.2.2.2.2.2.2.2.2.2.2.2.2.2.1))).trans (hHeld.2.2.2.2.2.2.2.2.2.2.2.2.2.2.2.2.2.2.2.2.2.1)
          have HS22_ := (hb.cell (World.block_lt_of_cell? _ _ (hHeld.2.2.2.2.2.2.2.2.2.2.2.2.2.2.2.2.2.2.2.2.2.2.1))).trans (hHeld.2.2.2.2.2.2.2.2.2.2.2.2.2.2.2.2.2.2.2.2.2.2.1)
          have HS23_ := (hb.cell (World.block_lt_of_cell? _ _ (hHeld.2.2.2.2.2.2.2.2.2.2.2.2.2.2.2.2.2.2.2.2.2.2.2))).trans (hHeld.2.2.2.2.2.2.2.2.2.2.2.2.2.2.2.2.2.2.2.2.2.2.2)
          refine ⟨_, rfl, ?_⟩
          have n0_ := Aside0.mk (Kd.R_below (by (with_reducible repeat (first|apply Kd.R_alloc|apply Kd.R_drewN|apply Kd.R_drew));exact HO_7.out) hb)
          have n1_ := Aside0.mk (Kd.R_below (by (with_reducible repeat (first|apply Kd.R_alloc|apply Kd.R_drewN|apply Kd.R_drew));exact HO_8.out) hb)
          have n2_ := Aside0.mk (blk_below (g := gb1) (o := .cells #[.int .i64 a2_0, .int .i64 a2_1, .int .i64 a2_2] 27 (0, 0)) (by (with_reducible repeat (first|refine blk_drewN ?_ _|refine blk_drew ?_|refine blk_alloc ?_ _));exact BK1.out) hb)
          have n3_ := Aside0.mk (blk_below (g := gb2) (o := .cells #[.slice none 0 0, .int .i64 x3001_1] 67 (0, 0)) (by (with_reducible repeat (first|refine blk_drewN ?_ _|refine blk_drew ?_|refine blk_alloc ?_ _));exact BK2.out) hb)
          have n4_ := Aside0.mk (below_step (by repeat (first|(with_reducible first|exact HB.out|apply below_alloc|apply pw_below_drewN|apply below_drew1|refine below_set ?_ GE1.out|refine below_set ?_ GE2.out)|exact HB.out)) hb)
          clear HO_7
          clear HO_8
          clear BK1
          clear BK2
          clear HB
          have HO_7 := n0_
          have HO_8 := n1_
          have BK1 := n2_
          have BK2 := n3_
          have HB := n4_
          clear n0_ n1_ n2_ n3_ n4_
          (try clear hb)
          (try clear hb2)
          (try clear hk)
          (try clear hi)
          refine hK.out _ _ ⟨HS0_, HS1_, HS2_, HS3_, HS4_, HS5_, HS6_, HS7_, HS8_, HS9_, HS10_, HS11_, HS12_, HS13_, HS14_, HS15_, HS16_, HS17_, HS18_, HS19_, HS20_, HS21_, HS22_, HS23_⟩ (fun hHeld => ?_)
          clear hK K
          refine norm_ (a' := ?_) ?_ ?_
          rotate_left
          ·show Act.put _ (some 58) _ = _
           simp only [Act.put, List.setIfInBounds_toArray, List.set_cons_zero, List.set_cons_succ, i64_w, i32_w]
           rfl
          refine pure_ (i := 11) (N := some 59) (v := ?_) (a' := ?_) #[true, true, true, true, true, true, true, true, true, true, true, true] rfl rfl (any_of HT_.out (by kernel_rfl)) (fun _ _ _ h => h) (Or.inl ⟨by rfl, ?_⟩) ?_ ?_
          rotate_left
          ·intro w'
           go_simp
           with_reducible rfl
          rotate_left
          ·simp only [Act.put, List.setIfInBounds_toArray, List.set_cons_zero, List.set_cons_succ, i64_w, i32_w]
           rfl
          refine done_ (done_of HT_.out (by kernel_rfl)) ?_
          try go_wp2_with (first|((with_reducible refine gate_callee (f := 113) rfl ?_);refine goesL_ (some 60) rfl rfl Try.func113 (by kernel_rfl) rfl #[.int .i64 12] rfl (by (try simp only [List.map_toArray, List.map_cons, List.map_nil]);first|done|rfl|(simp only [List.length_drop, List.length_take];rfl)) ?_;(with_reducible refine (r10_no.calls 12 t34 t37 _ A44.out).mono ?_);rintro e w52 ⟨v35, rfl, ho0, hb⟩;refine ⟨_, rfl, ?_⟩;have n0_ := Aside0.mk (Kd.R_below (by (with_reducible repeat (first|apply Kd.R_alloc|apply Kd.R_drewN|apply Kd.R_drew));exact HO_7.out) hb);have n1_ := Aside0.mk (Kd.R_elder' (by (with_reducible repeat (first|apply Kd.R_alloc|apply Kd.R_drewN|apply Kd.R_drew));exact HO_8.out) (Kd.R_base ho0) hb);have n2_ := Aside0.mk (Kd.R_lower (Kd.R_new' ho0 (Kd.R_lt (by (with_reducible repeat (first|apply Kd.R_alloc|apply Kd.R_drewN|apply Kd.R_drew));exact HO_8.out))) (below_size (by repeat (first|(with_reducible first|exact HB.out|apply below_alloc|apply pw_below_drewN|apply below_drew1|refine below_set ?_ GE1.out|refine below_set ?_ GE2.out)|exact HB.out))));have n3_ := Aside0.mk (blk_below (g := gb1) (o := .cells #[.int .i64 a2_0, .int .i64 a2_1, .int .i64 a2_2] 27 (0, 0)) (by (with_reducible repeat (first|refine blk_drewN ?_ _|refine blk_drew ?_|refine blk_alloc ?_ _));exact BK1.out) hb);have n4_ := Aside0.mk (blk_below (g := gb2) (o := .cells #[.slice none 0 0, .int .i64 x3001_1] 67 (0, 0)) (by (with_reducible repeat (first|refine blk_drewN ?_ _|refine blk_drew ?_|refine blk_alloc ?_ _));exact BK2.out) hb);have n5_ := Aside0.mk (below_step (by repeat (first|(with_reducible first|exact HB.out|apply below_alloc|apply pw_below_drewN|apply below_drew1|refine below_set ?_ GE1.out|refine below_set ?_ GE2.out)|exact HB.out)) hb);clear HO_7;clear HO_8;clear BK1;clear BK2;clear HB;have HO_7 := n0_;have HO_8 := n1_;have HO36 := n2_;have BK1 := n3_;have BK2 := n4_;have HB := n5_;clear n0_ n1_ n2_ n3_ n4_ n5_;(try clear hb);(try clear hb2);(try clear hk);(try clear hi);(try clear ho0);obtain ⟨Ao53, co53, eo53⟩ := Kd.R_slice HO36.out;subst eo53;have hnb54 := NB2_1.out;have hnc54 := NB1_2.out;have hcz55_0 : w52.cell? ⟨gb2, 0, none⟩ = some (.slice none 0 0) := (blk_cell BK2.out 0).trans rfl;have hcz55_1 : w52.cell? ⟨gb2, 1, none⟩ = some (.int .i64 x3001_1) := (blk_cell BK2.out 1).trans rfl;have hfz55_0 := blk_frozen BK2.out 0;have hfz55_1 := blk_frozen BK2.out 1))
          refine bodyPost_ret (results_cell_row rfl _ _ gb2 67 #[.slice Ao53 t34.length co53, .int .i64 t37] (0, 0) _ rfl (by (with_reducible repeat (first|refine blk_drewN ?_ _|refine blk_drew ?_|refine blk_alloc ?_ _));refine blk_put (cs := #[.slice Ao53 t34.length co53, .int .i64 x3001_1]) ?_ 1 _ rfl;(with_reducible repeat (first|refine blk_drewN ?_ _|refine blk_drew ?_|refine blk_alloc ?_ _));refine blk_put (cs := #[.slice none 0 0, .int .i64 x3001_1]) ?_ 0 _ rfl;(with_reducible repeat (first|refine blk_drewN ?_ _|refine blk_drew ?_|refine blk_alloc ?_ _));exact BK2.out) Try.underlying67 rfl (by kernel_rfl)) rfl ?_
          exact ⟨_, by first|rfl|(simp [errW_none, errW_some] <;> rfl)|(simp [*, errW_none, errW_some] <;> rfl), by (with_reducible repeat (first|apply Kd.R_alloc|apply Kd.R_drewN|apply Kd.R_drew));exact Kd.R_mono (Kd.R_far (p := ⟨gb2, 1, none⟩) (Kd.R_far (p := ⟨gb2, 0, none⟩) (Kd.R_types HO36.out BK2.out (by decide)) (fun _ hk => hk.2) (.slice Ao53 t34.length co53)) (fun _ hk => hk.2) (.int .i64 t37)) (fun _ hk => trivial), by repeat (first|(with_reducible first|exact HB.out|apply below_alloc|apply pw_below_drewN|apply below_drew1|refine below_set ?_ GE1.out|refine below_set ?_ GE2.out)|exact HB.out)⟩
        ·rw [if_neg c32] at H
         exact absurd H (by simp)
       ·rw [if_neg c31] at H
        exact absurd H (by simp)
      ·rw [if_neg c29] at H
       exact absurd H (by simp)
     ·rw [if_neg c28] at H
      have c28b0 : decide (x9_1 < (t3.length : Int)) = false := decide_eq_false c28
      clear c28
      replace H := Option.bind_eq_some_iff.mp H
      obtain ⟨t18, A560, H⟩ := H
      replace H : (if 0 ≤ t18 then (if t18 < (x8_1.length : Int) then ((r10_Add.f ((rd_T31 x8_1 t18).f3.f0) ((rd_T31 x8_1 t18).f3.f1) ((rd_T31 x8_1 t18).f3.f2) a2_0 a2_1 a2_2).bind fun bt20 => (some ((x8_1.set (t18 : Int).toNat (⟨(rd_T31 x8_1 t18).f0, (rd_T31 x8_1 t18).f1, (⟨(rd_T31 x8_1 t18).f2.f0, (rd_T31 x8_1 t18).f2.f1, (rd_T31 x8_1 t18).f2.f2⟩ : S27), (⟨bt20.1, bt20.2.1, bt20.2.2⟩ : S27), (⟨(rd_T31 x8_1 t18).f4.f0, (rd_T31 x8_1 t18).f4.f1, (rd_T31 x8_1 t18).f4.f2⟩ : S27), (rd_T31 x8_1 t18).f5⟩ : S31)), 0))) else (none)) else (none)) = some (r1, r2) := H
      have A56 := Aside0.mk A560
      clear A560
      by_cases c57 : 0 ≤ t18
      ·rw [if_pos c57] at H
       have c57b0 : decide (0 ≤ t18) = true := decide_eq_true c57
       clear c57
       by_cases c58 : t18 < (x8_1.length : Int)
       ·rw [if_pos c58] at H
        have c58b0 : decide (t18 < (x8_1.length : Int)) = true := decide_eq_true c58
        clear c58
        replace H := Option.bind_eq_some_iff.mp H
        obtain ⟨⟨t20, t21, t22⟩, A590, H⟩ := H
        replace H : (some ((x8_1.set (t18 : Int).toNat (⟨(rd_T31 x8_1 t18).f0, (rd_T31 x8_1 t18).f1, (⟨(rd_T31 x8_1 t18).f2.f0, (rd_T31 x8_1 t18).f2.f1, (rd_T31 x8_1 t18).f2.f2⟩ : S27), (⟨t20, t21, t22⟩ : S27), (⟨(rd_T31 x8_1 t18).f4.f0, (rd_T31 x8_1 t18).f4.f1, (rd_T31 x8_1 t18).f4.f2⟩ : S27), (rd_T31 x8_1 t18).f5⟩ : S31)), 0)) = some (r1, r2) := H
        have A59 := Aside0.mk A590
        clear A590
        obtain ⟨y23, hy23⟩ : ∃ y_ : List (S31), y_ = (x8_1.set (t18 : Int).toNat (⟨(rd_T31 x8_1 t18).f0, (rd_T31 x8_1 t18).f1, (⟨(rd_T31 x8_1 t18).f2.f0, (rd_T31 x8_1 t18).f2.f1, (rd_T31 x8_1 t18).f2.f2⟩ : S27), (⟨t20, t21, t22⟩ : S27), (⟨(rd_T31 x8_1 t18).f4.f0, (rd_T31 x8_1 t18).f4.f1, (rd_T31 x8_1 t18).f4.f2⟩ : S27), (rd_T31 x8_1 t18).f5⟩ : S31)) := ⟨_, rfl⟩
        replace H : (some (y23, 0)) = some (r1, r2) := by first|(rw [hy23];with_reducible exact H)|(have H2_ := (Option.bind_some _ _).symm.trans H;rw [hy23];with_reducible exact H2_)|(have H2_ := (Option.bind_some _ _).symm.trans H;with_reducible exact H2_)|with_reducible exact H|(rw [hy23];exact H)|exact H
        have Ny23 := Aside0.mk hy23
        clear hy23
        simp only [Option.some.injEq, Prod.mk.injEq] at H
        obtain ⟨rfl, rfl⟩ := H
        obtain ⟨Ao61, co61, eo61⟩ := Kd.R_slice HO_8.out
        subst eo61
        try go_wp2_with (first|((with_reducible refine gate_callee (f := 50) rfl ?_);refine goesL_ (some 63) rfl rfl Try.func50 (by kernel_rfl) rfl #[.slice Ao61 x8_1.length co61, .string a1] rfl (by (try simp only [List.map_toArray, List.map_cons, List.map_nil]);first|done|rfl|(simp only [List.length_drop, List.length_take];rfl)) ?_;(with_reducible refine (r10_Find.calls k1 _ _ x8_1 a1 t18 _ ?side1 ?side2 A56.out).mono ?_);(case side1 => repeat (first|exact (Kd.R_reads' HO_8.out).2.2|(with_reducible refine Kd.C_alloc ?_ _)|(with_reducible refine Kd.C_drewN ?_ _)|(with_reducible refine Kd.C_drew ?_)));(case side2 => exact (Kd.R_reads' HO_8.out).2.1);rintro e w' ⟨rfl, ⟨nd, rfl⟩⟩;refine ⟨_, rfl, ?_⟩;(try (rw [drewN_self wr];generalize hq_ : World.drewN wr _ = wr;have n0_ : Aside0 (Kd.R Kd.string 9 wr w.heap.size (fun _ => True) (.slice Ao26 t3.length co26) t3) := ⟨by rw [← hq_];exact (by (with_reducible repeat (first|apply Kd.R_alloc|apply Kd.R_drewN|apply Kd.R_drew));exact HO_7.out)⟩;have n1_ : Aside0 (Kd.R k31 31 wr w.heap.size (fun _ => True) (.slice Ao61 x8_1.length co61) x8_1) := ⟨by rw [← hq_];exact (by (with_reducible repeat (first|apply Kd.R_alloc|apply Kd.R_drewN|apply Kd.R_drew));exact HO_8.out)⟩;have n2_ : Aside0 (wr.heap[gb1]? = some (.cells #[.int .i64 a2_0, .int .i64 a2_1, .int .i64 a2_2] 27 (0, 0))) := ⟨by rw [← hq_];exact (by (with_reducible repeat (first|refine blk_drewN ?_ _|refine blk_drew ?_|refine blk_alloc ?_ _));exact BK1.out)⟩;have n3_ : Aside0 (wr.heap[gb2]? = some (.cells #[.slice none 0 0, .int .i64 x3001_1] 67 (0, 0))) := ⟨by rw [← hq_];exact (by (with_reducible repeat (first|refine blk_drewN ?_ _|refine blk_drew ?_|refine blk_alloc ?_ _));exact BK2.out)⟩;have n4_ : Aside0 (Below w.heap.size w wr) := ⟨by rw [← hq_];exact (by repeat (first|(with_reducible first|exact HB.out|apply below_alloc|apply pw_below_drewN|apply below_drew1|refine below_set ?_ GE1.out|refine below_set ?_ GE2.out)|exact HB.out))⟩;clear HO_7 HO_8 BK1 BK2 HB hq_;have HO_7 := n0_;have HO_8 := n1_;have BK1 := n2_;have BK2 := n3_;have HB := n4_;clear n0_ n1_ n2_ n3_ n4_))))
        have n0_ := Aside0.mk (Kd.R_drew HO_7.out)
        have n1_ := Aside0.mk (Kd.R_drew HO_8.out)
        have n2_ := Aside0.mk (blk_drew BK1.out)
        have n3_ := Aside0.mk (blk_drew BK2.out)
        have n4_ := Aside0.mk (below_drew1 HB.out)
        clear HO_7
        clear HO_8
        clear BK1
        clear BK2
        clear HB
        have HO_7 := n0_
        have HO_8 := n1_
        have BK1 := n2_
        have BK2 := n3_
        have HB := n4_
        clear n0_ n1_ n2_ n3_ n4_
        have p19 : 0 ≤ (t18 : Int) := of_decide_eq_true (by first|(with_reducible assumption)|assumption)
        have q19 : t18 < (x8_1.length : Int) := of_decide_eq_true (by first|(with_reducible assumption)|assumption)
        obtain ⟨ad19, e19, hx19_0, hx19_1, hx19_2, hx19_3, hx19_4, hx19_5, hx19_6, hx19_7, hx19_8, hx19_9, hx19_10, hx19_11⟩ := at_T31 (Kd.R_reads' HO_8.out).2.2 t18 p19 q19
        cases e19
        replace p19 := eq_true p19
        replace q19 := eq_true q19
        refine start_ (n := 12) (S := fun w' => w'.cell? ⟨gb1, 0, none⟩ = some (.int .i64 a2_0) ∧ w'.cell? ⟨gb1, 1, none⟩ = some (.int .i64 a2_1) ∧ w'.cell? ⟨gb1, 2, none⟩ = some (.int .i64 a2_2) ∧ w'.cell? (ad19.add ((t18).toNat * 12)) = some (.string ((rd_T31 x8_1 t18).f0)) ∧ w'.cell? ⟨(ad19.add ((t18).toNat * 12)).block, (ad19.add ((t18).toNat * 12)).off + 1, none⟩ = some (.string ((rd_T31 x8_1 t18).f1)) ∧ w'.cell? ⟨(ad19.add ((t18).toNat * 12)).block, (ad19.add ((t18).toNat * 12)).off + 2, none⟩ = some (.int .i64 ((rd_T31 x8_1 t18).f2.f0)) ∧ w'.cell? ⟨(ad19.add ((t18).toNat * 12)).block, (ad19.add ((t18).toNat * 12)).off + 3, none⟩ = some (.int .i64 ((rd_T31 x8_1 t18).f2.f1)) ∧ w'.cell? ⟨(ad19.add ((t18).toNat * 12)).block, (ad19.add ((t18).toNat * 12)).off + 4, none⟩ = some (.int .i64 ((rd_T31 x8_1 t18).f2.f2)) ∧ w'.cell? ⟨(ad19.add ((t18).toNat * 12)).block, (ad19.add ((t18).toNat * 12)).off + 5, none⟩ = some (.int .i64 ((rd_T31 x8_1 t18).f3.f0)) ∧ w'.cell? ⟨(ad19.add ((t18).toNat * 12)).block, (ad19.add ((t18).toNat * 12)).off + 6, none⟩ = some (.int .i64 ((rd_T31 x8_1 t18).f3.f1)) ∧ w'.cell? ⟨(ad19.add ((t18).toNat * 12)).block, (ad19.add ((t18).toNat * 12)).off + 7, none⟩ = some (.int .i64 ((rd_T31 x8_1 t18).f3.f2)) ∧ w'.cell? ⟨(ad19.add ((t18).toNat * 12)).block, (ad19.add ((t18).toNat * 12)).off + 8, none⟩ = some (.int .i64 ((rd_T31 x8_1 t18).f4.f0)) ∧ w'.cell? ⟨(ad19.add ((t18).toNat * 12)).block, (ad19.add ((t18).toNat * 12)).off + 9, none⟩ = some (.int .i64 ((rd_T31 x8_1 t18).f4.f1)) ∧ w'.cell? ⟨(ad19.add ((t18).toNat * 12)).block, (ad19.add ((t18).toNat * 12)).off + 10, none⟩ = some (.int .i64 ((rd_T31 x8_1 t18).f4.f2)) ∧ w'.cell? ⟨(ad19.add ((t18).toNat * 12)).block, (ad19.add ((t18).toNat * 12)).off + 11, none⟩ = some (.int .i64 ((rd_T31 x8_1 t18).f5))) (ds := [11]) #[false, false, false, false, false, false, false, false, false, false, false, false] (by kernel_rfl) rfl rfl ⟨(blk_cell BK1.out 0).trans rfl, (blk_cell BK1.out 1).trans rfl, (blk_cell BK1.out 2).trans rfl, hx19_0, hx19_1, hx19_2, hx19_3, hx19_4, hx19_5, hx19_6, hx19_7, hx19_8, hx19_9, hx19_10, hx19_11⟩ (fun hHeld => ?_); refine with_tabW r10_Admit.tab15 r10_Admit.bits15 (fun HT_ HW_ => ?_)
        generalize wr.drew = w62 at HO_7 HO_8 BK1 BK2 HB hx19_0 hx19_1 hx19_10 hx19_11 hx19_2 hx19_3 hx19_4 hx19_5 hx19_6 hx19_7 hx19_8 hx19_9 hHeld ⊢
        refine pure_ (i := 0) (N := some 64) (v := ?_) (a' := ?_) #[true, false, false, false, false, false, false, false, false, false, false, false] rfl rfl (any_of HT_.out (by kernel_rfl)) (fun _ _ _ h => h) (Or.inl ⟨by rfl, ?_⟩) ?_ ?_
        rotate_left
        ·intro w'
         go_simp
         with_reducible rfl
        rotate_left
        ·simp only [Act.put, List.setIfInBounds_toArray, List.set_cons_zero, List.set_cons_succ, i64_w, i32_w]
         rfl
        refine pure_ (i := 1) (N := some 65) (v := ?_) (a' := ?_) #[true, true, false, false, false, false, false, false, false, false, false, false] rfl rfl (any_of HT_.out (by kernel_rfl)) (fun _ _ _ h => h) (Or.inl ⟨by rfl, ?_⟩) ?_ ?_
        rotate_left
        ·intro w'
         go_simp
         with_reducible rfl
        rotate_left
        ·simp only [Act.put, List.setIfInBounds_toArray, List.set_cons_zero, List.set_cons_succ, i64_w, i32_w]
         rfl
        refine pure_ (i := 2) (N := some 66) (v := ?_) (a' := ?_) #[true, true, true, false, false, false, false, false, false, false, false, false] rfl rfl (any_of HT_.out (by kernel_rfl)) (fun _ _ _ h => h) (Or.inl ⟨by rfl, ?_⟩) ?_ ?_
        rotate_left
        ·intro w'
         go_simp
         with_reducible rfl
        rotate_left
        ·simp only [Act.put, List.setIfInBounds_toArray, List.set_cons_zero, List.set_cons_succ, i64_w, i32_w]
         rfl
        refine pure_ (i := 3) (N := some 67) (v := ?_) (a' := ?_) #[true, true, true, true, false, false, false, false, false, false, false, false] rfl rfl (any_of HT_.out (by kernel_rfl)) (fun _ _ _ h => h) (Or.inl ⟨by rfl, ?_⟩) ?_ ?_
        rotate_left
        ·intro w'
         go_simp
         with_reducible rfl
        rotate_left
        ·simp only [Act.put, List.setIfInBounds_toArray, List.set_cons_zero, List.set_cons_succ, i64_w, i32_w]
         rfl
        refine pure_ (i := 4) (N := some 68) (v := ?_) (a' := ?_) #[true, true, true, true, true, false, false, false, false, false, false, false] rfl rfl (any_of HT_.out (by kernel_rfl)) (fun _ _ _ h => h) (Or.inl ⟨by rfl, ?_⟩) ?_ ?_
        rotate_left
        ·intro w'
         go_simp
         with_reducible rfl
        rotate_left
        ·simp only [Act.put, List.setIfInBounds_toArray, List.set_cons_zero, List.set_cons_succ, i64_w, i32_w]
         rfl
        refine pure_ (i := 5) (N := some 69) (v := ?_) (a' := ?_) #[true, true, true, true, true, true, false, false, false, false, false, false] rfl rfl (any_of HT_.out (by kernel_rfl)) (fun _ _ _ h => h) (Or.inl ⟨by rfl, ?_⟩) ?_ ?_
        rotate_left
        ·intro w'
         go_simp
         with_reducible rfl
        rotate_left
        ·simp only [Act.put, List.setIfInBounds_toArray, List.set_cons_zero, List.set_cons_succ, i64_w, i32_w]
         rfl
        refine take_ (i := 6) (N := some 70) (v := ?_) (a' := ?_) #[true, true, true, true, true, true, true, false, false, false, false, false] rfl rfl (take_ofW HT_.out HW_.out (by kernel_rfl)) (fun _ _ _ h => h) (Or.inl ⟨by rfl, ?_⟩) hHeld ?_ ?_
        rotate_left
        ·rintro w' ⟨s0, s1, s2, s3, s4, s5, s6, s7, s8, s9, s10, s11, s12, s13, s14⟩
         go_simp
         with_reducible rfl
        rotate_left
        ·simp only [Act.put, List.setIfInBounds_toArray, List.set_cons_zero, List.set_cons_succ, i64_w, i32_w]
         rfl
        refine take_ (i := 7) (N := some 71) (v := ?_) (a' := ?_) #[true, true, true, true, true, true, true, true, false, false, false, false] rfl rfl (take_ofW HT_.out HW_.out (by kernel_rfl)) (fun _ _ _ h => h) (Or.inl ⟨by rfl, ?_⟩) hHeld ?_ ?_
        rotate_left
        ·rintro w' ⟨s0, s1, s2, s3, s4, s5, s6, s7, s8, s9, s10, s11, s12, s13, s14⟩
         go_simp
         with_reducible rfl
        rotate_left
        ·simp only [Act.put, List.setIfInBounds_toArray, List.set_cons_zero, List.set_cons_succ, i64_w, i32_w]
         rfl
        refine one_ (i := 8) (N := some 72) #[true, true, true, true, true, true, true, true, true, false, false, false] rfl rfl (one_of HT_.out (by kernel_rfl)) (by decide) (fun K hK => ?_)
        refine goes_ Try.func63 (by kernel_rfl) rfl #[.agg #[.int .i64 ((rd_T31 x8_1 t18).f3.f0), .int .i64 ((rd_T31 x8_1 t18).f3.f1), .int .i64 ((rd_T31 x8_1 t18).f3.f2)], .agg #[.int .i64 a2_0, .int .i64 a2_1, .int .i64 a2_2]] (by rfl) rfl rfl (by (try simp only [List.map_toArray, List.map_cons, List.map_nil]); first | done | rfl | (simp only [List.length_drop, List.length_take]; rfl)) ?_
        with_reducible refine (r10_Add.calls ((rd_T31 x8_1 t18).f3.f0) ((rd_T31 x8_1 t18).f3.f1) ((rd_T31 x8_1 t18).f3.f2) a2_0 a2_1 a2_2 t20 t21 t22 _ A59.out).mono ?_
        rintro e w63 ⟨rfl, hb⟩
        have HS3_ := (hb.cell (World.block_lt_of_cell? _ _ (hHeld.2.2.2.1))).trans (hHeld.2.2.2.1)
        have HS4_ := (hb.cell (World.block_lt_of_cell? _ _ (hHeld.2.2.2.2.1))).trans (hHeld.2.2.2.2.1)
        have HS5_ := (hb.cell (World.block_lt_of_cell? _ _ (hHeld.2.2.2.2.2.1))).trans (hHeld.2.2.2.2.2.1)
        have HS6_ := (hb.cell (World.block_lt_of_cell? _ _ (hHeld.2.2.2.2.2.2.1))).trans (hHeld.2.2.2.2.2.2.1)
        have HS7_ := (hb.cell (World.block_lt_of_cell? _ _ (hHeld.2.2.2.2.2.2.2.1))).trans (hHeld.2.2.2.2.2.2.2.1)
        have HS8_ := (hb.cell (World.block_lt_of_cell? _ _ (hHeld.2.2.2.2.2.2.2.2.1))).trans (hHeld.2.2.2.2.2.2.2.2.1)
        have HS9_ := (hb.cell (World.block_lt_of_cell? _ _ (hHeld.2.2.2.2.2.2.2.2.2.1))).trans (hHeld.2.2.2.2.2.2.2.2.2.1)
        have HS10_ := (hb.cell (World.block_lt_of_cell? _ _ (hHeld.2.2.2.2.2.2.2.2.2.2.1))).trans (hHeld.2.2.2.2.2.2.2.2.2.2.1)
        have HS11_ := (hb.cell (World.block_lt_of_cell? _ _ (hHeld.2.2.2.2.2.2.2.2.2.2.2.1))).trans (hHeld.2.2.2.2.2.2.2.2.2.2.2.1)
        have HS12_ := (hb.cell (World.block_lt_of_cell? _ _ (hHeld.2.2.2.2.2.2.2.2.2.2.2.2.1))).trans (hHeld.2.2.2.2.2.2.2.2.2.2.2.2.1)
        have HS13_ := (hb.cell (World.block_lt_of_cell? _ _ (hHeld.2.2.2.2.2.2.2.2.2.2.2.2.2.1))).trans (hHeld.2.2.2.2.2.2.2.2.2.2.2.2.2.1)
        have HS14_ := (hb.cell (World.block_lt_of_cell? _ _ (hHeld.2.2.2.2.2.2.2.2.2.2.2.2.2.2))).trans (hHeld.2.2.2.2.2.2.2.2.2.2.2.2.2.2)
        refine ⟨_, rfl, ?_⟩
        have n0_ := Aside0.mk (Kd.R_below (by (with_reducible repeat (first|apply Kd.R_alloc|apply Kd.R_drewN|apply Kd.R_drew));exact HO_7.out) hb)
        have n1_ := Aside0.mk (Kd.R_below (by (with_reducible repeat (first|apply Kd.R_alloc|apply Kd.R_drewN|apply Kd.R_drew));exact HO_8.out) hb)
        have n2_ := Aside0.mk (blk_below (g := gb1) (o := .cells #[.int .i64 a2_0, .int .i64 a2_1, .int .i64 a2_2] 27 (0, 0)) (by (with_reducible repeat (first|refine blk_drewN ?_ _|refine blk_drew ?_|refine blk_alloc ?_ _));exact BK1.out) hb)
        have n3_ := Aside0.mk (blk_below (g := gb2) (o := .cells #[.slice none 0 0, .int .i64 x3001_1] 67 (0, 0)) (by (with_reducible repeat (first|refine blk_drewN ?_ _|refine blk_drew ?_|refine blk_alloc ?_ _));exact BK2.out) hb)
        have n4_ := Aside0.mk (below_step (by repeat (first|(with_reducible first|exact HB.out|apply below_alloc|apply pw_below_drewN|apply below_drew1|refine below_set ?_ GE1.out|refine below_set ?_ GE2.out)|exact HB.out)) hb)
        clear HO_7
        clear HO_8
        clear BK1
        clear BK2
        clear HB
        have HO_7 := n0_
        have HO_8 := n1_
        have BK1 := n2_
        have BK2 := n3_
        have HB := n4_
        clear n0_ n1_ n2_ n3_ n4_
        (try clear hb)
        (try clear hb2)
        (try clear hk)
        (try clear hi)
        have p60 : 0 ≤ (t18 : Int) := of_decide_eq_true (by first|(with_reducible assumption)|assumption)
        have q60 : (t18 : Int) < ((x8_1.length : Int) : Int) := of_decide_eq_true (by first|(with_reducible assumption)|assumption)
        obtain ⟨go60, co60, eo60, gb60, gl60, cl60, HG60⟩ := Kd.R_form HO_8.out (by omega)
        (first | cases eo60 | (injection eo60 with ea_ en_ ec_; (first | subst ea_ | (injection ea_ with ea_; subst ea_)); subst ec_; clear en_))
        have GB60 := Aside0.mk gb60
        have GG60 := Aside0.mk HG60
        clear gb60 gl60 HG60
        (first | simp only [add_plain] at hx19_0 | skip)
        (first | simp only [add_plain] at hx19_1 | skip)
        (first | simp only [add_plain] at hx19_2 | skip)
        (first | simp only [add_plain] at hx19_3 | skip)
        (first | simp only [add_plain] at hx19_4 | skip)
        (first | simp only [add_plain] at hx19_5 | skip)
        (first | simp only [add_plain] at hx19_6 | skip)
        (first | simp only [add_plain] at hx19_7 | skip)
        (first | simp only [add_plain] at hx19_8 | skip)
        (first | simp only [add_plain] at hx19_9 | skip)
        (first | simp only [add_plain] at hx19_10 | skip)
        (first | simp only [add_plain] at hx19_11 | skip)
        obtain ⟨ce60, hcl60, hM60, hcc60, hfr60⟩ := Kd.R_elem HO_8.out z31 (t18 : Int) p60 q60
        obtain rfl := k31_openM hM60
        have hx60_0 : World.cell? _ ⟨go60, (t18 : Int).toNat * 12, none⟩ = some (.string ((rd_T31 x8_1 t18).f0)) := hcc60 0 _ rfl
        have hx60_1 : World.cell? _ ⟨go60, (t18 : Int).toNat * 12 + 1, none⟩ = some (.string ((rd_T31 x8_1 t18).f1)) := hcc60 1 _ rfl
        have hx60_2 : World.cell? _ ⟨go60, (t18 : Int).toNat * 12 + 2, none⟩ = some (.int .i64 ((rd_T31 x8_1 t18).f2.f0)) := hcc60 2 _ rfl
        have hx60_3 : World.cell? _ ⟨go60, (t18 : Int).toNat * 12 + 3, none⟩ = some (.int .i64 ((rd_T31 x8_1 t18).f2.f1)) := hcc60 3 _ rfl
        have hx60_4 : World.cell? _ ⟨go60, (t18 : Int).toNat * 12 + 4, none⟩ = some (.int .i64 ((rd_T31 x8_1 t18).f2.f2)) := hcc60 4 _ rfl
        have hx60_5 : World.cell? _ ⟨go60, (t18 : Int).toNat * 12 + 5, none⟩ = some (.int .i64 ((rd_T31 x8_1 t18).f3.f0)) := hcc60 5 _ rfl
        have hx60_6 : World.cell? _ ⟨go60, (t18 : Int).toNat * 12 + 6, none⟩ = some (.int .i64 ((rd_T31 x8_1 t18).f3.f1)) := hcc60 6 _ rfl
        have hx60_7 : World.cell? _ ⟨go60, (t18 : Int).toNat * 12 + 7, none⟩ = some (.int .i64 ((rd_T31 x8_1 t18).f3.f2)) := hcc60 7 _ rfl
        have hx60_8 : World.cell? _ ⟨go60, (t18 : Int).toNat * 12 + 8, none⟩ = some (.int .i64 ((rd_T31 x8_1 t18).f4.f0)) := hcc60 8 _ rfl
        have hx60_9 : World.cell? _ ⟨go60, (t18 : Int).toNat * 12 + 9, none⟩ = some (.int .i64 ((rd_T31 x8_1 t18).f4.f1)) := hcc60 9 _ rfl
        have hx60_10 : World.cell? _ ⟨go60, (t18 : Int).toNat * 12 + 10, none⟩ = some (.int .i64 ((rd_T31 x8_1 t18).f4.f2)) := hcc60 10 _ rfl
        have hx60_11 : World.cell? _ ⟨go60, (t18 : Int).toNat * 12 + 11, none⟩ = some (.int .i64 ((rd_T31 x8_1 t18).f5)) := hcc60 11 _ rfl
        have hf60_0 : World.frozen? _ ⟨go60, (t18 : Int).toNat * 12, none⟩ = false := hfr60 0
        have hf60_1 : World.frozen? _ ⟨go60, (t18 : Int).toNat * 12 + 1, none⟩ = false := hfr60 1
        have hf60_2 : World.frozen? _ ⟨go60, (t18 : Int).toNat * 12 + 2, none⟩ = false := hfr60 2
        have hf60_3 : World.frozen? _ ⟨go60, (t18 : Int).toNat * 12 + 3, none⟩ = false := hfr60 3
        have hf60_4 : World.frozen? _ ⟨go60, (t18 : Int).toNat * 12 + 4, none⟩ = false := hfr60 4
        have hf60_5 : World.frozen? _ ⟨go60, (t18 : Int).toNat * 12 + 5, none⟩ = false := hfr60 5
        have hf60_6 : World.frozen? _ ⟨go60, (t18 : Int).toNat * 12 + 6, none⟩ = false := hfr60 6
        have hf60_7 : World.frozen? _ ⟨go60, (t18 : Int).toNat * 12 + 7, none⟩ = false := hfr60 7
        have hf60_8 : World.frozen? _ ⟨go60, (t18 : Int).toNat * 12 + 8, none⟩ = false := hfr60 8
        have hf60_9 : World.frozen? _ ⟨go60, (t18 : Int).toNat * 12 + 9, none⟩ = false := hfr60 9
        have hf60_10 : World.frozen? _ ⟨go60, (t18 : Int).toNat * 12 + 10, none⟩ = false := hfr60 10
        have hf60_11 : World.frozen? _ ⟨go60, (t18 : Int).toNat * 12 + 11, none⟩ = false := hfr60 11
        clear hcl60 hcc60 hfr60 hM60
        replace p60 := eq_true p60
        replace q60 := eq_true q60
        obtain ⟨ce64, hcl64, hM64, hcc64, hfr64⟩ := Kd.R_elem HO_8.out z31 (t18 : Int) (of_decide_eq_true (by first|(with_reducible assumption)|assumption)) (by have h_ : (t18 : Int) < ((x8_1.length : Int) : Int) := of_decide_eq_true (by first|(with_reducible assumption)|assumption);first|exact h_|(have e_ := (Kd.R_reads' HO_8.out).1;omega)|simpa using h_)
        obtain rfl := k31_openM hM64
        have HP64 := (Kd.R_seg HO_8.out (t18 : Int) (of_decide_eq_true (by first|(with_reducible assumption)|assumption)) (by have h_ : (t18 : Int) < ((x8_1.length : Int) : Int) := of_decide_eq_true (by first|(with_reducible assumption)|assumption);first|exact h_|(have e_ := (Kd.R_reads' HO_8.out).1;omega)|simpa using h_) (seg := [.int .i64 t20, .int .i64 t21, .int .i64 t22]) (j := 5) hcl64 hcc64 (show 8 ≤ 12 from by decide) (x' := (⟨(rd_T31 x8_1 t18).f0, (rd_T31 x8_1 t18).f1, (⟨(rd_T31 x8_1 t18).f2.f0, (rd_T31 x8_1 t18).f2.f1, (rd_T31 x8_1 t18).f2.f2⟩ : S27), (⟨t20, t21, t22⟩ : S27), (⟨(rd_T31 x8_1 t18).f4.f0, (rd_T31 x8_1 t18).f4.f1, (rd_T31 x8_1 t18).f4.f2⟩ : S27), (rd_T31 x8_1 t18).f5⟩ : S31)) (k31_mkM _ _ _ (⟨(rd_T31 x8_1 t18).f0, (rd_T31 x8_1 t18).f1, (⟨(rd_T31 x8_1 t18).f2.f0, (rd_T31 x8_1 t18).f2.f1, (rd_T31 x8_1 t18).f2.f2⟩ : S27), (⟨t20, t21, t22⟩ : S27), (⟨(rd_T31 x8_1 t18).f4.f0, (rd_T31 x8_1 t18).f4.f1, (rd_T31 x8_1 t18).f4.f2⟩ : S27), (rd_T31 x8_1 t18).f5⟩ : S31) ) (fun _ hk => hk)).1
        rw [← Ny23.out] at HP64
        have HQ64 := Aside0.mk HP64
        clear hcl64 hcc64 hfr64 hM64 HP64
        refine hK.out _ _ ⟨(blk_cell BK1.out 0).trans rfl, (blk_cell BK1.out 1).trans rfl, (blk_cell BK1.out 2).trans rfl, HS3_, HS4_, HS5_, HS6_, HS7_, HS8_, HS9_, HS10_, HS11_, HS12_, HS13_, HS14_⟩ (fun hHeld => ?_)
        clear hK K
        refine norm_ (a' := ?_) ?_ ?_
        rotate_left
        ·show Act.put _ (some 72) _ = _
         simp only [Act.put, List.setIfInBounds_toArray, List.set_cons_zero, List.set_cons_succ, i64_w, i32_w]
         rfl
        refine pure_ (i := 9) (N := some 73) (v := ?_) (a' := ?_) #[true, true, true, true, true, true, true, true, true, true, false, false] rfl rfl (any_of HT_.out (by kernel_rfl)) (fun _ _ _ h => h) (Or.inl ⟨by rfl, ?_⟩) ?_ ?_
        rotate_left
        ·intro w'
         go_simp
         with_reducible rfl
        rotate_left
        ·simp only [Act.put, List.setIfInBounds_toArray, List.set_cons_zero, List.set_cons_succ, i64_w, i32_w]
         rfl
        refine pure_ (i := 10) (N := some 74) (v := ?_) (a' := ?_) #[true, true, true, true, true, true, true, true, true, true, true, false] rfl rfl (any_of HT_.out (by kernel_rfl)) (fun _ _ _ h => h) (Or.inl ⟨by rfl, ?_⟩) ?_ ?_
        rotate_left
        ·intro w'
         go_simp
         with_reducible rfl
        rotate_left
        ·simp only [Act.put, List.setIfInBounds_toArray, List.set_cons_zero, List.set_cons_succ, i64_w, i32_w]
         rfl
        refine last_ (i := 11) (N := none) #[true, true, true, true, true, true, true, true, true, true, true, true] rfl rfl (one_of HT_.out (by kernel_rfl)) (by decide) (fun K hK => ?_)
        refine skip_ (w1 := ?_) (by rfl) rfl ?_ ?_
        rotate_left
        ·go_simp
         rfl
        refine hK.out _ _ ?_
        clear hK K
        refine done_ (done_of HT_.out (by kernel_rfl)) ?_
        have n0_ : Aside0 (Kd.R Kd.string 9 (((w63.setCell ⟨go60, (t18 : Int).toNat * 12 + 5, none⟩ (.int .i64 t20)).setCell ⟨go60, (t18 : Int).toNat * 12 + 6, none⟩ (.int .i64 t21)).setCell ⟨go60, (t18 : Int).toNat * 12 + 7, none⟩ (.int .i64 t22)) w.heap.size (fun _ => True) (.slice Ao26 t3.length co26) t3) := ⟨by (with_reducible repeat (first|apply Kd.R_alloc|apply Kd.R_drewN|apply Kd.R_drew));exact Kd.R_mono (Kd.R_far (p := ⟨go60, (t18 : Int).toNat * 12 + 7, none⟩) (Kd.R_far (p := ⟨go60, (t18 : Int).toNat * 12 + 6, none⟩) (Kd.R_far (p := ⟨go60, (t18 : Int).toNat * 12 + 5, none⟩) (Kd.R_types HO_7.out GG60.out (by decide)) (fun _ hk => hk.2) (.int .i64 t20)) (fun _ hk => hk.2) (.int .i64 t21)) (fun _ hk => hk.2) (.int .i64 t22)) (fun _ hk => trivial)⟩
        have n1_ : Aside0 (Kd.R k31 31 (((w63.setCell ⟨go60, (t18 : Int).toNat * 12 + 5, none⟩ (.int .i64 t20)).setCell ⟨go60, (t18 : Int).toNat * 12 + 6, none⟩ (.int .i64 t21)).setCell ⟨go60, (t18 : Int).toNat * 12 + 7, none⟩ (.int .i64 t22)) w.heap.size (fun _ => True) (.slice (some ⟨go60, 0, none⟩) x8_1.length co61) y23) := ⟨by (with_reducible repeat (first|apply Kd.R_alloc|apply Kd.R_drewN|apply Kd.R_drew));exact HQ64.out⟩
        have n2_ : Aside0 ((((w63.setCell ⟨go60, (t18 : Int).toNat * 12 + 5, none⟩ (.int .i64 t20)).setCell ⟨go60, (t18 : Int).toNat * 12 + 6, none⟩ (.int .i64 t21)).setCell ⟨go60, (t18 : Int).toNat * 12 + 7, none⟩ (.int .i64 t22)).heap[gb1]? = some (.cells #[.int .i64 a2_0, .int .i64 a2_1, .int .i64 a2_2] 27 (0, 0))) := ⟨by (with_reducible repeat (first|refine blk_drewN ?_ _|refine blk_drew ?_|refine blk_alloc ?_ _));refine blk_far ?_ (by have h_ := Kd.R_ne HO_8.out BK1.out (by decide);intro e_;exact h_ (by rw [e_];rfl)) _;(with_reducible repeat (first|refine blk_drewN ?_ _|refine blk_drew ?_|refine blk_alloc ?_ _));refine blk_far ?_ (by have h_ := Kd.R_ne HO_8.out BK1.out (by decide);intro e_;exact h_ (by rw [e_];rfl)) _;(with_reducible repeat (first|refine blk_drewN ?_ _|refine blk_drew ?_|refine blk_alloc ?_ _));refine blk_far ?_ (by have h_ := Kd.R_ne HO_8.out BK1.out (by decide);intro e_;exact h_ (by rw [e_];rfl)) _;(with_reducible repeat (first|refine blk_drewN ?_ _|refine blk_drew ?_|refine blk_alloc ?_ _));exact BK1.out⟩
        have n3_ : Aside0 ((((w63.setCell ⟨go60, (t18 : Int).toNat * 12 + 5, none⟩ (.int .i64 t20)).setCell ⟨go60, (t18 : Int).toNat * 12 + 6, none⟩ (.int .i64 t21)).setCell ⟨go60, (t18 : Int).toNat * 12 + 7, none⟩ (.int .i64 t22)).heap[gb2]? = some (.cells #[.slice none 0 0, .int .i64 x3001_1] 67 (0, 0))) := ⟨by (with_reducible repeat (first|refine blk_drewN ?_ _|refine blk_drew ?_|refine blk_alloc ?_ _));refine blk_far ?_ (by have h_ := Kd.R_ne HO_8.out BK2.out (by decide);intro e_;exact h_ (by rw [e_];rfl)) _;(with_reducible repeat (first|refine blk_drewN ?_ _|refine blk_drew ?_|refine blk_alloc ?_ _));refine blk_far ?_ (by have h_ := Kd.R_ne HO_8.out BK2.out (by decide);intro e_;exact h_ (by rw [e_];rfl)) _;(with_reducible repeat (first|refine blk_drewN ?_ _|refine blk_drew ?_|refine blk_alloc ?_ _));refine blk_far ?_ (by have h_ := Kd.R_ne HO_8.out BK2.out (by decide);intro e_;exact h_ (by rw [e_];rfl)) _;(with_reducible repeat (first|refine blk_drewN ?_ _|refine blk_drew ?_|refine blk_alloc ?_ _));exact BK2.out⟩
        have n4_ : Aside0 (Below w.heap.size w (((w63.setCell ⟨go60, (t18 : Int).toNat * 12 + 5, none⟩ (.int .i64 t20)).setCell ⟨go60, (t18 : Int).toNat * 12 + 6, none⟩ (.int .i64 t21)).setCell ⟨go60, (t18 : Int).toNat * 12 + 7, none⟩ (.int .i64 t22))) := ⟨by repeat (first|(with_reducible first|exact HB.out|apply below_alloc|apply pw_below_drewN|apply below_drew1|refine below_set ?_ GB60.out|refine below_set ?_ GB60.out|refine below_set ?_ GB60.out|refine below_set ?_ GE1.out|refine below_set ?_ GE2.out)|exact HB.out)⟩
        (try clear HO_7)
        (try clear HO_8)
        (try clear BK1)
        (try clear BK2)
        (try clear HB)
        generalize (((w63.setCell ⟨go60, (t18 : Int).toNat * 12 + 5, none⟩ (.int .i64 t20)).setCell ⟨go60, (t18 : Int).toNat * 12 + 6, none⟩ (.int .i64 t21)).setCell ⟨go60, (t18 : Int).toNat * 12 + 7, none⟩ (.int .i64 t22)) = w65 at n0_ n1_ n2_ n3_ n4_ ⊢
        have HO_7 := n0_
        have HO_8 := n1_
        have BK1 := n2_
        have BK2 := n3_
        have HB := n4_
        clear n0_ n1_ n2_ n3_ n4_
        have hnb66 := NB2_1.out
        have hnc66 := NB1_2.out
        have hcz67_0 : w65.cell? ⟨gb2, 0, none⟩ = some (.slice none 0 0) := (blk_cell BK2.out 0).trans rfl
        have hcz67_1 : w65.cell? ⟨gb2, 1, none⟩ = some (.int .i64 x3001_1) := (blk_cell BK2.out 1).trans rfl
        have hfz67_0 := blk_frozen BK2.out 0
        have hfz67_1 := blk_frozen BK2.out 1
        try go_wp2
        refine bodyPost_ret (results_cell_row rfl _ _ gb2 67 #[.slice (some ⟨go60, 0, none⟩) x8_1.length co61, .int .i64 0] (0, 0) _ rfl (by (with_reducible repeat (first|refine blk_drewN ?_ _|refine blk_drew ?_|refine blk_alloc ?_ _));refine blk_put (cs := #[.slice (some ⟨go60, 0, none⟩) x8_1.length co61, .int .i64 x3001_1]) ?_ 1 _ rfl;(with_reducible repeat (first|refine blk_drewN ?_ _|refine blk_drew ?_|refine blk_alloc ?_ _));refine blk_put (cs := #[.slice none 0 0, .int .i64 x3001_1]) ?_ 0 _ rfl;(with_reducible repeat (first|refine blk_drewN ?_ _|refine blk_drew ?_|refine blk_alloc ?_ _));exact BK2.out) Try.underlying67 rfl (by kernel_rfl)) rfl ?_
        exact ⟨_, by first|rfl|(simp [errW_none, errW_some] <;> rfl)|(simp [*, errW_none, errW_some] <;> rfl), by (with_reducible repeat (first|apply Kd.R_alloc|apply Kd.R_drewN|apply Kd.R_drew));exact Kd.R_mono (Kd.R_far (p := ⟨gb2, 1, none⟩) (Kd.R_far (p := ⟨gb2, 0, none⟩) (Kd.R_types HO_8.out BK2.out (by decide)) (fun _ hk => hk.2) (.slice (some ⟨go60, 0, none⟩) x8_1.length co61)) (fun _ hk => hk.2) (.int .i64 0)) (fun _ hk => trivial), by repeat (first|(with_reducible first|exact HB.out|apply below_alloc|apply pw_below_drewN|apply below_drew1|refine below_set ?_ GE1.out|refine below_set ?_ GE2.out)|exact HB.out)⟩
       ·rw [if_neg c58] at H
        exact absurd H (by simp)
      ·rw [if_neg c57] at H
       exact absurd H (by simp)
 ·replace c6 := Bool.eq_false_iff.mpr c6
  subst c6
  have H1 : ((r10_no.f 1).bind fun bt7 => (some (bt7.1, bt7.2))) = some (r1, r2) := by rw [if_neg (show ¬ (false = true) by decide)] at H; exact H
  clear H
  have H := H1
  clear H1
  replace H := Option.bind_eq_some_iff.mp H
  obtain ⟨⟨t7, t10⟩, A680, H⟩ := H
  replace H : (some (t7, t10)) = some (r1, r2) := H
  have A68 := Aside0.mk A680
  clear A680
  simp only [Option.some.injEq, Prod.mk.injEq] at H
  obtain ⟨rfl, rfl⟩ := H
  go_enter Try.func66, Try.ntmps66
  go_wp2_with (first|((with_reducible refine gate_dst (N := 5) rfl ?_);refine box_event ?hg (N := 5) ?hd (cs := #[.int .i64 a2_0, .int .i64 a2_1, .int .i64 a2_2]) (t := 27) ?hr ?_;(case hd => rfl);(case hg => rfl);(case hr => first|(go_simp;done)|(go_simp;rfl));intro gb1 hg w69 hbox hb;have n0_ := Aside0.mk (below_step (by repeat (first|(with_reducible first|exact HB.out|apply below_alloc|apply pw_below_drewN|apply below_drew1)|exact HB.out)) hb);have n1_ := Aside0.mk (hbox);have n2_ := Aside0.mk ((by rw [hg];exact (below_size (by repeat (first|(with_reducible first|exact HB.out|apply below_alloc|apply pw_below_drewN|apply below_drew1)|exact HB.out))) : w.heap.size ≤ gb1));have n3_ := Aside0.mk ((by rw [hg];exact (below_size (by repeat (first|(with_reducible first|exact HB.out|apply below_alloc|apply pw_below_drewN|apply below_drew1)|exact HB.out))) : w.heap.size ≤ gb1));clear HB;have HB := n0_;have BK1 := n1_;have GW1 := n2_;have GE1 := n3_;clear n0_ n1_ n2_ n3_;clear hb hbox hg)|((with_reducible refine gate_dst (N := 6) rfl ?_);refine box_event ?hg (N := 6) ?hd (cs := #[.slice none 0 0, .int .i64 0]) (t := 67) ?hr ?_;(case hd => rfl);(case hg => rfl);(case hr => first|(go_simp;done)|(go_simp;rfl));intro gb2 hg w70 hbox hb;have n0_ := Aside0.mk (blk_below (g := gb1) (o := .cells #[.int .i64 a2_0, .int .i64 a2_1, .int .i64 a2_2] 27 (0, 0)) (by (with_reducible repeat (first|refine blk_drewN ?_ _|refine blk_drew ?_|refine blk_alloc ?_ _));exact BK1.out) hb);have n1_ := Aside0.mk (below_step (by repeat (first|(with_reducible first|exact HB.out|apply below_alloc|apply pw_below_drewN|apply below_drew1|refine below_set ?_ GE1.out)|exact HB.out)) hb);have n2_ := Aside0.mk (hbox);have n3_ := Aside0.mk ((by rw [hg];exact (below_size (by repeat (first|(with_reducible first|exact HB.out|apply below_alloc|apply pw_below_drewN|apply below_drew1|refine below_set ?_ GE1.out)|exact HB.out))) : w.heap.size ≤ gb2));have n4_ := Aside0.mk ((by rw [hg];exact (below_size (by repeat (first|(with_reducible first|exact HB.out|apply below_alloc|apply pw_below_drewN|apply below_drew1|refine below_set ?_ GE1.out)|exact HB.out))) : w.heap.size ≤ gb2));have n5_ := Aside0.mk ((by rw [hg];exact Nat.ne_of_lt (blk_lt (g := gb1) (o := .cells #[.int .i64 a2_0, .int .i64 a2_1, .int .i64 a2_2] 27 (0, 0)) (by (with_reducible repeat (first|refine blk_drewN ?_ _|refine blk_drew ?_|refine blk_alloc ?_ _));exact BK1.out)) : gb1 ≠ gb2));have n6_ := Aside0.mk ((by rw [hg];exact Nat.ne_of_gt (blk_lt (g := gb1) (o := .cells #[.int .i64 a2_0, .int .i64 a2_1, .int .i64 a2_2] 27 (0, 0)) (by (with_reducible repeat (first|refine blk_drewN ?_ _|refine blk_drew ?_|refine blk_alloc ?_ _));exact BK1.out)) : gb2 ≠ gb1));clear BK1;clear HB;have BK1 := n0_;have HB := n1_;have BK2 := n2_;have GW2 := n3_;have GE2 := n4_;have NB1_2 := n5_;have NB2_1 := n6_;clear n0_ n1_ n2_ n3_ n4_ n5_ n6_;clear hb hbox hg)|((with_reducible refine gate_callee (f := 106) rfl ?_);refine goesL_ (some 14) rfl rfl Try.func106 (by kernel_rfl) rfl #[.slice A0 l0.length c0, .string a1] rfl (by (try simp only [List.map_toArray, List.map_cons, List.map_nil]);first|done|rfl|(simp only [List.length_drop, List.length_take];rfl)) ?_;(with_reducible refine (r10_Up.calls k _ _ l0 a1 t3 _ ?side1 ?side2 A4.out).mono ?_);(case side1 => repeat (first|exact (Kd.C_below HR0.out HB.out)|(with_reducible refine Kd.C_alloc ?_ _)|(with_reducible refine Kd.C_drewN ?_ _)|(with_reducible refine Kd.C_drew ?_)));(case side2 => exact HC0.out);rintro e w71 ⟨v4, rfl, ho0, hb⟩;refine ⟨_, rfl, ?_⟩;have n0_ := Aside0.mk (Kd.R_lower ho0 (below_size (by repeat (first|(with_reducible first|exact HB.out|apply below_alloc|apply pw_below_drewN|apply below_drew1|refine below_set ?_ GE1.out|refine below_set ?_ GE2.out)|exact HB.out))));have n1_ := Aside0.mk (blk_below (g := gb1) (o := .cells #[.int .i64 a2_0, .int .i64 a2_1, .int .i64 a2_2] 27 (0, 0)) (by (with_reducible repeat (first|refine blk_drewN ?_ _|refine blk_drew ?_|refine blk_alloc ?_ _));exact BK1.out) hb);have n2_ := Aside0.mk (blk_below (g := gb2) (o := .cells #[.slice none 0 0, .int .i64 0] 67 (0, 0)) (by (with_reducible repeat (first|refine blk_drewN ?_ _|refine blk_drew ?_|refine blk_alloc ?_ _));exact BK2.out) hb);have n3_ := Aside0.mk (below_step (by repeat (first|(with_reducible first|exact HB.out|apply below_alloc|apply pw_below_drewN|apply below_drew1|refine below_set ?_ GE1.out|refine below_set ?_ GE2.out)|exact HB.out)) hb);clear BK1;clear BK2;clear HB;have HO5 := n0_;have BK1 := n1_;have BK2 := n2_;have HB := n3_;clear n0_ n1_ n2_ n3_;(try clear hb);(try clear hb2);(try clear hk);(try clear hi);(try clear ho0);have hnb72 := NB1_2.out;have hnc72 := NB2_1.out;have hcz73_0 : w71.cell? ⟨gb1, 0, none⟩ = some (.int .i64 a2_0) := (blk_cell BK1.out 0).trans rfl;have hcz73_1 : w71.cell? ⟨gb1, 1, none⟩ = some (.int .i64 a2_1) := (blk_cell BK1.out 1).trans rfl;have hcz73_2 : w71.cell? ⟨gb1, 2, none⟩ = some (.int .i64 a2_2) := (blk_cell BK1.out 2).trans rfl;have hfz73_0 := blk_frozen BK1.out 0;have hfz73_1 := blk_frozen BK1.out 1;have hfz73_2 := blk_frozen BK1.out 2)|((with_reducible refine gate_callee (f := 65) rfl ?_);refine goesL_ (some 16) rfl rfl Try.func65 (by kernel_rfl) rfl #[.agg #[.int .i64 a2_0, .int .i64 a2_1, .int .i64 a2_2]] rfl (by (try simp only [List.map_toArray, List.map_cons, List.map_nil]);first|done|rfl|(simp only [List.length_drop, List.length_take];rfl)) ?_;(with_reducible refine (r10_MayVec.calls a2_0 a2_1 a2_2 false _ A5.out).mono ?_);rintro e w74 ⟨rfl, hb⟩;refine ⟨_, rfl, ?_⟩;have n0_ := Aside0.mk (Kd.R_below (by (with_reducible repeat (first|apply Kd.R_alloc|apply Kd.R_drewN|apply Kd.R_drew));exact HO5.out) hb);have n1_ := Aside0.mk (blk_below (g := gb1) (o := .cells #[.int .i64 a2_0, .int .i64 a2_1, .int .i64 a2_2] 27 (0, 0)) (by (with_reducible repeat (first|refine blk_drewN ?_ _|refine blk_drew ?_|refine blk_alloc ?_ _));exact BK1.out) hb);have n2_ := Aside0.mk (blk_below (g := gb2) (o := .cells #[.slice none 0 0, .int .i64 0] 67 (0, 0)) (by (with_reducible repeat (first|refine blk_drewN ?_ _|refine blk_drew ?_|refine blk_alloc ?_ _));exact BK2.out) hb);have n3_ := Aside0.mk (below_step (by repeat (first|(with_reducible first|exact HB.out|apply below_alloc|apply pw_below_drewN|apply below_drew1|refine below_set ?_ GE1.out|refine below_set ?_ GE2.out)|exact HB.out)) hb);clear HO5;clear BK1;clear BK2;clear HB;have HO5 := n0_;have BK1 := n1_;have BK2 := n2_;have HB := n3_;clear n0_ n1_ n2_ n3_;(try clear hb);(try clear hb2);(try clear hk);(try clear hi))|((with_reducible refine gate_callee (f := 113) rfl ?_);refine goesL_ (some 18) rfl rfl Try.func113 (by kernel_rfl) rfl #[.int .i64 1] rfl (by (try simp only [List.map_toArray, List.map_cons, List.map_nil]);first|done|rfl|(simp only [List.length_drop, List.length_take];rfl)) ?_;(with_reducible refine (r10_no.calls 1 t7 t10 _ A68.out).mono ?_);rintro e w75 ⟨v8, rfl, ho0, hb⟩;refine ⟨_, rfl, ?_⟩;have n0_ := Aside0.mk (Kd.R_below (by (with_reducible repeat (first|apply Kd.R_alloc|apply Kd.R_drewN|apply Kd.R_drew));exact HO5.out) hb);have n1_ := Aside0.mk (Kd.R_lower ho0 (below_size (by repeat (first|(with_reducible first|exact HB.out|apply below_alloc|apply pw_below_drewN|apply below_drew1|refine below_set ?_ GE1.out|refine below_set ?_ GE2.out)|exact HB.out))));have n2_ := Aside0.mk (blk_below (g := gb1) (o := .cells #[.int .i64 a2_0, .int .i64 a2_1, .int .i64 a2_2] 27 (0, 0)) (by (with_reducible repeat (first|refine blk_drewN ?_ _|refine blk_drew ?_|refine blk_alloc ?_ _));exact BK1.out) hb);have n3_ := Aside0.mk (blk_below (g := gb2) (o := .cells #[.slice none 0 0, .int .i64 0] 67 (0, 0)) (by (with_reducible repeat (first|refine blk_drewN ?_ _|refine blk_drew ?_|refine blk_alloc ?_ _));exact BK2.out) hb);have n4_ := Aside0.mk (below_step (by repeat (first|(with_reducible first|exact HB.out|apply below_alloc|apply pw_below_drewN|apply below_drew1|refine below_set ?_ GE1.out|refine below_set ?_ GE2.out)|exact HB.out)) hb);clear HO5;clear BK1;clear BK2;clear HB;have HO5 := n0_;have HO9 := n1_;have BK1 := n2_;have BK2 := n3_;have HB := n4_;clear n0_ n1_ n2_ n3_ n4_;(try clear hb);(try clear hb2);(try clear hk);(try clear hi);(try clear ho0);obtain ⟨Ao76, co76, eo76⟩ := Kd.R_slice HO9.out;subst eo76;have hcz77_0 : w75.cell? ⟨gb2, 0, none⟩ = some (.slice none 0 0) := (blk_cell BK2.out 0).trans rfl;have hcz77_1 : w75.cell? ⟨gb2, 1, none⟩ = some (.int .i64 0) := (blk_cell BK2.out 1).trans rfl;have hfz77_0 := blk_frozen BK2.out 0;have hfz77_1 := blk_frozen BK2.out 1))
  refine bodyPost_ret (results_cell_row rfl _ _ gb2 67 #[.slice Ao76 t7.length co76, .int .i64 t10] (0, 0) _ rfl (by (with_reducible repeat (first|refine blk_drewN ?_ _|refine blk_drew ?_|refine blk_alloc ?_ _));refine blk_put (cs := #[.slice Ao76 t7.length co76, .int .i64 0]) ?_ 1 _ rfl;(with_reducible repeat (first|refine blk_drewN ?_ _|refine blk_drew ?_|refine blk_alloc ?_ _));refine blk_put (cs := #[.slice none 0 0, .int .i64 0]) ?_ 0 _ rfl;(with_reducible repeat (first|refine blk_drewN ?_ _|refine blk_drew ?_|refine blk_alloc ?_ _));exact BK2.out) Try.underlying67 rfl (by kernel_rfl)) rfl ?_
  exact ⟨_, by first|rfl|(simp [errW_none, errW_some] <;> rfl)|(simp [*, errW_none, errW_some] <;> rfl), by (with_reducible repeat (first|apply Kd.R_alloc|apply Kd.R_drewN|apply Kd.R_drew));exact Kd.R_mono (Kd.R_far (p := ⟨gb2, 1, none⟩) (Kd.R_far (p := ⟨gb2, 0, none⟩) (Kd.R_types HO9.out BK2.out (by decide)) (fun _ hk => hk.2) (.slice Ao76 t7.length co76)) (fun _ hk => hk.2) (.int .i64 t10)) (fun _ hk => trivial), by repeat (first|(with_reducible first|exact HB.out|apply below_alloc|apply pw_below_drewN|apply below_drew1|refine below_set ?_ GE1.out|refine below_set ?_ GE2.out)|exact HB.out)⟩
end Go.Proofs.Ytcgefpklljclgaa.Print

namespace Go.Proofs.Ytcgefpklljclgaa.Print
open Go.RowKit Go.Proofs.YtcgefpklljclgaaW.PrintWords Go.Proofs.YtcgefpklljclgaaW.PrintLast Go.Proofs.YtcgefpklljclgaaW.PrintMore
attribute [local go_sem] max2_int min2_int max_two min_two max_three min_three max_four min_four   -- for this text's walks alone
set_option linter.unusedVariables false
set_option linter.unusedSimpArgs false
/-! ### admit_Release: function 76 -/
/-- one amount taken from another, as the program takes it -/
def opSub (v u : S27) : S27 := ⟨wrap64 (u.f0 - v.f0), wrap64 (u.f1 - v.f1), wrap64 (u.f2 - v.f2)⟩
set_option maxHeartbeats 1000000 in
set_option maxRecDepth 100000 in
theorem release1_calls (W : World) (b : Nat) (v u : S27) (hb : W.heap[b]? = some (.cells #[.int .i64 v.f0, .int .i64 v.f1, .int .i64 v.f2] 27 (0, 0))) :
    Calls Try.prog 133 #[.agg #[.int .i64 u.f0, .int .i64 u.f1, .int .i64 u.f2], .pointer (some ⟨b, 0, none⟩)] W fun e w' => e = .returned (.agg #[.int .i64 (opSub v u).f0, .int .i64 (opSub v u).f1, .int .i64 (opSub v u).f2]) ∧ Below W.heap.size W w' := by
  have hu27 := Try.underlying27
  obtain ⟨⟨q1, q2, q3⟩, hq⟩ : ∃ q : Int × Int × Int, vec_Sub.f u.f0 u.f1 u.f2 v.f0 v.f1 v.f2 = some q := ⟨_, rfl⟩
  rw [show opSub v u = ⟨q1, q2, q3⟩ from by have := Option.some.inj hq; cases this; rfl]
  have HQ := Aside0.mk hq
  clear hq
  have h0 := (blk_cell hb 0).trans rfl
  have h01 := (blk_cell hb 1).trans rfl
  have h02 := (blk_cell hb 2).trans rfl
  have hl : b < W.heap.size := blk_lt hb
  clear hb
  go_enter Try.func133, Try.ntmps133
  go_wp2_with fail
  obtain ⟨w3, hw3⟩ : ∃ w3, w3 = (W.alloc (.cells #[.int .i64 u.f0, .int .i64 u.f1, .int .i64 u.f2] 27)).alloc (.cells #[.int .i64 0, .int .i64 0, .int .i64 0] 27) := ⟨_, rfl⟩
  have hs3 : w3.heap.size = W.heap.size + 1 + 1 := by rw [hw3]; simp
  have hz3 : w3.heap[W.heap.size + 1]? = some (.cells #[.int .i64 0, .int .i64 0, .int .i64 0] 27 (0, 0)) := by rw [hw3]; have := blk_new (W.alloc (.cells #[.int .i64 u.f0, .int .i64 u.f1, .int .i64 u.f2] 27)) (.cells #[.int .i64 0, .int .i64 0, .int .i64 0] 27); simpa using this
  have hb3 : Below W.heap.size W w3 := by rw [hw3]; exact below_alloc (below_alloc (Below.refl _ _) _) _
  rw [← hw3]
  clear hw3
  refine (vec_Sub.calls u.f0 u.f1 u.f2 v.f0 v.f1 v.f2 q1 q2 q3 _ HQ.out).mono ?_
  rintro e w1 ⟨rfl, hb⟩
  have HB := Aside0.mk (below_step hb3 hb)
  have HZ := Aside0.mk (blk_below hz3 hb)
  have HS3 := Aside0.mk hs3
  clear hb hb3 hz3 hs3 h0 h01 h02
  have g0 := (blk_cell HZ.out 0).trans rfl
  have g1 := (blk_cell HZ.out 1).trans rfl
  have g2 := (blk_cell HZ.out 2).trans rfl
  have z0 := blk_frozen HZ.out 0
  have z1 := blk_frozen HZ.out 1
  have z2 := blk_frozen HZ.out 2
  have hs1 : W.heap.size + 1 < w1.heap.size := blk_lt HZ.out
  go_wp2
  refine bodyPost_ret (results_cell_row rfl _ _ (W.heap.size + 1) 27 #[.int .i64 q1, .int .i64 q2, .int .i64 q3] (0, 0) _ rfl (blk_put (blk_put (blk_put HZ.out 0 _ rfl) 1 _ rfl) 2 _ rfl) Try.underlying27 rfl (by kernel_rfl)) rfl ?_
  have hle : W.heap.size ≤ W.heap.size + 1 := by omega
  exact ⟨rfl, below_set (below_set (below_set HB.out hle) hle) hle⟩
/-- what Release makes -/
def admit_Release.f (k : Nat) (l0 : List (S31)) (a1 : ByteArray) (a2_0 : Int) (a2_1 : Int) (a2_2 : Int) : Option ((List (S31)) × Int) :=
  (tree_Up.f k l0 a1).bind fun us => (vec_May.f a2_0 a2_1 a2_2).bind fun m => if m = true then (if us.length = 0 then some ([], 2) else (tree_Find.f l0 a1).bind fun j => if 0 ≤ j ∧ j < (l0.length : Int) then (if leV ⟨a2_0, a2_1, a2_2⟩ (rd_T31 l0 j).f3 = true then (changedF (opSub ⟨a2_0, a2_1, a2_2⟩) l0 us).bind fun r => some (r, 0) else some ([], 1)) else none) else some ([], 1)
theorem admit_Release.mono : ∀ a0 a1 a2 a3 a4 k, LeO (admit_Release.f k a0 a1 a2 a3 a4) (admit_Release.f (k + 1) a0 a1 a2 a3 a4) := by
  intro a0 a1 a2 a3 a4 k
  unfold admit_Release.f
  exact LeO.bind (tree_Up.mono _ _ k) (fun _ => LeO.refl _)
set_option maxHeartbeats 4000000 in
set_option maxRecDepth 100000 in
theorem admit_Release.calls (k : Nat) (A0 : Option Addr) (c0 : Nat) (l0 : List (S31)) (a1 : ByteArray) (a2_0 : Int) (a2_1 : Int) (a2_2 : Int) (r1 : List (S31)) (r2 : Int) (w : World) (hr0 : Kd.C k31 w A0 l0.length l0) (hc0 : l0.length ≤ c0) (h : admit_Release.f k l0 a1 a2_0 a2_1 a2_2 = some (r1, r2)) :
    Calls Try.prog 76 #[.slice A0 l0.length c0, .string a1, .agg #[.int .i64 a2_0, .int .i64 a2_1, .int .i64 a2_2]] w fun e w' => ∃ v0_ : Value, e = .returned (.tuple #[v0_, .int .i64 r2]) ∧ Kd.R k31 31 w' w.heap.size (fun _ => True) v0_ r1 ∧ Below w.heap.size w w' := by
  have hu31 := Try.underlying31
  have hu149 := Try.underlying149
  have hu147 := Try.underlying147
  have hu27 := Try.underlying27
  obtain ⟨us, hus, h1⟩ := Option.bind_eq_some_iff.1 h
  obtain ⟨m, hm, h2⟩ := Option.bind_eq_some_iff.1 h1
  obtain ⟨w1, hw1⟩ : ∃ w1, w1 = w.alloc (.cells #[.int .i64 a2_0, .int .i64 a2_1, .int .i64 a2_2] 27) := ⟨_, rfl⟩
  have hv1 : w1.heap[w.heap.size]? = some (.cells #[.int .i64 a2_0, .int .i64 a2_1, .int .i64 a2_2] 27 (0, 0)) := by rw [hw1]; exact blk_new _ _
  have hB1 : Below w.heap.size w w1 := by rw [hw1]; exact below_alloc (Below.refl _ _) _
  have HC := Aside0.mk (admitMade_calls k A0 c0 l0 a1 us w1 (Kd.C_below hr0 hB1) hc0 hus)
  have HR := Aside0.mk hr0
  have HM := Aside0.mk hm
  have HH := Aside0.mk h2
  have HW1 := Aside0.mk hw1
  have HV1 := Aside0.mk hv1
  have HB1 := Aside0.mk hB1
  clear hus h h1 h2 hm hr0 hw1 hv1 hB1
  go_enter Try.func76, Try.ntmps76
  go_wp2_with fail
  rw [← HW1.out]
  refine HC.out.mono ?_
  rintro e w2 ⟨Au, cu, rfl, hu, hcu, hb⟩
  have HU := Aside0.mk hu
  have HB2 := Aside0.mk (below_step HB1.out hb)
  have HV2 := Aside0.mk (blk_below HV1.out hb)
  clear hu hb HC HV1 HB1 HW1
  have g0 := (blk_cell HV2.out 0).trans rfl
  have g1 := (blk_cell HV2.out 1).trans rfl
  have g2 := (blk_cell HV2.out 2).trans rfl
  have hlv : w.heap.size < w2.heap.size := blk_lt HV2.out
  go_wp2_with fail
  obtain ⟨w3, hw3⟩ : ∃ w3, w3 = w2.alloc (.cells #[.slice A0 l0.length c0, .slice Au us.length cu] 149) := ⟨_, rfl⟩
  have hp3 : w3.heap[w2.heap.size]? = some (.cells #[.slice A0 l0.length c0, .slice Au us.length cu] 149 (0, 0)) := by rw [hw3]; exact blk_new _ _
  have hb3 : Below w2.heap.size w2 w3 := by rw [hw3]; exact below_alloc (Below.refl _ _) _
  rw [← hw3]
  refine (vec_May.calls _ _ _ _ _ HM.out).mono ?_
  rintro e w4 ⟨rfl, hb⟩
  have HB := Aside0.mk (below_step (below_step HB2.out hb3) hb)
  have HP := Aside0.mk (blk_below hp3 hb)
  have HV := Aside0.mk (blk_below (blk_below HV2.out hb3) hb)
  have HU4 := Aside0.mk (Kd.C_below (Kd.C_below HU.out hb3) hb)
  have HR4 := Aside0.mk (Kd.C_below HR.out HB.out)
  clear hw3 hp3 hb3 hb g0 g1 g2 HU HV2 HB2 HR
  have p0 := (blk_cell HP.out 0).trans rfl
  have p1 := (blk_cell HP.out 1).trans rfl
  have hlp : w2.heap.size < w4.heap.size := blk_lt HP.out
  cases m with
  | false =>
    have HH1 : Aside0 _ := ⟨Option.some.inj HH.out⟩
    have e1 : r1 = [] := (congrArg Prod.fst HH1.out).symm
    have e2 : r2 = 1 := (congrArg Prod.snd HH1.out).symm
    subst e1 e2
    go_wp2
    go_ret2
    exact ⟨_, rfl, Kd.R_nil _ _ _ _ _, HB.out⟩
  | true =>
    by_cases hz : us.length = 0
    · have HH1 : Aside0 _ := ⟨Option.some.inj ((if_pos hz).symm.trans HH.out)⟩
      have e1 : r1 = [] := (congrArg Prod.fst HH1.out).symm
      have e2 : r2 = 2 := (congrArg Prod.snd HH1.out).symm
      subst e1 e2
      have hzb : ((us.length : Int) == 0) = true := by rw [hz]; rfl
      clear HH HH1
      go_wp2
      go_ret2
      exact ⟨_, rfl, Kd.R_nil _ _ _ _ _, HB.out⟩
    · have hh := (if_neg hz).symm.trans HH.out
      obtain ⟨j, hj, h3⟩ := Option.bind_eq_some_iff.1 hh
      have hzb : ((us.length : Int) == 0) = false := beq_eq_false_iff_ne.2 (by omega)
      by_cases hjj : 0 ≤ j ∧ j < (l0.length : Int)
      · have HH3 := Aside0.mk ((if_pos hjj).symm.trans h3)
        have HJ := Aside0.mk hj
        obtain ⟨hj0, hj1⟩ := hjj
        have q0 := eq_true hj0
        have q1 := eq_true hj1
        obtain ⟨ad, e1, k0, k1, k2, k3, k4, k5, k6, k7, k8, k9, k10, k11⟩ := at_T31 HR4.out j hj0 hj1
        cases e1
        generalize rd_T31 l0 j = x at k0 k1 k2 k3 k4 k5 k6 k7 k8 k9 k10 k11 HH3
        obtain ⟨q, hq⟩ : ∃ q, leV ⟨a2_0, a2_1, a2_2⟩ x.f3 = q := ⟨_, rfl⟩
        rw [hq] at HH3
        have HL := Aside0.mk ((leV_eq ⟨a2_0, a2_1, a2_2⟩ x.f3).trans (congrArg some hq))
        clear k0 k1 k2 k3 k4 k8 k9 k10 k11 hq hh h3 hj hj0 hj1 HH hz
        have v0 := (blk_cell HV.out 0).trans rfl
        have v1 := (blk_cell HV.out 1).trans rfl
        have v2 := (blk_cell HV.out 2).trans rfl
        have hB : Below w.heap.size w w4 := HB.out
        have hBd : Below w.heap.size w w4.drew := below_drew hB
        have hW4 : Below w4.heap.size w4 w4 := Below.refl _ _
        have hW4d : Below w4.heap.size w4 w4.drew := below_drew hW4
        go_wp2_with fail
        go_region_held3 (fun w' => w'.cell? ⟨w.heap.size, 0, none⟩ = some (.int .i64 a2_0) ∧ w'.cell? ⟨w.heap.size, 1, none⟩ = some (.int .i64 a2_1) ∧ w'.cell? ⟨w.heap.size, 2, none⟩ = some (.int .i64 a2_2) ∧ w'.cell? ⟨w2.heap.size, 0, none⟩ = some (.slice (some ad) l0.length c0) ∧ w'.cell? ⟨(ad.add (j.toNat * 12)).block, (ad.add (j.toNat * 12)).off + 5, none⟩ = some (.int .i64 x.f3.f0) ∧ w'.cell? ⟨(ad.add (j.toNat * 12)).block, (ad.add (j.toNat * 12)).off + 6, none⟩ = some (.int .i64 x.f3.f1) ∧ w'.cell? ⟨(ad.add (j.toNat * 12)).block, (ad.add (j.toNat * 12)).off + 7, none⟩ = some (.int .i64 x.f3.f2) ∧ Below w4.heap.size w4 w')
          (first | (go_keep; done) | (go_split_ands; refine ⟨?_, ?_, ?_, ?_, ?_, ?_, ?_, ?_⟩ <;> first | exact below_step (by assumption) hb | exact pw_cell_below hb (by first | assumption | (go_keep; done))))
          (first | (go_at_call 132; refine (admit_live_at.calls _ _ l0 a1 j _ (Kd.C_below HR4.out (by assumption)) hc0 HJ.out).mono ?_; rintro e w' ⟨rfl, hb⟩) | (go_at_call 118; refine (vec_Le.calls _ _ _ _ _ _ _ _ HL.out).mono ?_; rintro e w' ⟨rfl, hb⟩))
        rename_i hHeld
        have HB45 := Aside0.mk hHeld.2.2.2.2.2.2.2
        clear hHeld v0 v1 v2 p0 p1 hB hBd hW4 hW4d k5 k6 k7
        have HB5 := Aside0.mk (below_step HB.out HB45.out)
        have HP5 := Aside0.mk (blk_below HP.out HB45.out)
        have HV5 := Aside0.mk (blk_below HV.out HB45.out)
        have HU5 := Aside0.mk (Kd.C_below HU4.out HB45.out)
        have HR5 := Aside0.mk (Kd.C_below HR4.out HB45.out)
        clear HB45 HP HV HU4 HR4 HL HJ
        have p0 := (blk_cell HP5.out 0).trans rfl
        have p1 := (blk_cell HP5.out 1).trans rfl
        have hlp5 := blk_lt HP5.out
        cases q with
        | false =>
          have HH1 : Aside0 _ := ⟨Option.some.inj HH3.out⟩
          have e1 : r1 = [] := (congrArg Prod.fst HH1.out).symm
          have e2 : r2 = 1 := (congrArg Prod.snd HH1.out).symm
          subst e1 e2
          clear HH3 HH1
          go_wp2
          go_ret2
          exact ⟨_, rfl, Kd.R_nil _ _ _ _ _, HB5.out⟩
        | true =>
          obtain ⟨r, hr, h4⟩ := Option.bind_eq_some_iff.1 HH3.out
          have e1 : r = r1 := congrArg Prod.fst (Option.some.inj h4)
          have e2 : r2 = 0 := (congrArg Prod.snd (Option.some.inj h4)).symm
          subst e1 e2
          have HCH := Aside0.mk (admitChanged_calls 133 #[.pointer (some ⟨w.heap.size, 0, none⟩)] (opSub ⟨a2_0, a2_1, a2_2⟩) (some ad) Au c0 cu l0 us r _ (enters_of Try.func133 (by kernel_rfl) rfl) HR5.out hc0 HU5.out hcu
            (fun W' u hb => release1_calls W' w.heap.size ⟨a2_0, a2_1, a2_2⟩ u (blk_below HV5.out hb)) hr)
          clear hr h4 HH3
          go_wp2_with fail
          refine HCH.out.mono ?_
          rintro e w6 ⟨v, rfl, ho, hb⟩
          have HB6 := Aside0.mk (below_step HB5.out hb)
          have HO6 := Aside0.mk (Kd.R_lower ho HB5.out.size)
          clear ho hb HCH
          go_wp2
          go_ret2
          exact ⟨_, rfl, HO6.out, HB6.out⟩
      · rw [if_neg hjj] at h3
        cases h3
end Go.Proofs.Ytcgefpklljclgaa.Print
