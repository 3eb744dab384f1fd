/- A part of the proof of TreeSums: the machine's side by the kit's print, contracts and lemmas by this session. -/
import Derived.Test.YtcgefpklljclgaaBTreeSums1
import Derived.Test.YtcgefpklljclgaaBTreeSums2
import Derived.Test.YtcgefpklljclgaaBTreeSums4
namespace Go.Proofs.Ytcgefpklljclgaa.Print
open Go.RowKit Go.Proofs.YtcgefpklljclgaaW.PrintWords Go.Proofs.YtcgefpklljclgaaW.PrintLast Go.Proofs.YtcgefpklljclgaaW.PrintMore
attribute [local go_sem] max2_int min2_int max_two min_two max_three min_three max_four min_four   -- for this text's walks alone
set_option linter.unusedVariables false
set_option linter.unusedSimpArgs false
attribute [local go_sem high] eqA27
mutual
def law12_TreeSums.l0 : Nat → List (S31) → Int → Int → Int → Int → Int → Int → Int → Option (Bool)
 | 0, _, _, _, _, _, _, _, _ => none
 | k + 1, x3, x6, x7000, x7001, x7002, x8000, x8001, x8002 => if x6 < (x3.length : Int) then (if 0 ≤ x6 then ((r10_Add.f x7000 x7001 x7002 ((rd_T31 x3 x6).f3.f0) ((rd_T31 x3 x6).f3.f1) ((rd_T31 x3 x6).f3.f2)).bind fun bt10 => (if ((rd_T31 x3 x6).f1).toList = ([] : List UInt8) then ((r10_Add.f x8000 x8001 x8002 ((rd_T31 x3 x6).f4.f0) ((rd_T31 x3 x6).f4.f1) ((rd_T31 x3 x6).f4.f2)).bind fun bt15 => (law12_TreeSums.j1 k x3 x6 bt10.1 bt10.2.1 bt10.2.2 bt15.1 bt15.2.1 bt15.2.2)) else (law12_TreeSums.j1 k x3 x6 bt10.1 bt10.2.1 bt10.2.2 x8000 x8001 x8002))) else (none)) else (if (x7000 == x8000 && (x7001 == x8001 && (x7002 == x8002))) = true then ((law12_awake.f k).bind fun t8 => (some t8)) else (some false))
def law12_TreeSums.j1 : Nat → List (S31) → Int → Int → Int → Int → Int → Int → Int → Option (Bool)
 | 0, _, _, _, _, _, _, _, _ => none
 | k + 1, x3, x6, x7000, x7001, x7002, x8000, x8001, x8002 => if 0 ≤ x6 then (if x6 < (x3.length : Int) then ((tree_Up.f k x3 ((rd_T31 x3 x6).f0)).bind fun t19 => (law12_TreeSums.l1 k x3 x6 t19 0 x7000 x7001 x7002 x8000 x8001 x8002)) else (none)) else (none)
def law12_TreeSums.l1 : Nat → List (S31) → Int → List ByteArray → Int → Int → Int → Int → Int → Int → Int → Option (Bool)
 | 0, _, _, _, _, _, _, _, _, _, _ => none
 | k + 1, x3, x6, x7, x8, x7000, x7001, x7002, x8000, x8001, x8002 => if x8 < (x7.length : Int) then (if 0 ≤ x8 then ((tree_Find.f x3 (rdOf ByteArray.empty x7 x8)).bind fun t27 => (if t27 < 0 then (some false) else (if t27 ≥ (x3.length : Int) then (some false) else (if 0 ≤ x6 then (if x6 < (x3.length : Int) then (if 0 ≤ t27 then (if t27 < (x3.length : Int) then ((r10_Le.f ((rd_T31 x3 x6).f3.f0) ((rd_T31 x3 x6).f3.f1) ((rd_T31 x3 x6).f3.f2) ((rd_T31 x3 t27).f2.f0) ((rd_T31 x3 t27).f2.f1) ((rd_T31 x3 t27).f2.f2)).bind fun t30 => (if t30 = true then (law12_TreeSums.l1 k x3 x6 x7 (wrap64 (x8 + 1)) x7000 x7001 x7002 x8000 x8001 x8002) else (some false))) else (none)) else (none)) else (none)) else (none))))) else (none)) else (if (x7.length : Int) = 0 then (some false) else (if 0 < (x7.length : Int) then (if 0 ≤ x6 then (if x6 < (x3.length : Int) then (if (rdOf ByteArray.empty x7 0).toList = ((rd_T31 x3 x6).f0).toList then ((tree_Depth.f k x3 ((rd_T31 x3 x6).f0)).bind fun t25 => (if (x7.length : Int) = t25 then (law12_TreeSums.l0 k x3 (wrap64 (x6 + 1)) x7000 x7001 x7002 x8000 x8001 x8002) else (some false))) else (some false)) else (none)) else (none)) else (none)))
end
def law12_TreeSums.f (k : Nat) (l0 : List Int) : Option (Bool) := if (l0.length : Int) > 90 then ((law12_awake.f k).bind fun t1 => (some t1)) else ((law12_Make.f k l0).bind fun t2 => ((tree_Right.f k t2).bind fun t5 => (if t5 = true then (law12_TreeSums.l0 k t2 0 0 0 0 0 0 0) else (some false))))
theorem law12_TreeSums.mono_l : ∀ k, (∀ y0 y1 y2 y3 y4 y5 y6 y7, LeO (law12_TreeSums.l0 k y0 y1 y2 y3 y4 y5 y6 y7) (law12_TreeSums.l0 (k + 1) y0 y1 y2 y3 y4 y5 y6 y7)) ∧ (∀ y0 y1 y2 y3 y4 y5 y6 y7, LeO (law12_TreeSums.j1 k y0 y1 y2 y3 y4 y5 y6 y7) (law12_TreeSums.j1 (k + 1) y0 y1 y2 y3 y4 y5 y6 y7)) ∧ (∀ y0 y1 y2 y3 y4 y5 y6 y7 y8 y9, LeO (law12_TreeSums.l1 k y0 y1 y2 y3 y4 y5 y6 y7 y8 y9) (law12_TreeSums.l1 (k + 1) y0 y1 y2 y3 y4 y5 y6 y7 y8 y9))
 | 0 => ⟨fun _ _ _ _ _ _ _ _ r h => by simp [law12_TreeSums.l0] at h, fun _ _ _ _ _ _ _ _ r h => by simp [law12_TreeSums.j1] at h, fun _ _ _ _ _ _ _ _ _ _ r h => by simp [law12_TreeSums.l1] at h⟩
 | k + 1 => by
  obtain ⟨ih0, ih1, ih2⟩ := law12_TreeSums.mono_l k
  refine ⟨?_, ?_, ?_⟩
  ·intro y0 y1 y2 y3 y4 y5 y6 y7
   unfold law12_TreeSums.l0
   repeat' first
   | (with_reducible exact ih0 _ _ _ _ _ _ _ _)
   | (with_reducible exact ih1 _ _ _ _ _ _ _ _)
   | (with_reducible exact ih2 _ _ _ _ _ _ _ _ _ _)
   | (with_reducible exact law12_Make.mono _ _)
   | (with_reducible exact law12_awake.mono _)
   | (with_reducible exact tree_Depth.mono _ _ _)
   | (with_reducible exact tree_Right.mono _ _)
   | (with_reducible exact tree_Up.mono _ _ _)
   | (with_reducible exact LeO.refl _)
   | (with_reducible exact LeO.none _)
   | (with_reducible refine LeO.ite ?_ ?_)
   | (with_reducible refine LeO.bind ?_ (fun _ => ?_))
   | exact ih0 _ _ _ _ _ _ _ _
   | exact ih1 _ _ _ _ _ _ _ _
   | exact ih2 _ _ _ _ _ _ _ _ _ _
   | exact law12_Make.mono _ _
   | exact law12_awake.mono _
   | exact tree_Depth.mono _ _ _
   | exact tree_Right.mono _ _
   | exact tree_Up.mono _ _ _
   | exact LeO.none _
   | refine LeO.ite ?_ ?_
   | refine LeO.bind ?_ (fun _ => ?_)
  ·intro y0 y1 y2 y3 y4 y5 y6 y7
   unfold law12_TreeSums.j1
   repeat' first
   | (with_reducible exact ih0 _ _ _ _ _ _ _ _)
   | (with_reducible exact ih1 _ _ _ _ _ _ _ _)
   | (with_reducible exact ih2 _ _ _ _ _ _ _ _ _ _)
   | (with_reducible exact law12_Make.mono _ _)
   | (with_reducible exact law12_awake.mono _)
   | (with_reducible exact tree_Depth.mono _ _ _)
   | (with_reducible exact tree_Right.mono _ _)
   | (with_reducible exact tree_Up.mono _ _ _)
   | (with_reducible exact LeO.refl _)
   | (with_reducible exact LeO.none _)
   | (with_reducible refine LeO.ite ?_ ?_)
   | (with_reducible refine LeO.bind ?_ (fun _ => ?_))
   | exact ih0 _ _ _ _ _ _ _ _
   | exact ih1 _ _ _ _ _ _ _ _
   | exact ih2 _ _ _ _ _ _ _ _ _ _
   | exact law12_Make.mono _ _
   | exact law12_awake.mono _
   | exact tree_Depth.mono _ _ _
   | exact tree_Right.mono _ _
   | exact tree_Up.mono _ _ _
   | exact LeO.none _
   | refine LeO.ite ?_ ?_
   | refine LeO.bind ?_ (fun _ => ?_)
  ·intro y0 y1 y2 y3 y4 y5 y6 y7 y8 y9
   unfold law12_TreeSums.l1
   repeat' first
   | (with_reducible exact ih0 _ _ _ _ _ _ _ _)
   | (with_reducible exact ih1 _ _ _ _ _ _ _ _)
   | (with_reducible exact ih2 _ _ _ _ _ _ _ _ _ _)
   | (with_reducible exact law12_Make.mono _ _)
   | (with_reducible exact law12_awake.mono _)
   | (with_reducible exact tree_Depth.mono _ _ _)
   | (with_reducible exact tree_Right.mono _ _)
   | (with_reducible exact tree_Up.mono _ _ _)
   | (with_reducible exact LeO.refl _)
   | (with_reducible exact LeO.none _)
   | (with_reducible refine LeO.ite ?_ ?_)
   | (with_reducible refine LeO.bind ?_ (fun _ => ?_))
   | exact ih0 _ _ _ _ _ _ _ _
   | exact ih1 _ _ _ _ _ _ _ _
   | exact ih2 _ _ _ _ _ _ _ _ _ _
   | exact law12_Make.mono _ _
   | exact law12_awake.mono _
   | exact tree_Depth.mono _ _ _
   | exact tree_Right.mono _ _
   | exact tree_Up.mono _ _ _
   | exact LeO.none _
   | refine LeO.ite ?_ ?_
   | refine LeO.bind ?_ (fun _ => ?_)
theorem law12_TreeSums.mono : ∀ a0 k, LeO (law12_TreeSums.f k a0) (law12_TreeSums.f (k + 1) a0) := by
 intro a0 k
 obtain ⟨ih0, ih1, ih2⟩ := law12_TreeSums.mono_l k
 unfold law12_TreeSums.f
 repeat' first
   | (with_reducible exact ih0 _ _ _ _ _ _ _ _)
   | (with_reducible exact ih1 _ _ _ _ _ _ _ _)
   | (with_reducible exact ih2 _ _ _ _ _ _ _ _ _ _)
   | (with_reducible exact law12_Make.mono _ _)
   | (with_reducible exact law12_awake.mono _)
   | (with_reducible exact tree_Depth.mono _ _ _)
   | (with_reducible exact tree_Right.mono _ _)
   | (with_reducible exact tree_Up.mono _ _ _)
   | (with_reducible exact LeO.refl _)
   | (with_reducible exact LeO.none _)
   | (with_reducible refine LeO.ite ?_ ?_)
   | (with_reducible refine LeO.bind ?_ (fun _ => ?_))
   | exact ih0 _ _ _ _ _ _ _ _
   | exact ih1 _ _ _ _ _ _ _ _
   | exact ih2 _ _ _ _ _ _ _ _ _ _
   | exact law12_Make.mono _ _
   | exact law12_awake.mono _
   | exact tree_Depth.mono _ _ _
   | exact tree_Right.mono _ _
   | exact tree_Up.mono _ _ _
   | exact LeO.none _
   | refine LeO.ite ?_ ?_
   | refine LeO.bind ?_ (fun _ => ?_)
def law12_TreeSums.T10 : Bool × List (List Nat × List Nat) := (true, [([], []), ([], []), ([], []), ([1, 2], [1, 2]), ([3], [3]), ([4], [4]), ([0, 5], [0, 5]), ([6, 6, 0, 1, 2, 3, 4, 5, 6], [6])])
def law12_TreeSums.B10 : List Nat := [0, 0, 0, 6, 14, 30, 63, 127]
theorem law12_TreeSums.tab10 : rtab .any (opsOf Try.f13 10) = law12_TreeSums.T10 := by kernel_rfl
theorem law12_TreeSums.bits10 : waitsOk law12_TreeSums.T10.2 law12_TreeSums.B10 = true := by kernel_rfl
def law12_TreeSums.T12 : Bool × List (List Nat × List Nat) := (true, [([], []), ([], []), ([], []), ([1, 2], [1, 2]), ([3], [3]), ([4], [4]), ([0, 5], [0, 5]), ([6, 6, 0, 1, 2, 3, 4, 5, 6], [6])])
def law12_TreeSums.B12 : List Nat := [0, 0, 0, 6, 14, 30, 63, 127]
theorem law12_TreeSums.tab12 : rtab .any (opsOf Try.f13 12) = law12_TreeSums.T12 := by kernel_rfl
theorem law12_TreeSums.bits12 : waitsOk law12_TreeSums.T12.2 law12_TreeSums.B12 = true := by kernel_rfl
def law12_TreeSums.T18 : Bool × List (List Nat × List Nat) := (true, [([], []), ([0], [0]), ([1], [1]), ([2], [2]), ([2], [2]), ([4, 2], [2, 4]), ([3, 5, 2], [2, 3, 5]), ([2, 6], [2, 6]), ([7, 2], [7]), ([8], [8]), ([8], [8]), ([9, 10, 8], [8, 9, 10]), ([11, 8], [8, 11]), ([12, 8], [8, 12]), ([8], [8]), ([8], [8]), ([14, 15, 8], [8, 14, 15]), ([16, 8], [8, 16]), ([17, 8], [8, 17]), ([13, 18, 8, 8], [8, 13, 18]), ([19, 8], [8, 19]), ([8, 20], [8, 20])])
def law12_TreeSums.B18 : List Nat := [0, 1, 3, 7, 7, 23, 63, 127, 255, 511, 511, 2047, 4095, 8191, 511, 511, 49663, 115199, 246271, 524287, 1048575, 2097151]
theorem law12_TreeSums.tab18 : rtab .any (opsOf Try.f13 18) = law12_TreeSums.T18 := by kernel_rfl
theorem law12_TreeSums.bits18 : waitsOk law12_TreeSums.T18.2 law12_TreeSums.B18 = true := by kernel_rfl
def law12_TreeSums.T20 : Bool × List (List Nat × List Nat) := (true, [([], []), ([0], [0]), ([1], [1]), ([2], [2]), ([3], [3]), ([4, 3], [3, 4]), ([5, 3], [3, 5]), ([3], [3]), ([3], [3]), ([7, 8, 3], [3, 7, 8]), ([9, 3], [3, 9]), ([10, 3], [3, 10]), ([6, 11, 3], [3, 6, 11]), ([3, 12], [3, 12]), ([13, 3], [13]), ([14], [14]), ([15, 14], [14, 15]), ([14], [14]), ([14], [14]), ([14], [14]), ([18, 19, 14], [14, 18, 19]), ([20, 14], [14, 20]), ([21, 14], [14, 21]), ([17, 22, 14, 14], [14, 17, 22]), ([16, 23, 14], [14, 16, 23]), ([14, 24], [14, 24])])
def law12_TreeSums.B20 : List Nat := [0, 1, 3, 7, 15, 31, 63, 15, 15, 399, 911, 1935, 4095, 8191, 16383, 32767, 65535, 32767, 32767, 32767, 819199, 1867775, 3964927, 8290303, 16777215, 33554431]
theorem law12_TreeSums.tab20 : rtab .any (opsOf Try.f13 20) = law12_TreeSums.T20 := by kernel_rfl
theorem law12_TreeSums.bits20 : waitsOk law12_TreeSums.T20.2 law12_TreeSums.B20 = true := by kernel_rfl
set_option maxHeartbeats 8000000 in
set_option maxRecDepth 100000 in
theorem law12_TreeSums.calls (k : Nat) (A0 : Option Addr) (c0 : Nat) (l0 : List Int) (r : Bool) (w : World) (hr0 : Kd.C (Kd.int .u8) w A0 l0.length l0) (hc0 : l0.length ≤ c0) (h : law12_TreeSums.f k l0 = some r) :
  Calls Try.prog 13 #[.slice A0 l0.length c0] w fun e w' => e = .returned (.bool r) ∧ Below w.heap.size w w' := by
 have hu27 := Try.underlying27
 have HR0 := Aside0.mk hr0
 have HC0 := Aside0.mk hc0
 clear hr0 hc0
 have HB := Aside0.mk (Below.refl w.heap.size w)
 have H : (if (l0.length : Int) > 90 then ((law12_awake.f k).bind fun t1 => (some t1)) else ((law12_Make.f k l0).bind fun t2 => ((tree_Right.f k t2).bind fun t5 => (if t5 = true then (law12_TreeSums.l0 k t2 0 0 0 0 0 0 0) else (some false))))) = some r := h
 clear h
 by_cases c2 : (l0.length : Int) > 90
 ·rw [if_pos c2] at H
  have c2b0 : decide (90 < (l0.length : Int)) = true := decide_eq_true c2
  have c2b1 : decide (90 < l0.length) = true := decide_eq_true (by omega)
  clear c2
  replace H := Option.bind_eq_some_iff.mp H
  obtain ⟨t1, A30, H⟩ := H
  replace H : (some t1) = some r := H
  have A3 := Aside0.mk A30
  clear A30
  obtain rfl := Option.some.inj H
  go_enter Try.func13, Try.ntmps13
  go_wp2_with (first|((with_reducible refine gate_callee (f := 67) rfl ?_);refine goesL_ (some 13) rfl rfl Try.func67 (by kernel_rfl) rfl #[] rfl (by (try simp only [List.map_toArray, List.map_cons, List.map_nil]);first|done|rfl|(simp only [List.length_drop, List.length_take];rfl)) ?_;(with_reducible refine (law12_awake.calls k  t1 _ A3.out).mono ?_);rintro e w4 ⟨rfl, hb⟩;refine ⟨_, rfl, ?_⟩;have n0_ := Aside0.mk (below_step (by repeat (first|(with_reducible first|exact HB.out|apply below_alloc|apply pw_below_drewN|apply below_drew1)|exact HB.out)) hb);clear HB;have HB := n0_;clear n0_;(try clear hb);(try clear hb2);(try clear hk);(try clear hi)))
  go_ret
  exact ⟨by first|rfl|(simp [errW_none, errW_some] <;> rfl)|(simp [*, errW_none, errW_some] <;> rfl), by repeat (first|(with_reducible first|exact HB.out|apply below_alloc|apply pw_below_drewN|apply below_drew1)|exact HB.out)⟩
 ·rw [if_neg c2] at H
  have c2b0 : decide (90 < (l0.length : Int)) = false := decide_eq_false c2
  have c2b1 : decide (90 < l0.length) = false := decide_eq_false (by omega)
  clear c2
  replace H := Option.bind_eq_some_iff.mp H
  obtain ⟨t2, A50, H⟩ := H
  replace H : ((tree_Right.f k t2).bind fun t5 => (if t5 = true then (law12_TreeSums.l0 k t2 0 0 0 0 0 0 0) else (some false))) = some r := H
  have A5 := Aside0.mk A50
  clear A50
  replace H := Option.bind_eq_some_iff.mp H
  obtain ⟨t5, A60, H⟩ := H
  replace H : (if t5 = true then (law12_TreeSums.l0 k t2 0 0 0 0 0 0 0) else (some false)) = some r := H
  have A6 := Aside0.mk A60
  clear A60
  by_cases c7 : t5 = true
  ·subst c7
   have H1 : (law12_TreeSums.l0 k t2 0 0 0 0 0 0 0) = some r := by rw [if_pos rfl] at H; exact H
   clear H
   have H := H1
   clear H1
   have H' := Aside0.mk H
   clear H
   go_enter Try.func13, Try.ntmps13
   go_wp2_with (first|((with_reducible refine gate_callee (f := 32) rfl ?_);refine goesL_ (some 15) rfl rfl Try.func32 (by kernel_rfl) rfl #[.slice A0 l0.length c0] rfl (by (try simp only [List.map_toArray, List.map_cons, List.map_nil]);first|done|rfl|(simp only [List.length_drop, List.length_take];rfl)) ?_;(with_reducible refine (law12_Make.calls k _ _ l0 t2 _ ?side1 ?side2 A5.out).mono ?_);(case side1 => repeat (first|exact HR0.out|(with_reducible refine Kd.C_alloc ?_ _)|(with_reducible refine Kd.C_drewN ?_ _)|(with_reducible refine Kd.C_drew ?_)));(case side2 => exact HC0.out);rintro e w8 ⟨v3, rfl, ho0, hb⟩;refine ⟨_, rfl, ?_⟩;have n0_ := Aside0.mk (Kd.R_lower ho0 (below_size (by repeat (first|(with_reducible first|exact HB.out|apply below_alloc|apply pw_below_drewN|apply below_drew1)|exact HB.out))));have n1_ := Aside0.mk (below_step (by repeat (first|(with_reducible first|exact HB.out|apply below_alloc|apply pw_below_drewN|apply below_drew1)|exact HB.out)) hb);clear HB;have HO4 := n0_;have HB := n1_;clear n0_ n1_;(try clear hb);(try clear hb2);(try clear hk);(try clear hi);(try clear ho0);obtain ⟨Ao9, co9, eo9⟩ := Kd.R_slice HO4.out;subst eo9)|((with_reducible refine gate_callee (f := 68) rfl ?_);refine goesL_ (some 17) rfl rfl Try.func68 (by kernel_rfl) rfl #[.slice Ao9 t2.length co9] rfl (by (try simp only [List.map_toArray, List.map_cons, List.map_nil]);first|done|rfl|(simp only [List.length_drop, List.length_take];rfl)) ?_;(with_reducible refine (tree_Right.calls k _ _ t2 true _ ?side1 ?side2 A6.out).mono ?_);(case side1 => repeat (first|exact (Kd.R_reads' HO4.out).2.2|(with_reducible refine Kd.C_alloc ?_ _)|(with_reducible refine Kd.C_drewN ?_ _)|(with_reducible refine Kd.C_drew ?_)));(case side2 => exact (Kd.R_reads' HO4.out).2.1);rintro e w10 ⟨rfl, hb⟩;refine ⟨_, rfl, ?_⟩;have n0_ := Aside0.mk (Kd.R_below (by (with_reducible repeat (first|apply Kd.R_alloc|apply Kd.R_drewN|apply Kd.R_drew));exact HO4.out) hb);have n1_ := Aside0.mk (below_step (by repeat (first|(with_reducible first|exact HB.out|apply below_alloc|apply pw_below_drewN|apply below_drew1)|exact HB.out)) hb);clear HO4;clear HB;have HO4 := n0_;have HB := n1_;clear n0_ n1_;(try clear hb);(try clear hb2);(try clear hk);(try clear hi))|((with_reducible refine gate_dst (N := 4) rfl ?_);(try (refine gate_guard (by rfl) ?_;dsimp only));refine box_event ?hg (N := 4) ?hd (cs := #[.int .i64 0, .int .i64 0, .int .i64 0]) (t := 27) ?hr ?_;(case hd => rfl);(case hg => rfl);(case hr => first|(go_simp;done)|(go_simp;rfl));intro gb6 hg w11 hbox hb;have n0_ := Aside0.mk (Kd.R_below (by (with_reducible repeat (first|apply Kd.R_alloc|apply Kd.R_drewN|apply Kd.R_drew));exact HO4.out) hb);have n1_ := Aside0.mk (below_step (by repeat (first|(with_reducible first|exact HB.out|apply below_alloc|apply pw_below_drewN|apply below_drew1)|exact HB.out)) hb);have n2_ := Aside0.mk (hbox);have n3_ := Aside0.mk ((by rw [hg];exact (below_size (by repeat (first|(with_reducible first|exact HB.out|apply below_alloc|apply pw_below_drewN|apply below_drew1)|exact HB.out))) : w.heap.size ≤ gb6));have n4_ := Aside0.mk ((by rw [hg];exact (below_size (by repeat (first|(with_reducible first|exact HB.out|apply below_alloc|apply pw_below_drewN|apply below_drew1)|exact HB.out))) : w.heap.size ≤ gb6));clear HO4;clear HB;have HO4 := n0_;have HB := n1_;have BK6 := n2_;have GW6 := n3_;have GE6 := n4_;clear n0_ n1_ n2_ n3_ n4_;clear hb hbox hg)|((with_reducible refine gate_dst (N := 5) rfl ?_);(try (refine gate_guard (by rfl) ?_;dsimp only));refine box_event ?hg (N := 5) ?hd (cs := #[.int .i64 0, .int .i64 0, .int .i64 0]) (t := 27) ?hr ?_;(case hd => rfl);(case hg => rfl);(case hr => first|(go_simp;done)|(go_simp;rfl));intro gb7 hg w12 hbox hb;have n0_ := Aside0.mk (Kd.R_below (by (with_reducible repeat (first|apply Kd.R_alloc|apply Kd.R_drewN|apply Kd.R_drew));exact HO4.out) hb);have n1_ := Aside0.mk (blk_below (g := gb6) (o := .cells #[.int .i64 0, .int .i64 0, .int .i64 0] 27 (0, 0)) (by (with_reducible repeat (first|refine blk_drewN ?_ _|refine blk_drew ?_|refine blk_alloc ?_ _));exact BK6.out) hb);have n2_ := Aside0.mk (below_step (by repeat (first|(with_reducible first|exact HB.out|apply below_alloc|apply pw_below_drewN|apply below_drew1|refine below_set ?_ GE6.out)|exact HB.out)) hb);have n3_ := Aside0.mk (hbox);have n4_ := Aside0.mk ((by rw [hg];exact (below_size (by repeat (first|(with_reducible first|exact HB.out|apply below_alloc|apply pw_below_drewN|apply below_drew1|refine below_set ?_ GE6.out)|exact HB.out))) : w.heap.size ≤ gb7));have n5_ := Aside0.mk ((by rw [hg];exact (below_size (by repeat (first|(with_reducible first|exact HB.out|apply below_alloc|apply pw_below_drewN|apply below_drew1|refine below_set ?_ GE6.out)|exact HB.out))) : w.heap.size ≤ gb7));have n6_ := Aside0.mk ((by rw [hg];exact Nat.ne_of_lt (blk_lt (g := gb6) (o := .cells #[.int .i64 0, .int .i64 0, .int .i64 0] 27 (0, 0)) (by (with_reducible repeat (first|refine blk_drewN ?_ _|refine blk_drew ?_|refine blk_alloc ?_ _));exact BK6.out)) : gb6 ≠ gb7));have n7_ := Aside0.mk ((by rw [hg];exact Nat.ne_of_gt (blk_lt (g := gb6) (o := .cells #[.int .i64 0, .int .i64 0, .int .i64 0] 27 (0, 0)) (by (with_reducible repeat (first|refine blk_drewN ?_ _|refine blk_drew ?_|refine blk_alloc ?_ _));exact BK6.out)) : gb7 ≠ gb6));clear HO4;clear BK6;clear HB;have HO4 := n0_;have BK6 := n1_;have HB := n2_;have BK7 := n3_;have GW7 := n4_;have GE7 := n5_;have NB6_7 := n6_;have NB7_6 := n7_;clear n0_ n1_ n2_ n3_ n4_ n5_ n6_ n7_;clear hb hbox hg))
   go_loopg [6] k (fun kq v6 w' => ∃ (x6_1 : Int) (x7000_1 : Int) (x7001_1 : Int) (x7002_1 : Int) (x8000_1 : Int) (x8001_1 : Int) (x8002_1 : Int), v6 = .int .i64 x6_1 ∧ Aside0 (law12_TreeSums.l0 kq t2 x6_1 x7000_1 x7001_1 x7002_1 x8000_1 x8001_1 x8002_1 = some r) ∧ Aside0 (kq ≤ k) ∧ Aside0 (Kd.R k31 31 w' w.heap.size (fun _ => True) (.slice Ao9 t2.length co9) t2) ∧ Aside0 (w'.heap[gb6]? = some (.cells #[.int .i64 x7000_1, .int .i64 x7001_1, .int .i64 x7002_1] 27 (0, 0))) ∧ Aside0 (w'.heap[gb7]? = some (.cells #[.int .i64 x8000_1, .int .i64 x8001_1, .int .i64 x8002_1] 27 (0, 0))) ∧ Aside0 (Below w.heap.size w w'))
   case atStart => exact ⟨(0), (0), (0), (0), (0), (0), (0), (by first|rfl|(simp;done)|(simp [*];done)), H', ⟨Nat.le_refl _⟩, ⟨by (with_reducible repeat (first|apply Kd.R_alloc|apply Kd.R_drewN|apply Kd.R_drew));exact HO4.out⟩, ⟨by (with_reducible repeat (first|refine blk_drewN ?_ _|refine blk_drew ?_|refine blk_alloc ?_ _));exact BK6.out⟩, ⟨by (with_reducible repeat (first|refine blk_drewN ?_ _|refine blk_drew ?_|refine blk_alloc ?_ _));exact BK7.out⟩, ⟨by repeat (first|(with_reducible first|exact HB.out|apply below_alloc|apply pw_below_drewN|apply below_drew1|refine below_set ?_ GE6.out|refine below_set ?_ GE7.out)|exact HB.out)⟩⟩
   case round =>
    clear H'
    try clear c1
    try clear c2
    try clear c2b0
    try clear c2b1
    try clear p2
    try clear c3
    try clear c6
    try clear c7
    obtain ⟨x6_1, x7000_1, x7001_1, x7002_1, x8000_1, x8001_1, x8002_1, rfl, HA, HK1, HO_3, BK6, BK7, HB⟩ := hrel
    cases gk with
    | zero => exact absurd HA.out (by simp [law12_TreeSums.l0])
    | succ k1 =>
     have H := HA.out
     clear HA
     simp only [law12_TreeSums.l0] at H
     by_cases c13 : x6_1 < (t2.length : Int)
     ·rw [if_pos c13] at H
      have c13b0 : decide (x6_1 < (t2.length : Int)) = true := decide_eq_true c13
      clear c13
      by_cases c14 : 0 ≤ x6_1
      ·rw [if_pos c14] at H
       have c14b0 : decide (0 ≤ x6_1) = true := decide_eq_true c14
       clear c14
       replace H := Option.bind_eq_some_iff.mp H
       obtain ⟨⟨t10, t11, t12⟩, A150, H⟩ := H
       replace H : (if ((rd_T31 t2 x6_1).f1).toList = ([] : List UInt8) then ((r10_Add.f x8000_1 x8001_1 x8002_1 ((rd_T31 t2 x6_1).f4.f0) ((rd_T31 t2 x6_1).f4.f1) ((rd_T31 t2 x6_1).f4.f2)).bind fun bt15 => (law12_TreeSums.j1 k1 t2 x6_1 t10 t11 t12 bt15.1 bt15.2.1 bt15.2.2)) else (law12_TreeSums.j1 k1 t2 x6_1 t10 t11 t12 x8000_1 x8001_1 x8002_1)) = some r := H
       have A15 := Aside0.mk A150
       clear A150
       have HC16 := Aside0.mk H
       clear H
       try go_wp2
       have n0_ := Aside0.mk (Kd.R_drew HO_3.out)
       have n1_ := Aside0.mk (blk_drew BK6.out)
       have n2_ := Aside0.mk (blk_drew BK7.out)
       have n3_ := Aside0.mk (below_drew1 HB.out)
       clear HO_3
       clear BK6
       clear BK7
       clear HB
       have HO_3 := n0_
       have BK6 := n1_
       have BK7 := n2_
       have HB := n3_
       clear n0_ n1_ n2_ n3_
       have p9 : 0 ≤ (x6_1 : Int) := of_decide_eq_true (by first|(with_reducible assumption)|assumption)
       have q9 : x6_1 < (t2.length : Int) := of_decide_eq_true (by first|(with_reducible assumption)|assumption)
       obtain ⟨ad9, e9, hx9_0, hx9_1, hx9_2, hx9_3, hx9_4, hx9_5, hx9_6, hx9_7, hx9_8, hx9_9, hx9_10, hx9_11⟩ := at_T31 (Kd.R_reads' HO_3.out).2.2 x6_1 p9 q9
       cases e9
       replace p9 := eq_true p9
       replace q9 := eq_true q9
       refine start_ (n := 8) (S := fun w' => w'.cell? ⟨gb6, 0, none⟩ = some (.int .i64 x7000_1) ∧ w'.cell? ⟨gb6, 1, none⟩ = some (.int .i64 x7001_1) ∧ w'.cell? ⟨gb6, 2, none⟩ = some (.int .i64 x7002_1) ∧ w'.cell? (ad9.add ((x6_1).toNat * 12)) = some (.string ((rd_T31 t2 x6_1).f0)) ∧ w'.cell? ⟨(ad9.add ((x6_1).toNat * 12)).block, (ad9.add ((x6_1).toNat * 12)).off + 1, none⟩ = some (.string ((rd_T31 t2 x6_1).f1)) ∧ w'.cell? ⟨(ad9.add ((x6_1).toNat * 12)).block, (ad9.add ((x6_1).toNat * 12)).off + 2, none⟩ = some (.int .i64 ((rd_T31 t2 x6_1).f2.f0)) ∧ w'.cell? ⟨(ad9.add ((x6_1).toNat * 12)).block, (ad9.add ((x6_1).toNat * 12)).off + 3, none⟩ = some (.int .i64 ((rd_T31 t2 x6_1).f2.f1)) ∧ w'.cell? ⟨(ad9.add ((x6_1).toNat * 12)).block, (ad9.add ((x6_1).toNat * 12)).off + 4, none⟩ = some (.int .i64 ((rd_T31 t2 x6_1).f2.f2)) ∧ w'.cell? ⟨(ad9.add ((x6_1).toNat * 12)).block, (ad9.add ((x6_1).toNat * 12)).off + 5, none⟩ = some (.int .i64 ((rd_T31 t2 x6_1).f3.f0)) ∧ w'.cell? ⟨(ad9.add ((x6_1).toNat * 12)).block, (ad9.add ((x6_1).toNat * 12)).off + 6, none⟩ = some (.int .i64 ((rd_T31 t2 x6_1).f3.f1)) ∧ w'.cell? ⟨(ad9.add ((x6_1).toNat * 12)).block, (ad9.add ((x6_1).toNat * 12)).off + 7, none⟩ = some (.int .i64 ((rd_T31 t2 x6_1).f3.f2)) ∧ w'.cell? ⟨(ad9.add ((x6_1).toNat * 12)).block, (ad9.add ((x6_1).toNat * 12)).off + 8, none⟩ = some (.int .i64 ((rd_T31 t2 x6_1).f4.f0)) ∧ w'.cell? ⟨(ad9.add ((x6_1).toNat * 12)).block, (ad9.add ((x6_1).toNat * 12)).off + 9, none⟩ = some (.int .i64 ((rd_T31 t2 x6_1).f4.f1)) ∧ w'.cell? ⟨(ad9.add ((x6_1).toNat * 12)).block, (ad9.add ((x6_1).toNat * 12)).off + 10, none⟩ = some (.int .i64 ((rd_T31 t2 x6_1).f4.f2)) ∧ w'.cell? ⟨(ad9.add ((x6_1).toNat * 12)).block, (ad9.add ((x6_1).toNat * 12)).off + 11, none⟩ = some (.int .i64 ((rd_T31 t2 x6_1).f5))) (ds := [7]) #[false, false, false, false, false, false, false, false] (by kernel_rfl) rfl rfl ⟨(blk_cell BK6.out 0).trans rfl, (blk_cell BK6.out 1).trans rfl, (blk_cell BK6.out 2).trans rfl, hx9_0, hx9_1, hx9_2, hx9_3, hx9_4, hx9_5, hx9_6, hx9_7, hx9_8, hx9_9, hx9_10, hx9_11⟩ (fun hHeld => ?_); refine with_tabW law12_TreeSums.tab10 law12_TreeSums.bits10 (fun HT_ HW_ => ?_)
       generalize wr.drew = w17 at HO_3 BK6 BK7 HB hx9_0 hx9_1 hx9_10 hx9_11 hx9_2 hx9_3 hx9_4 hx9_5 hx9_6 hx9_7 hx9_8 hx9_9 hHeld ⊢
       refine pure_ (i := 1) (N := some 26) (v := ?_) (a' := ?_) #[false, true, false, false, false, false, false, false] rfl rfl (any_of HT_.out (by kernel_rfl)) (fun _ _ _ h => h) (Or.inl ⟨by rfl, ?_⟩) ?_ ?_
       rotate_left
       ·intro w'
        go_simp
        with_reducible rfl
       rotate_left
       ·simp only [Act.put, List.setIfInBounds_toArray, List.set_cons_zero, List.set_cons_succ, i64_w, i32_w]
        rfl
       refine pure_ (i := 2) (N := some 27) (v := ?_) (a' := ?_) #[false, true, true, false, false, false, false, false] rfl rfl (any_of HT_.out (by kernel_rfl)) (fun _ _ _ h => h) (Or.inl ⟨by rfl, ?_⟩) ?_ ?_
       rotate_left
       ·intro w'
        go_simp
        with_reducible rfl
       rotate_left
       ·simp only [Act.put, List.setIfInBounds_toArray, List.set_cons_zero, List.set_cons_succ, i64_w, i32_w]
        rfl
       refine pure_ (i := 3) (N := some 28) (v := ?_) (a' := ?_) #[false, true, true, true, false, false, false, false] rfl rfl (any_of HT_.out (by kernel_rfl)) (fun _ _ _ h => h) (Or.inl ⟨by rfl, ?_⟩) ?_ ?_
       rotate_left
       ·intro w'
        go_simp
        with_reducible rfl
       rotate_left
       ·simp only [Act.put, List.setIfInBounds_toArray, List.set_cons_zero, List.set_cons_succ, i64_w, i32_w]
        rfl
       refine pure_ (i := 4) (N := some 29) (v := ?_) (a' := ?_) #[false, true, true, true, true, false, false, false] rfl rfl (any_of HT_.out (by kernel_rfl)) (fun _ _ _ h => h) (Or.inl ⟨by rfl, ?_⟩) ?_ ?_
       rotate_left
       ·intro w'
        go_simp
        with_reducible rfl
       rotate_left
       ·simp only [Act.put, List.setIfInBounds_toArray, List.set_cons_zero, List.set_cons_succ, i64_w, i32_w]
        rfl
       refine take_ (i := 0) (N := some 25) (v := ?_) (a' := ?_) #[true, true, true, true, true, false, false, false] rfl rfl (take_ofW HT_.out HW_.out (by kernel_rfl)) (fun _ _ _ h => h) (Or.inl ⟨by rfl, ?_⟩) hHeld ?_ ?_
       rotate_left
       ·rintro w' ⟨s0, s1, s2, s3, s4, s5, s6, s7, s8, s9, s10, s11, s12, s13, s14⟩
        go_simp
        with_reducible rfl
       rotate_left
       ·simp only [Act.put, List.setIfInBounds_toArray, List.set_cons_zero, List.set_cons_succ, i64_w, i32_w]
        rfl
       refine take_ (i := 5) (N := some 30) (v := ?_) (a' := ?_) #[true, true, true, true, true, true, false, false] rfl rfl (take_ofW HT_.out HW_.out (by kernel_rfl)) (fun _ _ _ h => h) (Or.inl ⟨by rfl, ?_⟩) hHeld ?_ ?_
       rotate_left
       ·rintro w' ⟨s0, s1, s2, s3, s4, s5, s6, s7, s8, s9, s10, s11, s12, s13, s14⟩
        go_simp
        with_reducible rfl
       rotate_left
       ·simp only [Act.put, List.setIfInBounds_toArray, List.set_cons_zero, List.set_cons_succ, i64_w, i32_w]
        rfl
       refine one_ (i := 6) (N := some 31) #[true, true, true, true, true, true, true, false] rfl rfl (one_of HT_.out (by kernel_rfl)) (by decide) (fun K hK => ?_)
       refine goes_ Try.func63 (by kernel_rfl) rfl #[.agg #[.int .i64 x7000_1, .int .i64 x7001_1, .int .i64 x7002_1], .agg #[.int .i64 ((rd_T31 t2 x6_1).f3.f0), .int .i64 ((rd_T31 t2 x6_1).f3.f1), .int .i64 ((rd_T31 t2 x6_1).f3.f2)]] (by rfl) rfl rfl (by (try simp only [List.map_toArray, List.map_cons, List.map_nil]); first | done | rfl | (simp only [List.length_drop, List.length_take]; rfl)) ?_
       with_reducible refine (r10_Add.calls x7000_1 x7001_1 x7002_1 ((rd_T31 t2 x6_1).f3.f0) ((rd_T31 t2 x6_1).f3.f1) ((rd_T31 t2 x6_1).f3.f2) t10 t11 t12 _ A15.out).mono ?_
       rintro e w18 ⟨rfl, hb⟩
       have HS3_ := (hb.cell (World.block_lt_of_cell? _ _ (hHeld.2.2.2.1))).trans (hHeld.2.2.2.1)
       have HS4_ := (hb.cell (World.block_lt_of_cell? _ _ (hHeld.2.2.2.2.1))).trans (hHeld.2.2.2.2.1)
       have HS5_ := (hb.cell (World.block_lt_of_cell? _ _ (hHeld.2.2.2.2.2.1))).trans (hHeld.2.2.2.2.2.1)
       have HS6_ := (hb.cell (World.block_lt_of_cell? _ _ (hHeld.2.2.2.2.2.2.1))).trans (hHeld.2.2.2.2.2.2.1)
       have HS7_ := (hb.cell (World.block_lt_of_cell? _ _ (hHeld.2.2.2.2.2.2.2.1))).trans (hHeld.2.2.2.2.2.2.2.1)
       have HS8_ := (hb.cell (World.block_lt_of_cell? _ _ (hHeld.2.2.2.2.2.2.2.2.1))).trans (hHeld.2.2.2.2.2.2.2.2.1)
       have HS9_ := (hb.cell (World.block_lt_of_cell? _ _ (hHeld.2.2.2.2.2.2.2.2.2.1))).trans (hHeld.2.2.2.2.2.2.2.2.2.1)
       have HS10_ := (hb.cell (World.block_lt_of_cell? _ _ (hHeld.2.2.2.2.2.2.2.2.2.2.1))).trans (hHeld.2.2.2.2.2.2.2.2.2.2.1)
       have HS11_ := (hb.cell (World.block_lt_of_cell? _ _ (hHeld.2.2.2.2.2.2.2.2.2.2.2.1))).trans (hHeld.2.2.2.2.2.2.2.2.2.2.2.1)
       have HS12_ := (hb.cell (World.block_lt_of_cell? _ _ (hHeld.2.2.2.2.2.2.2.2.2.2.2.2.1))).trans (hHeld.2.2.2.2.2.2.2.2.2.2.2.2.1)
       have HS13_ := (hb.cell (World.block_lt_of_cell? _ _ (hHeld.2.2.2.2.2.2.2.2.2.2.2.2.2.1))).trans (hHeld.2.2.2.2.2.2.2.2.2.2.2.2.2.1)
       have HS14_ := (hb.cell (World.block_lt_of_cell? _ _ (hHeld.2.2.2.2.2.2.2.2.2.2.2.2.2.2))).trans (hHeld.2.2.2.2.2.2.2.2.2.2.2.2.2.2)
       refine ⟨_, rfl, ?_⟩
       have n0_ := Aside0.mk (Kd.R_below (by (with_reducible repeat (first|apply Kd.R_alloc|apply Kd.R_drewN|apply Kd.R_drew));exact HO_3.out) hb)
       have n1_ := Aside0.mk (blk_below (g := gb6) (o := .cells #[.int .i64 x7000_1, .int .i64 x7001_1, .int .i64 x7002_1] 27 (0, 0)) (by (with_reducible repeat (first|refine blk_drewN ?_ _|refine blk_drew ?_|refine blk_alloc ?_ _));exact BK6.out) hb)
       have n2_ := Aside0.mk (blk_below (g := gb7) (o := .cells #[.int .i64 x8000_1, .int .i64 x8001_1, .int .i64 x8002_1] 27 (0, 0)) (by (with_reducible repeat (first|refine blk_drewN ?_ _|refine blk_drew ?_|refine blk_alloc ?_ _));exact BK7.out) hb)
       have n3_ := Aside0.mk (below_step (by repeat (first|(with_reducible first|exact HB.out|apply below_alloc|apply pw_below_drewN|apply below_drew1|refine below_set ?_ GE6.out|refine below_set ?_ GE7.out)|exact HB.out)) hb)
       clear HO_3
       clear BK6
       clear BK7
       clear HB
       have HO_3 := n0_
       have BK6 := n1_
       have BK7 := n2_
       have HB := n3_
       clear n0_ n1_ n2_ n3_
       (try clear hb)
       (try clear hb2)
       (try clear hk)
       (try clear hi)
       refine hK.out _ _ ⟨(blk_cell BK6.out 0).trans rfl, (blk_cell BK6.out 1).trans rfl, (blk_cell BK6.out 2).trans rfl, HS3_, HS4_, HS5_, HS6_, HS7_, HS8_, HS9_, HS10_, HS11_, HS12_, HS13_, HS14_⟩ (fun hHeld => ?_)
       clear hK K
       refine norm_ (a' := ?_) ?_ ?_
       rotate_left
       ·show Act.put _ (some 31) _ = _
        simp only [Act.put, List.setIfInBounds_toArray, List.set_cons_zero, List.set_cons_succ, i64_w, i32_w]
        rfl
       refine last_ (i := 7) (N := none) #[true, true, true, true, true, true, true, true] rfl rfl (one_of HT_.out (by kernel_rfl)) (by decide) (fun K hK => ?_)
       have hs19 : w18.cell? ⟨gb6, 0, none⟩ = some (.int .i64 x7000_1) := (blk_cell BK6.out 0).trans rfl
       have hfs19 := blk_frozen BK6.out 0
       have hns19_1 := NB7_6.out
       have hms19_1 := NB6_7.out
       have hs20 : w18.cell? ⟨gb6, 1, none⟩ = some (.int .i64 x7001_1) := (blk_cell BK6.out 1).trans rfl
       have hfs20 := blk_frozen BK6.out 1
       have hns20_1 := NB7_6.out
       have hms20_1 := NB6_7.out
       have hs21 : w18.cell? ⟨gb6, 2, none⟩ = some (.int .i64 x7002_1) := (blk_cell BK6.out 2).trans rfl
       have hfs21 := blk_frozen BK6.out 2
       have hns21_1 := NB7_6.out
       have hms21_1 := NB6_7.out
       refine skip_ (w1 := ?_) (by rfl) rfl ?_ ?_
       rotate_left
       ·go_simp
        rfl
       refine hK.out _ _ ?_
       clear hK K
       refine done_ (done_of HT_.out (by kernel_rfl)) ?_
       have p13 : 0 ≤ (x6_1 : Int) := of_decide_eq_true (by first|(with_reducible assumption)|assumption)
       have q13 : x6_1 < (t2.length : Int) := of_decide_eq_true (by first|(with_reducible assumption)|assumption)
       obtain ⟨ad13, e13, hx13_0, hx13_1, hx13_2, hx13_3, hx13_4, hx13_5, hx13_6, hx13_7, hx13_8, hx13_9, hx13_10, hx13_11⟩ := at_T31 (Kd.R_reads' HO_3.out).2.2 x6_1 p13 q13
       obtain rfl : ad9 = ad13 := (by injection e13)
       have hn13_0 : ad9.block ≠ gb6 := Kd.own_blk (Kd.R_ne HO_3.out BK6.out (by decide))
       have hn13_1 : ad9.block ≠ gb6 := Kd.own_blk (Kd.R_ne HO_3.out BK6.out (by decide))
       have hn13_2 : ad9.block ≠ gb6 := Kd.own_blk (Kd.R_ne HO_3.out BK6.out (by decide))
       replace hx13_0 := (cell_far (p := ⟨gb6, 0, none⟩) (by first | (rw [add_block]; exact hn13_0) | (show (Addr.add _ _).block ≠ _; rw [add_block]; exact hn13_0) | exact hn13_0) (.int .i64 t10)).trans hx13_0
       replace hx13_1 := (cell_far (p := ⟨gb6, 0, none⟩) (by first | (rw [add_block]; exact hn13_0) | (show (Addr.add _ _).block ≠ _; rw [add_block]; exact hn13_0) | exact hn13_0) (.int .i64 t10)).trans hx13_1
       replace hx13_2 := (cell_far (p := ⟨gb6, 0, none⟩) (by first | (rw [add_block]; exact hn13_0) | (show (Addr.add _ _).block ≠ _; rw [add_block]; exact hn13_0) | exact hn13_0) (.int .i64 t10)).trans hx13_2
       replace hx13_3 := (cell_far (p := ⟨gb6, 0, none⟩) (by first | (rw [add_block]; exact hn13_0) | (show (Addr.add _ _).block ≠ _; rw [add_block]; exact hn13_0) | exact hn13_0) (.int .i64 t10)).trans hx13_3
       replace hx13_4 := (cell_far (p := ⟨gb6, 0, none⟩) (by first | (rw [add_block]; exact hn13_0) | (show (Addr.add _ _).block ≠ _; rw [add_block]; exact hn13_0) | exact hn13_0) (.int .i64 t10)).trans hx13_4
       replace hx13_5 := (cell_far (p := ⟨gb6, 0, none⟩) (by first | (rw [add_block]; exact hn13_0) | (show (Addr.add _ _).block ≠ _; rw [add_block]; exact hn13_0) | exact hn13_0) (.int .i64 t10)).trans hx13_5
       replace hx13_6 := (cell_far (p := ⟨gb6, 0, none⟩) (by first | (rw [add_block]; exact hn13_0) | (show (Addr.add _ _).block ≠ _; rw [add_block]; exact hn13_0) | exact hn13_0) (.int .i64 t10)).trans hx13_6
       replace hx13_7 := (cell_far (p := ⟨gb6, 0, none⟩) (by first | (rw [add_block]; exact hn13_0) | (show (Addr.add _ _).block ≠ _; rw [add_block]; exact hn13_0) | exact hn13_0) (.int .i64 t10)).trans hx13_7
       replace hx13_8 := (cell_far (p := ⟨gb6, 0, none⟩) (by first | (rw [add_block]; exact hn13_0) | (show (Addr.add _ _).block ≠ _; rw [add_block]; exact hn13_0) | exact hn13_0) (.int .i64 t10)).trans hx13_8
       replace hx13_9 := (cell_far (p := ⟨gb6, 0, none⟩) (by first | (rw [add_block]; exact hn13_0) | (show (Addr.add _ _).block ≠ _; rw [add_block]; exact hn13_0) | exact hn13_0) (.int .i64 t10)).trans hx13_9
       replace hx13_10 := (cell_far (p := ⟨gb6, 0, none⟩) (by first | (rw [add_block]; exact hn13_0) | (show (Addr.add _ _).block ≠ _; rw [add_block]; exact hn13_0) | exact hn13_0) (.int .i64 t10)).trans hx13_10
       replace hx13_11 := (cell_far (p := ⟨gb6, 0, none⟩) (by first | (rw [add_block]; exact hn13_0) | (show (Addr.add _ _).block ≠ _; rw [add_block]; exact hn13_0) | exact hn13_0) (.int .i64 t10)).trans hx13_11
       replace hx13_0 := (cell_far (p := ⟨gb6, 1, none⟩) (by first | (rw [add_block]; exact hn13_1) | (show (Addr.add _ _).block ≠ _; rw [add_block]; exact hn13_1) | exact hn13_1) (.int .i64 t11)).trans hx13_0
       replace hx13_1 := (cell_far (p := ⟨gb6, 1, none⟩) (by first | (rw [add_block]; exact hn13_1) | (show (Addr.add _ _).block ≠ _; rw [add_block]; exact hn13_1) | exact hn13_1) (.int .i64 t11)).trans hx13_1
       replace hx13_2 := (cell_far (p := ⟨gb6, 1, none⟩) (by first | (rw [add_block]; exact hn13_1) | (show (Addr.add _ _).block ≠ _; rw [add_block]; exact hn13_1) | exact hn13_1) (.int .i64 t11)).trans hx13_2
       replace hx13_3 := (cell_far (p := ⟨gb6, 1, none⟩) (by first | (rw [add_block]; exact hn13_1) | (show (Addr.add _ _).block ≠ _; rw [add_block]; exact hn13_1) | exact hn13_1) (.int .i64 t11)).trans hx13_3
       replace hx13_4 := (cell_far (p := ⟨gb6, 1, none⟩) (by first | (rw [add_block]; exact hn13_1) | (show (Addr.add _ _).block ≠ _; rw [add_block]; exact hn13_1) | exact hn13_1) (.int .i64 t11)).trans hx13_4
       replace hx13_5 := (cell_far (p := ⟨gb6, 1, none⟩) (by first | (rw [add_block]; exact hn13_1) | (show (Addr.add _ _).block ≠ _; rw [add_block]; exact hn13_1) | exact hn13_1) (.int .i64 t11)).trans hx13_5
       replace hx13_6 := (cell_far (p := ⟨gb6, 1, none⟩) (by first | (rw [add_block]; exact hn13_1) | (show (Addr.add _ _).block ≠ _; rw [add_block]; exact hn13_1) | exact hn13_1) (.int .i64 t11)).trans hx13_6
       replace hx13_7 := (cell_far (p := ⟨gb6, 1, none⟩) (by first | (rw [add_block]; exact hn13_1) | (show (Addr.add _ _).block ≠ _; rw [add_block]; exact hn13_1) | exact hn13_1) (.int .i64 t11)).trans hx13_7
       replace hx13_8 := (cell_far (p := ⟨gb6, 1, none⟩) (by first | (rw [add_block]; exact hn13_1) | (show (Addr.add _ _).block ≠ _; rw [add_block]; exact hn13_1) | exact hn13_1) (.int .i64 t11)).trans hx13_8
       replace hx13_9 := (cell_far (p := ⟨gb6, 1, none⟩) (by first | (rw [add_block]; exact hn13_1) | (show (Addr.add _ _).block ≠ _; rw [add_block]; exact hn13_1) | exact hn13_1) (.int .i64 t11)).trans hx13_9
       replace hx13_10 := (cell_far (p := ⟨gb6, 1, none⟩) (by first | (rw [add_block]; exact hn13_1) | (show (Addr.add _ _).block ≠ _; rw [add_block]; exact hn13_1) | exact hn13_1) (.int .i64 t11)).trans hx13_10
       replace hx13_11 := (cell_far (p := ⟨gb6, 1, none⟩) (by first | (rw [add_block]; exact hn13_1) | (show (Addr.add _ _).block ≠ _; rw [add_block]; exact hn13_1) | exact hn13_1) (.int .i64 t11)).trans hx13_11
       replace hx13_0 := (cell_far (p := ⟨gb6, 2, none⟩) (by first | (rw [add_block]; exact hn13_2) | (show (Addr.add _ _).block ≠ _; rw [add_block]; exact hn13_2) | exact hn13_2) (.int .i64 t12)).trans hx13_0
       replace hx13_1 := (cell_far (p := ⟨gb6, 2, none⟩) (by first | (rw [add_block]; exact hn13_2) | (show (Addr.add _ _).block ≠ _; rw [add_block]; exact hn13_2) | exact hn13_2) (.int .i64 t12)).trans hx13_1
       replace hx13_2 := (cell_far (p := ⟨gb6, 2, none⟩) (by first | (rw [add_block]; exact hn13_2) | (show (Addr.add _ _).block ≠ _; rw [add_block]; exact hn13_2) | exact hn13_2) (.int .i64 t12)).trans hx13_2
       replace hx13_3 := (cell_far (p := ⟨gb6, 2, none⟩) (by first | (rw [add_block]; exact hn13_2) | (show (Addr.add _ _).block ≠ _; rw [add_block]; exact hn13_2) | exact hn13_2) (.int .i64 t12)).trans hx13_3
       replace hx13_4 := (cell_far (p := ⟨gb6, 2, none⟩) (by first | (rw [add_block]; exact hn13_2) | (show (Addr.add _ _).block ≠ _; rw [add_block]; exact hn13_2) | exact hn13_2) (.int .i64 t12)).trans hx13_4
       replace hx13_5 := (cell_far (p := ⟨gb6, 2, none⟩) (by first | (rw [add_block]; exact hn13_2) | (show (Addr.add _ _).block ≠ _; rw [add_block]; exact hn13_2) | exact hn13_2) (.int .i64 t12)).trans hx13_5
       replace hx13_6 := (cell_far (p := ⟨gb6, 2, none⟩) (by first | (rw [add_block]; exact hn13_2) | (show (Addr.add _ _).block ≠ _; rw [add_block]; exact hn13_2) | exact hn13_2) (.int .i64 t12)).trans hx13_6
       replace hx13_7 := (cell_far (p := ⟨gb6, 2, none⟩) (by first | (rw [add_block]; exact hn13_2) | (show (Addr.add _ _).block ≠ _; rw [add_block]; exact hn13_2) | exact hn13_2) (.int .i64 t12)).trans hx13_7
       replace hx13_8 := (cell_far (p := ⟨gb6, 2, none⟩) (by first | (rw [add_block]; exact hn13_2) | (show (Addr.add _ _).block ≠ _; rw [add_block]; exact hn13_2) | exact hn13_2) (.int .i64 t12)).trans hx13_8
       replace hx13_9 := (cell_far (p := ⟨gb6, 2, none⟩) (by first | (rw [add_block]; exact hn13_2) | (show (Addr.add _ _).block ≠ _; rw [add_block]; exact hn13_2) | exact hn13_2) (.int .i64 t12)).trans hx13_9
       replace hx13_10 := (cell_far (p := ⟨gb6, 2, none⟩) (by first | (rw [add_block]; exact hn13_2) | (show (Addr.add _ _).block ≠ _; rw [add_block]; exact hn13_2) | exact hn13_2) (.int .i64 t12)).trans hx13_10
       replace hx13_11 := (cell_far (p := ⟨gb6, 2, none⟩) (by first | (rw [add_block]; exact hn13_2) | (show (Addr.add _ _).block ≠ _; rw [add_block]; exact hn13_2) | exact hn13_2) (.int .i64 t12)).trans hx13_11
       clear hn13_0
       clear hn13_1
       clear hn13_2
       replace p13 := eq_true p13
       replace q13 := eq_true q13
       go_upto_if 37 with (fail)
       go_cut [] (fun wc => ∃ (kq : Nat) (x8000_15 : Int) (x8001_15 : Int) (x8002_15 : Int), Aside0 (law12_TreeSums.j1 kq t2 x6_1 t10 t11 t12 x8000_15 x8001_15 x8002_15 = some r) ∧ Aside0 (kq ≤ k1) ∧ Aside0 (Kd.R k31 31 wc w.heap.size (fun _ => True) (.slice (some ad9) t2.length co9) t2) ∧ Aside0 (wc.heap[gb6]? = some (.cells #[.int .i64 t10, .int .i64 t11, .int .i64 t12] 27 (0, 0))) ∧ Aside0 (wc.heap[gb7]? = some (.cells #[.int .i64 x8000_15, .int .i64 x8001_15, .int .i64 x8002_15] 27 (0, 0))) ∧ Aside0 (Below w.heap.size w wc))
       case first =>
        have H := HC16.out
        clear HC16
        by_cases c22 : ((rd_T31 t2 x6_1).f1).toList = ([] : List UInt8)
        ·rw [if_pos c22] at H
         have c22b0 : (((rd_T31 t2 x6_1).f1).toList == ([] : List UInt8)) = true := beq_iff_eq.mpr c22
         have c22b1 : (((rd_T31 t2 x6_1).f1).toList != ([] : List UInt8)) = false := bne_eq_false_iff_eq.mpr c22
         have c22b2 : (((rd_T31 t2 x6_1).f1).toList).isEmpty = true := by rw [c22]; rfl
         (try rw [c22b2])
         clear c22
         (first | rw [c22b0] | (simp only [i64_w, i32_w]; rw [c22b0]) | skip)
         replace H := Option.bind_eq_some_iff.mp H
         obtain ⟨⟨t15, t16, t17⟩, A230, H⟩ := H
         replace H : (law12_TreeSums.j1 k1 t2 x6_1 t10 t11 t12 t15 t16 t17) = some r := H
         have A23 := Aside0.mk A230
         clear A230
         have H' := Aside0.mk H
         clear H
         try go_wp2
         have n0_ : Aside0 (Kd.R k31 31 (((w18.setCell ⟨gb6, 0, none⟩ (.int .i64 t10)).setCell ⟨gb6, 1, none⟩ (.int .i64 t11)).setCell ⟨gb6, 2, none⟩ (.int .i64 t12)) w.heap.size (fun _ => True) (.slice (some ad9) t2.length co9) t2) := ⟨by (with_reducible repeat (first|apply Kd.R_alloc|apply Kd.R_drewN|apply Kd.R_drew));exact Kd.R_mono (Kd.R_far (p := ⟨gb6, 2, none⟩) (Kd.R_far (p := ⟨gb6, 1, none⟩) (Kd.R_far (p := ⟨gb6, 0, none⟩) (Kd.R_types HO_3.out BK6.out (by decide)) (fun _ hk => hk.2) (.int .i64 t10)) (fun _ hk => hk.2) (.int .i64 t11)) (fun _ hk => hk.2) (.int .i64 t12)) (fun _ hk => trivial)⟩
         have n1_ : Aside0 ((((w18.setCell ⟨gb6, 0, none⟩ (.int .i64 t10)).setCell ⟨gb6, 1, none⟩ (.int .i64 t11)).setCell ⟨gb6, 2, none⟩ (.int .i64 t12)).heap[gb6]? = some (.cells #[.int .i64 t10, .int .i64 t11, .int .i64 t12] 27 (0, 0))) := ⟨by (with_reducible repeat (first|refine blk_drewN ?_ _|refine blk_drew ?_|refine blk_alloc ?_ _));refine blk_put (cs := #[.int .i64 t10, .int .i64 t11, .int .i64 x7002_1]) ?_ 2 _ rfl;(with_reducible repeat (first|refine blk_drewN ?_ _|refine blk_drew ?_|refine blk_alloc ?_ _));refine blk_put (cs := #[.int .i64 t10, .int .i64 x7001_1, .int .i64 x7002_1]) ?_ 1 _ rfl;(with_reducible repeat (first|refine blk_drewN ?_ _|refine blk_drew ?_|refine blk_alloc ?_ _));refine blk_put (cs := #[.int .i64 x7000_1, .int .i64 x7001_1, .int .i64 x7002_1]) ?_ 0 _ rfl;(with_reducible repeat (first|refine blk_drewN ?_ _|refine blk_drew ?_|refine blk_alloc ?_ _));exact BK6.out⟩
         have n2_ : Aside0 ((((w18.setCell ⟨gb6, 0, none⟩ (.int .i64 t10)).setCell ⟨gb6, 1, none⟩ (.int .i64 t11)).setCell ⟨gb6, 2, none⟩ (.int .i64 t12)).heap[gb7]? = some (.cells #[.int .i64 x8000_1, .int .i64 x8001_1, .int .i64 x8002_1] 27 (0, 0))) := ⟨by (with_reducible repeat (first|refine blk_drewN ?_ _|refine blk_drew ?_|refine blk_alloc ?_ _));refine blk_far ?_ NB7_6.out _;(with_reducible repeat (first|refine blk_drewN ?_ _|refine blk_drew ?_|refine blk_alloc ?_ _));refine blk_far ?_ NB7_6.out _;(with_reducible repeat (first|refine blk_drewN ?_ _|refine blk_drew ?_|refine blk_alloc ?_ _));refine blk_far ?_ NB7_6.out _;(with_reducible repeat (first|refine blk_drewN ?_ _|refine blk_drew ?_|refine blk_alloc ?_ _));exact BK7.out⟩
         have n3_ : Aside0 (Below w.heap.size w (((w18.setCell ⟨gb6, 0, none⟩ (.int .i64 t10)).setCell ⟨gb6, 1, none⟩ (.int .i64 t11)).setCell ⟨gb6, 2, none⟩ (.int .i64 t12))) := ⟨by repeat (first|(with_reducible first|exact HB.out|apply below_alloc|apply pw_below_drewN|apply below_drew1|refine below_set ?_ GE6.out|refine below_set ?_ GE7.out)|exact HB.out)⟩
         (try clear HO_3)
         (try clear BK6)
         (try clear BK7)
         (try clear HB)
         generalize (((w18.setCell ⟨gb6, 0, none⟩ (.int .i64 t10)).setCell ⟨gb6, 1, none⟩ (.int .i64 t11)).setCell ⟨gb6, 2, none⟩ (.int .i64 t12)) = w24 at n0_ n1_ n2_ n3_ ⊢
         have HO_3 := n0_
         have BK6 := n1_
         have BK7 := n2_
         have HB := n3_
         clear n0_ n1_ n2_ n3_
         have n0_ := Aside0.mk (Kd.R_drew HO_3.out)
         have n1_ := Aside0.mk (blk_drew BK6.out)
         have n2_ := Aside0.mk (blk_drew BK7.out)
         have n3_ := Aside0.mk (below_drew1 HB.out)
         clear HO_3
         clear BK6
         clear BK7
         clear HB
         have HO_3 := n0_
         have BK6 := n1_
         have BK7 := n2_
         have HB := n3_
         clear n0_ n1_ n2_ n3_
         have p14 : 0 ≤ (x6_1 : Int) := of_decide_eq_true (by first|(with_reducible assumption)|assumption)
         have q14 : x6_1 < (t2.length : Int) := of_decide_eq_true (by first|(with_reducible assumption)|assumption)
         obtain ⟨ad14, e14, hx14_0, hx14_1, hx14_2, hx14_3, hx14_4, hx14_5, hx14_6, hx14_7, hx14_8, hx14_9, hx14_10, hx14_11⟩ := at_T31 (Kd.R_reads' HO_3.out).2.2 x6_1 p14 q14
         obtain rfl : ad9 = ad14 := (by injection e14)
         replace p14 := eq_true p14
         replace q14 := eq_true q14
         refine start_ (n := 8) (S := fun w' => w'.cell? ⟨gb7, 0, none⟩ = some (.int .i64 x8000_1) ∧ w'.cell? ⟨gb7, 1, none⟩ = some (.int .i64 x8001_1) ∧ w'.cell? ⟨gb7, 2, none⟩ = some (.int .i64 x8002_1) ∧ w'.cell? (ad9.add ((x6_1).toNat * 12)) = some (.string ((rd_T31 t2 x6_1).f0)) ∧ w'.cell? ⟨(ad9.add ((x6_1).toNat * 12)).block, (ad9.add ((x6_1).toNat * 12)).off + 1, none⟩ = some (.string ((rd_T31 t2 x6_1).f1)) ∧ w'.cell? ⟨(ad9.add ((x6_1).toNat * 12)).block, (ad9.add ((x6_1).toNat * 12)).off + 2, none⟩ = some (.int .i64 ((rd_T31 t2 x6_1).f2.f0)) ∧ w'.cell? ⟨(ad9.add ((x6_1).toNat * 12)).block, (ad9.add ((x6_1).toNat * 12)).off + 3, none⟩ = some (.int .i64 ((rd_T31 t2 x6_1).f2.f1)) ∧ w'.cell? ⟨(ad9.add ((x6_1).toNat * 12)).block, (ad9.add ((x6_1).toNat * 12)).off + 4, none⟩ = some (.int .i64 ((rd_T31 t2 x6_1).f2.f2)) ∧ w'.cell? ⟨(ad9.add ((x6_1).toNat * 12)).block, (ad9.add ((x6_1).toNat * 12)).off + 5, none⟩ = some (.int .i64 ((rd_T31 t2 x6_1).f3.f0)) ∧ w'.cell? ⟨(ad9.add ((x6_1).toNat * 12)).block, (ad9.add ((x6_1).toNat * 12)).off + 6, none⟩ = some (.int .i64 ((rd_T31 t2 x6_1).f3.f1)) ∧ w'.cell? ⟨(ad9.add ((x6_1).toNat * 12)).block, (ad9.add ((x6_1).toNat * 12)).off + 7, none⟩ = some (.int .i64 ((rd_T31 t2 x6_1).f3.f2)) ∧ w'.cell? ⟨(ad9.add ((x6_1).toNat * 12)).block, (ad9.add ((x6_1).toNat * 12)).off + 8, none⟩ = some (.int .i64 ((rd_T31 t2 x6_1).f4.f0)) ∧ w'.cell? ⟨(ad9.add ((x6_1).toNat * 12)).block, (ad9.add ((x6_1).toNat * 12)).off + 9, none⟩ = some (.int .i64 ((rd_T31 t2 x6_1).f4.f1)) ∧ w'.cell? ⟨(ad9.add ((x6_1).toNat * 12)).block, (ad9.add ((x6_1).toNat * 12)).off + 10, none⟩ = some (.int .i64 ((rd_T31 t2 x6_1).f4.f2)) ∧ w'.cell? ⟨(ad9.add ((x6_1).toNat * 12)).block, (ad9.add ((x6_1).toNat * 12)).off + 11, none⟩ = some (.int .i64 ((rd_T31 t2 x6_1).f5))) (ds := [7]) #[false, false, false, false, false, false, false, false] (by kernel_rfl) rfl rfl ⟨(blk_cell BK7.out 0).trans rfl, (blk_cell BK7.out 1).trans rfl, (blk_cell BK7.out 2).trans rfl, hx14_0, hx14_1, hx14_2, hx14_3, hx14_4, hx14_5, hx14_6, hx14_7, hx14_8, hx14_9, hx14_10, hx14_11⟩ (fun hHeld => ?_); refine with_tabW law12_TreeSums.tab12 law12_TreeSums.bits12 (fun HT_ HW_ => ?_)
         generalize w24.drew = w25 at HO_3 BK6 BK7 HB hx14_0 hx14_1 hx14_10 hx14_11 hx14_2 hx14_3 hx14_4 hx14_5 hx14_6 hx14_7 hx14_8 hx14_9 hHeld ⊢
         refine pure_ (i := 1) (N := some 39) (v := ?_) (a' := ?_) #[false, true, false, false, false, false, false, false] rfl rfl (any_of HT_.out (by kernel_rfl)) (fun _ _ _ h => h) (Or.inl ⟨by rfl, ?_⟩) ?_ ?_
         rotate_left
         ·intro w'
          go_simp
          with_reducible rfl
         rotate_left
         ·simp only [Act.put, List.setIfInBounds_toArray, List.set_cons_zero, List.set_cons_succ, i64_w, i32_w]
          rfl
         refine pure_ (i := 2) (N := some 40) (v := ?_) (a' := ?_) #[false, true, true, false, false, false, false, false] rfl rfl (any_of HT_.out (by kernel_rfl)) (fun _ _ _ h => h) (Or.inl ⟨by rfl, ?_⟩) ?_ ?_
         rotate_left
         ·intro w'
          go_simp
          with_reducible rfl
         rotate_left
         ·simp only [Act.put, List.setIfInBounds_toArray, List.set_cons_zero, List.set_cons_succ, i64_w, i32_w]
          rfl
         refine pure_ (i := 3) (N := some 41) (v := ?_) (a' := ?_) #[false, true, true, true, false, false, false, false] rfl rfl (any_of HT_.out (by kernel_rfl)) (fun _ _ _ h => h) (Or.inl ⟨by rfl, ?_⟩) ?_ ?_
         rotate_left
         ·intro w'
          go_simp
          with_reducible rfl
         rotate_left
         ·simp only [Act.put, List.setIfInBounds_toArray, List.set_cons_zero, List.set_cons_succ, i64_w, i32_w]
          rfl
         refine pure_ (i := 4) (N := some 42) (v := ?_) (a' := ?_) #[false, true, true, true, true, false, false, false] rfl rfl (any_of HT_.out (by kernel_rfl)) (fun _ _ _ h => h) (Or.inl ⟨by rfl, ?_⟩) ?_ ?_
         rotate_left
         ·intro w'
          go_simp
          with_reducible rfl
         rotate_left
         ·simp only [Act.put, List.setIfInBounds_toArray, List.set_cons_zero, List.set_cons_succ, i64_w, i32_w]
          rfl
         refine take_ (i := 0) (N := some 38) (v := ?_) (a' := ?_) #[true, true, true, true, true, false, false, false] rfl rfl (take_ofW HT_.out HW_.out (by kernel_rfl)) (fun _ _ _ h => h) (Or.inl ⟨by rfl, ?_⟩) hHeld ?_ ?_
         rotate_left
         ·rintro w' ⟨s0, s1, s2, s3, s4, s5, s6, s7, s8, s9, s10, s11, s12, s13, s14⟩
          go_simp
          with_reducible rfl
         rotate_left
         ·simp only [Act.put, List.setIfInBounds_toArray, List.set_cons_zero, List.set_cons_succ, i64_w, i32_w]
          rfl
         refine take_ (i := 5) (N := some 43) (v := ?_) (a' := ?_) #[true, true, true, true, true, true, false, false] rfl rfl (take_ofW HT_.out HW_.out (by kernel_rfl)) (fun _ _ _ h => h) (Or.inl ⟨by rfl, ?_⟩) hHeld ?_ ?_
         rotate_left
         ·rintro w' ⟨s0, s1, s2, s3, s4, s5, s6, s7, s8, s9, s10, s11, s12, s13, s14⟩
          go_simp
          with_reducible rfl
         rotate_left
         ·simp only [Act.put, List.setIfInBounds_toArray, List.set_cons_zero, List.set_cons_succ, i64_w, i32_w]
          rfl
         refine one_ (i := 6) (N := some 44) #[true, true, true, true, true, true, true, false] rfl rfl (one_of HT_.out (by kernel_rfl)) (by decide) (fun K hK => ?_)
         refine goes_ Try.func63 (by kernel_rfl) rfl #[.agg #[.int .i64 x8000_1, .int .i64 x8001_1, .int .i64 x8002_1], .agg #[.int .i64 ((rd_T31 t2 x6_1).f4.f0), .int .i64 ((rd_T31 t2 x6_1).f4.f1), .int .i64 ((rd_T31 t2 x6_1).f4.f2)]] (by rfl) rfl rfl (by (try simp only [List.map_toArray, List.map_cons, List.map_nil]); first | done | rfl | (simp only [List.length_drop, List.length_take]; rfl)) ?_
         with_reducible refine (r10_Add.calls x8000_1 x8001_1 x8002_1 ((rd_T31 t2 x6_1).f4.f0) ((rd_T31 t2 x6_1).f4.f1) ((rd_T31 t2 x6_1).f4.f2) t15 t16 t17 _ A23.out).mono ?_
         rintro e w26 ⟨rfl, hb⟩
         have HS3_ := (hb.cell (World.block_lt_of_cell? _ _ (hHeld.2.2.2.1))).trans (hHeld.2.2.2.1)
         have HS4_ := (hb.cell (World.block_lt_of_cell? _ _ (hHeld.2.2.2.2.1))).trans (hHeld.2.2.2.2.1)
         have HS5_ := (hb.cell (World.block_lt_of_cell? _ _ (hHeld.2.2.2.2.2.1))).trans (hHeld.2.2.2.2.2.1)
         have HS6_ := (hb.cell (World.block_lt_of_cell? _ _ (hHeld.2.2.2.2.2.2.1))).trans (hHeld.2.2.2.2.2.2.1)
         have HS7_ := (hb.cell (World.block_lt_of_cell? _ _ (hHeld.2.2.2.2.2.2.2.1))).trans (hHeld.2.2.2.2.2.2.2.1)
         have HS8_ := (hb.cell (World.block_lt_of_cell? _ _ (hHeld.2.2.2.2.2.2.2.2.1))).trans (hHeld.2.2.2.2.2.2.2.2.1)
         have HS9_ := (hb.cell (World.block_lt_of_cell? _ _ (hHeld.2.2.2.2.2.2.2.2.2.1))).trans (hHeld.2.2.2.2.2.2.2.2.2.1)
         have HS10_ := (hb.cell (World.block_lt_of_cell? _ _ (hHeld.2.2.2.2.2.2.2.2.2.2.1))).trans (hHeld.2.2.2.2.2.2.2.2.2.2.1)
         have HS11_ := (hb.cell (World.block_lt_of_cell? _ _ (hHeld.2.2.2.2.2.2.2.2.2.2.2.1))).trans (hHeld.2.2.2.2.2.2.2.2.2.2.2.1)
         have HS12_ := (hb.cell (World.block_lt_of_cell? _ _ (hHeld.2.2.2.2.2.2.2.2.2.2.2.2.1))).trans (hHeld.2.2.2.2.2.2.2.2.2.2.2.2.1)
         have HS13_ := (hb.cell (World.block_lt_of_cell? _ _ (hHeld.2.2.2.2.2.2.2.2.2.2.2.2.2.1))).trans (hHeld.2.2.2.2.2.2.2.2.2.2.2.2.2.1)
         have HS14_ := (hb.cell (World.block_lt_of_cell? _ _ (hHeld.2.2.2.2.2.2.2.2.2.2.2.2.2.2))).trans (hHeld.2.2.2.2.2.2.2.2.2.2.2.2.2.2)
         refine ⟨_, rfl, ?_⟩
         have n0_ := Aside0.mk (Kd.R_below (by (with_reducible repeat (first|apply Kd.R_alloc|apply Kd.R_drewN|apply Kd.R_drew));exact HO_3.out) hb)
         have n1_ := Aside0.mk (blk_below (g := gb6) (o := .cells #[.int .i64 t10, .int .i64 t11, .int .i64 t12] 27 (0, 0)) (by (with_reducible repeat (first|refine blk_drewN ?_ _|refine blk_drew ?_|refine blk_alloc ?_ _));exact BK6.out) hb)
         have n2_ := Aside0.mk (blk_below (g := gb7) (o := .cells #[.int .i64 x8000_1, .int .i64 x8001_1, .int .i64 x8002_1] 27 (0, 0)) (by (with_reducible repeat (first|refine blk_drewN ?_ _|refine blk_drew ?_|refine blk_alloc ?_ _));exact BK7.out) hb)
         have n3_ := Aside0.mk (below_step (by repeat (first|(with_reducible first|exact HB.out|apply below_alloc|apply pw_below_drewN|apply below_drew1|refine below_set ?_ GE6.out|refine below_set ?_ GE7.out)|exact HB.out)) hb)
         clear HO_3
         clear BK6
         clear BK7
         clear HB
         have HO_3 := n0_
         have BK6 := n1_
         have BK7 := n2_
         have HB := n3_
         clear n0_ n1_ n2_ n3_
         (try clear hb)
         (try clear hb2)
         (try clear hk)
         (try clear hi)
         refine hK.out _ _ ⟨(blk_cell BK7.out 0).trans rfl, (blk_cell BK7.out 1).trans rfl, (blk_cell BK7.out 2).trans rfl, HS3_, HS4_, HS5_, HS6_, HS7_, HS8_, HS9_, HS10_, HS11_, HS12_, HS13_, HS14_⟩ (fun hHeld => ?_)
         clear hK K
         refine norm_ (a' := ?_) ?_ ?_
         rotate_left
         ·show Act.put _ (some 44) _ = _
          simp only [Act.put, List.setIfInBounds_toArray, List.set_cons_zero, List.set_cons_succ, i64_w, i32_w]
          rfl
         refine last_ (i := 7) (N := none) #[true, true, true, true, true, true, true, true] rfl rfl (one_of HT_.out (by kernel_rfl)) (by decide) (fun K hK => ?_)
         have hs27 : w26.cell? ⟨gb7, 0, none⟩ = some (.int .i64 x8000_1) := (blk_cell BK7.out 0).trans rfl
         have hfs27 := blk_frozen BK7.out 0
         have hns27_0 := NB6_7.out
         have hms27_0 := NB7_6.out
         have hs28 : w26.cell? ⟨gb7, 1, none⟩ = some (.int .i64 x8001_1) := (blk_cell BK7.out 1).trans rfl
         have hfs28 := blk_frozen BK7.out 1
         have hns28_0 := NB6_7.out
         have hms28_0 := NB7_6.out
         have hs29 : w26.cell? ⟨gb7, 2, none⟩ = some (.int .i64 x8002_1) := (blk_cell BK7.out 2).trans rfl
         have hfs29 := blk_frozen BK7.out 2
         have hns29_0 := NB6_7.out
         have hms29_0 := NB7_6.out
         refine skip_ (w1 := ?_) (by rfl) rfl ?_ ?_
         rotate_left
         ·go_simp
          rfl
         refine hK.out _ _ ?_
         clear hK K
         refine done_ (done_of HT_.out (by kernel_rfl)) ?_
         try go_wp2
         go_meet
         case rel => exact ⟨_, (t15), (t16), (t17), H', ⟨by have := HK1.out;first|omega|exact Nat.le_refl _⟩, ⟨by (with_reducible repeat (first|apply Kd.R_alloc|apply Kd.R_drewN|apply Kd.R_drew));exact Kd.R_mono (Kd.R_far (p := ⟨gb7, 2, none⟩) (Kd.R_far (p := ⟨gb7, 1, none⟩) (Kd.R_far (p := ⟨gb7, 0, none⟩) (Kd.R_types HO_3.out BK7.out (by decide)) (fun _ hk => hk.2) (.int .i64 t15)) (fun _ hk => hk.2) (.int .i64 t16)) (fun _ hk => hk.2) (.int .i64 t17)) (fun _ hk => trivial)⟩, ⟨by (with_reducible repeat (first|refine blk_drewN ?_ _|refine blk_drew ?_|refine blk_alloc ?_ _));refine blk_far ?_ NB6_7.out _;(with_reducible repeat (first|refine blk_drewN ?_ _|refine blk_drew ?_|refine blk_alloc ?_ _));refine blk_far ?_ NB6_7.out _;(with_reducible repeat (first|refine blk_drewN ?_ _|refine blk_drew ?_|refine blk_alloc ?_ _));refine blk_far ?_ NB6_7.out _;(with_reducible repeat (first|refine blk_drewN ?_ _|refine blk_drew ?_|refine blk_alloc ?_ _));exact BK6.out⟩, ⟨by (with_reducible repeat (first|refine blk_drewN ?_ _|refine blk_drew ?_|refine blk_alloc ?_ _));refine blk_put (cs := #[.int .i64 t15, .int .i64 t16, .int .i64 x8002_1]) ?_ 2 _ rfl;(with_reducible repeat (first|refine blk_drewN ?_ _|refine blk_drew ?_|refine blk_alloc ?_ _));refine blk_put (cs := #[.int .i64 t15, .int .i64 x8001_1, .int .i64 x8002_1]) ?_ 1 _ rfl;(with_reducible repeat (first|refine blk_drewN ?_ _|refine blk_drew ?_|refine blk_alloc ?_ _));refine blk_put (cs := #[.int .i64 x8000_1, .int .i64 x8001_1, .int .i64 x8002_1]) ?_ 0 _ rfl;(with_reducible repeat (first|refine blk_drewN ?_ _|refine blk_drew ?_|refine blk_alloc ?_ _));exact BK7.out⟩, ⟨by repeat (first|(with_reducible first|exact HB.out|apply below_alloc|apply pw_below_drewN|apply below_drew1|refine below_set ?_ GE6.out|refine below_set ?_ GE7.out)|exact HB.out)⟩⟩
        ·rw [if_neg c22] at H
         have c22b0 : (((rd_T31 t2 x6_1).f1).toList == ([] : List UInt8)) = false := beq_eq_false_iff_ne.mpr c22
         have c22b1 : (((rd_T31 t2 x6_1).f1).toList != ([] : List UInt8)) = true := bne_iff_ne.mpr c22
         have c22b2 : (((rd_T31 t2 x6_1).f1).toList).isEmpty = false := by simpa using c22
         (try rw [c22b2])
         (first | rw [c22b0] | (simp only [i64_w, i32_w]; rw [c22b0]) | skip)
         have H' := Aside0.mk H
         clear H
         go_wp2
         go_meet
         case rel => exact ⟨_, (x8000_1), (x8001_1), (x8002_1), H', ⟨by have := HK1.out;first|omega|exact Nat.le_refl _⟩, ⟨by (with_reducible repeat (first|apply Kd.R_alloc|apply Kd.R_drewN|apply Kd.R_drew));exact Kd.R_mono (Kd.R_far (p := ⟨gb6, 2, none⟩) (Kd.R_far (p := ⟨gb6, 1, none⟩) (Kd.R_far (p := ⟨gb6, 0, none⟩) (Kd.R_types HO_3.out BK6.out (by decide)) (fun _ hk => hk.2) (.int .i64 t10)) (fun _ hk => hk.2) (.int .i64 t11)) (fun _ hk => hk.2) (.int .i64 t12)) (fun _ hk => trivial)⟩, ⟨by (with_reducible repeat (first|refine blk_drewN ?_ _|refine blk_drew ?_|refine blk_alloc ?_ _));refine blk_put (cs := #[.int .i64 t10, .int .i64 t11, .int .i64 x7002_1]) ?_ 2 _ rfl;(with_reducible repeat (first|refine blk_drewN ?_ _|refine blk_drew ?_|refine blk_alloc ?_ _));refine blk_put (cs := #[.int .i64 t10, .int .i64 x7001_1, .int .i64 x7002_1]) ?_ 1 _ rfl;(with_reducible repeat (first|refine blk_drewN ?_ _|refine blk_drew ?_|refine blk_alloc ?_ _));refine blk_put (cs := #[.int .i64 x7000_1, .int .i64 x7001_1, .int .i64 x7002_1]) ?_ 0 _ rfl;(with_reducible repeat (first|refine blk_drewN ?_ _|refine blk_drew ?_|refine blk_alloc ?_ _));exact BK6.out⟩, ⟨by (with_reducible repeat (first|refine blk_drewN ?_ _|refine blk_drew ?_|refine blk_alloc ?_ _));refine blk_far ?_ NB7_6.out _;(with_reducible repeat (first|refine blk_drewN ?_ _|refine blk_drew ?_|refine blk_alloc ?_ _));refine blk_far ?_ NB7_6.out _;(with_reducible repeat (first|refine blk_drewN ?_ _|refine blk_drew ?_|refine blk_alloc ?_ _));refine blk_far ?_ NB7_6.out _;(with_reducible repeat (first|refine blk_drewN ?_ _|refine blk_drew ?_|refine blk_alloc ?_ _));exact BK7.out⟩, ⟨by repeat (first|(with_reducible first|exact HB.out|apply below_alloc|apply pw_below_drewN|apply below_drew1|refine below_set ?_ GE6.out|refine below_set ?_ GE7.out)|exact HB.out)⟩⟩
       case rest =>
        clear HC16
        try clear c1
        try clear p1
        try clear q1
        try clear hx1
        try clear c2
        try clear c2b0
        try clear c2b1
        try clear p2
        try clear c3
        try clear c6
        try clear c7
        try clear p9
        try clear q9
        try clear hx9
        try clear c13
        try clear c13b0
        try clear p13
        try clear q13
        try clear hx13
        try clear c14
        try clear c14b0
        try clear p14
        try clear q14
        try clear hx14
        try clear c22
        try clear c22b0
        try clear c22b1
        try clear hx13_0
        try clear hx13_1
        try clear hx13_10
        try clear hx13_11
        try clear hx13_2
        try clear hx13_3
        try clear hx13_4
        try clear hx13_5
        try clear hx13_6
        try clear hx13_7
        try clear hx13_8
        try clear hx13_9
        try clear hx14_0
        try clear hx14_1
        try clear hx14_10
        try clear hx14_11
        try clear hx14_2
        try clear hx14_3
        try clear hx14_4
        try clear hx14_5
        try clear hx14_6
        try clear hx14_7
        try clear hx14_8
        try clear hx14_9
        try clear hx9_0
        try clear hx9_1
        try clear hx9_10
        try clear hx9_11
        try clear hx9_2
        try clear hx9_3
        try clear hx9_4
        try clear hx9_5
        try clear hx9_6
        try clear hx9_7
        try clear hx9_8
        try clear hx9_9
        try clear p13
        try clear p14
        try clear p2
        try clear p9
        try clear q13
        try clear q14
        try clear q9
        obtain ⟨kq, x8000_15, x8001_15, x8002_15, HA, HJ15, HO_3, BK6, BK7, HB⟩ := hcut
        cases kq with
        | zero => exact absurd HA.out (by simp [law12_TreeSums.j1])
        | succ kj15 =>
         have H := HA.out
         clear HA
         simp only [law12_TreeSums.j1] at H
         by_cases c30 : 0 ≤ x6_1
         ·rw [if_pos c30] at H
          have c30b0 : decide (0 ≤ x6_1) = true := decide_eq_true c30
          clear c30
          by_cases c31 : x6_1 < (t2.length : Int)
          ·rw [if_pos c31] at H
           have c31b0 : decide (x6_1 < (t2.length : Int)) = true := decide_eq_true c31
           clear c31
           replace H := Option.bind_eq_some_iff.mp H
           obtain ⟨t19, A320, H⟩ := H
           replace H : (law12_TreeSums.l1 kj15 t2 x6_1 t19 0 t10 t11 t12 x8000_15 x8001_15 x8002_15) = some r := H
           have A32 := Aside0.mk A320
           clear A320
           have H' := Aside0.mk H
           clear H
           have p18 : 0 ≤ (x6_1 : Int) := of_decide_eq_true (by first|(with_reducible assumption)|assumption)
           have q18 : x6_1 < (t2.length : Int) := of_decide_eq_true (by first|(with_reducible assumption)|assumption)
           obtain ⟨ad18, e18, hx18_0, hx18_1, hx18_2, hx18_3, hx18_4, hx18_5, hx18_6, hx18_7, hx18_8, hx18_9, hx18_10, hx18_11⟩ := at_T31 (Kd.R_reads' HO_3.out).2.2 x6_1 p18 q18
           obtain rfl : ad9 = ad18 := (by injection e18)
           replace p18 := eq_true p18
           replace q18 := eq_true q18
           go_wp2_with (first|((with_reducible refine gate_callee (f := 70) rfl ?_);refine goesL_ (some 51) rfl rfl Try.func70 (by kernel_rfl) rfl #[.slice (some ad9) t2.length co9, .string ((rd_T31 t2 x6_1).f0)] rfl (by (try simp only [List.map_toArray, List.map_cons, List.map_nil]);first|done|rfl|(simp only [List.length_drop, List.length_take];rfl)) ?_;(with_reducible refine (tree_Up.calls kj15 _ _ t2 ((rd_T31 t2 x6_1).f0) t19 _ ?side1 ?side2 A32.out).mono ?_);(case side1 => repeat (first|exact (Kd.R_reads' HO_3.out).2.2|(with_reducible refine Kd.C_alloc ?_ _)|(with_reducible refine Kd.C_drewN ?_ _)|(with_reducible refine Kd.C_drew ?_)));(case side2 => exact (Kd.R_reads' HO_3.out).2.1);rintro e w33 ⟨v20, rfl, ho0, hb⟩;refine ⟨_, rfl, ?_⟩;have n0_ := Aside0.mk (Kd.R_below (by (with_reducible repeat (first|apply Kd.R_alloc|apply Kd.R_drewN|apply Kd.R_drew));exact HO_3.out) hb);have n1_ := Aside0.mk (Kd.R_lower ho0 (below_size (by repeat (first|(with_reducible first|exact HB.out|apply below_alloc|apply pw_below_drewN|apply below_drew1|refine below_set ?_ GE6.out|refine below_set ?_ GE7.out)|exact HB.out))));have n2_ := Aside0.mk (blk_below (g := gb6) (o := .cells #[.int .i64 t10, .int .i64 t11, .int .i64 t12] 27 (0, 0)) (by (with_reducible repeat (first|refine blk_drewN ?_ _|refine blk_drew ?_|refine blk_alloc ?_ _));exact BK6.out) hb);have n3_ := Aside0.mk (blk_below (g := gb7) (o := .cells #[.int .i64 x8000_15, .int .i64 x8001_15, .int .i64 x8002_15] 27 (0, 0)) (by (with_reducible repeat (first|refine blk_drewN ?_ _|refine blk_drew ?_|refine blk_alloc ?_ _));exact BK7.out) hb);have n4_ := Aside0.mk (below_step (by repeat (first|(with_reducible first|exact HB.out|apply below_alloc|apply pw_below_drewN|apply below_drew1|refine below_set ?_ GE6.out|refine below_set ?_ GE7.out)|exact HB.out)) hb);clear HO_3;clear BK6;clear BK7;clear HB;have HO_3 := n0_;have HO21 := n1_;have BK6 := n2_;have BK7 := n3_;have HB := n4_;clear n0_ n1_ n2_ n3_ n4_;(try clear hb);(try clear hb2);(try clear hk);(try clear hi);(try clear ho0)))
           go_loopg [8] kj15 (fun kq v8 w' => ∃ (x8_3 : Int), v8 = .int .i64 x8_3 ∧ Aside0 (law12_TreeSums.l1 kq t2 x6_1 t19 x8_3 t10 t11 t12 x8000_15 x8001_15 x8002_15 = some r) ∧ Aside0 (kq ≤ kj15) ∧ Aside0 (Kd.R k31 31 w' w.heap.size (fun _ => True) (.slice (some ad9) t2.length co9) t2) ∧ Aside0 (Kd.R Kd.string 9 w' w.heap.size (fun _ => True) v20 t19) ∧ Aside0 (w'.heap[gb6]? = some (.cells #[.int .i64 t10, .int .i64 t11, .int .i64 t12] 27 (0, 0))) ∧ Aside0 (w'.heap[gb7]? = some (.cells #[.int .i64 x8000_15, .int .i64 x8001_15, .int .i64 x8002_15] 27 (0, 0))) ∧ Aside0 (Below w.heap.size w w'))
           case atStart => exact ⟨(0), (by first|rfl|(simp;done)|(simp [*];done)), H', ⟨Nat.le_refl _⟩, ⟨by (with_reducible repeat (first|apply Kd.R_alloc|apply Kd.R_drewN|apply Kd.R_drew));exact HO_3.out⟩, ⟨by (with_reducible repeat (first|apply Kd.R_alloc|apply Kd.R_drewN|apply Kd.R_drew));exact HO21.out⟩, ⟨by (with_reducible repeat (first|refine blk_drewN ?_ _|refine blk_drew ?_|refine blk_alloc ?_ _));exact BK6.out⟩, ⟨by (with_reducible repeat (first|refine blk_drewN ?_ _|refine blk_drew ?_|refine blk_alloc ?_ _));exact BK7.out⟩, ⟨by repeat (first|(with_reducible first|exact HB.out|apply below_alloc|apply pw_below_drewN|apply below_drew1|refine below_set ?_ GE6.out|refine below_set ?_ GE7.out)|exact HB.out)⟩⟩
           case round =>
            clear H'
            try clear c1
            try clear p1
            try clear q1
            try clear hx1
            try clear c2
            try clear c2b0
            try clear c2b1
            try clear p2
            try clear c3
            try clear c6
            try clear c7
            try clear p9
            try clear q9
            try clear hx9
            try clear c13
            try clear c13b0
            try clear p13
            try clear q13
            try clear hx13
            try clear c14
            try clear c14b0
            try clear p14
            try clear q14
            try clear hx14
            try clear p18
            try clear q18
            try clear hx18
            try clear c22
            try clear c22b0
            try clear c22b1
            try clear c30
            try clear c30b0
            try clear c31
            try clear c31b0
            try clear c32
            try clear hx13_0
            try clear hx13_1
            try clear hx13_10
            try clear hx13_11
            try clear hx13_2
            try clear hx13_3
            try clear hx13_4
            try clear hx13_5
            try clear hx13_6
            try clear hx13_7
            try clear hx13_8
            try clear hx13_9
            try clear hx14_0
            try clear hx14_1
            try clear hx14_10
            try clear hx14_11
            try clear hx14_2
            try clear hx14_3
            try clear hx14_4
            try clear hx14_5
            try clear hx14_6
            try clear hx14_7
            try clear hx14_8
            try clear hx14_9
            try clear hx18_0
            try clear hx18_1
            try clear hx18_10
            try clear hx18_11
            try clear hx18_2
            try clear hx18_3
            try clear hx18_4
            try clear hx18_5
            try clear hx18_6
            try clear hx18_7
            try clear hx18_8
            try clear hx18_9
            try clear hx9_0
            try clear hx9_1
            try clear hx9_10
            try clear hx9_11
            try clear hx9_2
            try clear hx9_3
            try clear hx9_4
            try clear hx9_5
            try clear hx9_6
            try clear hx9_7
            try clear hx9_8
            try clear hx9_9
            try clear p1
            try clear p13
            try clear p14
            try clear p18
            try clear p2
            try clear p9
            try clear q1
            try clear q13
            try clear q14
            try clear q18
            try clear q9
            obtain ⟨x8_3, rfl, HA, HK3, HO_3, HO_7, BK6, BK7, HB⟩ := hrel
            cases gk with
            | zero => exact absurd HA.out (by simp [law12_TreeSums.l1])
            | succ k3 =>
             have H := HA.out
             clear HA
             simp only [law12_TreeSums.l1] at H
             by_cases c34 : x8_3 < (t19.length : Int)
             ·rw [if_pos c34] at H
              have c34b0 : decide (x8_3 < (t19.length : Int)) = true := decide_eq_true c34
              clear c34
              by_cases c35 : 0 ≤ x8_3
              ·rw [if_pos c35] at H
               have c35b0 : decide (0 ≤ x8_3) = true := decide_eq_true c35
               clear c35
               replace H := Option.bind_eq_some_iff.mp H
               obtain ⟨t27, A360, H⟩ := H
               replace H : (if t27 < 0 then (some false) else (if t27 ≥ (t2.length : Int) then (some false) else (if 0 ≤ x6_1 then (if x6_1 < (t2.length : Int) then (if 0 ≤ t27 then (if t27 < (t2.length : Int) then ((r10_Le.f ((rd_T31 t2 x6_1).f3.f0) ((rd_T31 t2 x6_1).f3.f1) ((rd_T31 t2 x6_1).f3.f2) ((rd_T31 t2 t27).f2.f0) ((rd_T31 t2 t27).f2.f1) ((rd_T31 t2 t27).f2.f2)).bind fun t30 => (if t30 = true then (law12_TreeSums.l1 k3 t2 x6_1 t19 (wrap64 (x8_3 + 1)) t10 t11 t12 x8000_15 x8001_15 x8002_15) else (some false))) else (none)) else (none)) else (none)) else (none)))) = some r := H
               have A36 := Aside0.mk A360
               clear A360
               by_cases c37 : t27 < 0
               ·rw [if_pos c37] at H
                have c37b0 : decide (t27 < 0) = true := decide_eq_true c37
                clear c37
                obtain rfl := Option.some.inj H
                obtain ⟨Ao38, co38, eo38⟩ := Kd.R_slice HO_7.out
                subst eo38
                have p26 : 0 ≤ (x8_3 : Int) := of_decide_eq_true (by first|(with_reducible assumption)|assumption)
                have q26 : x8_3 < (t19.length : Int) := of_decide_eq_true (by first|(with_reducible assumption)|assumption)
                obtain ⟨ad26, e26, hx26_0⟩ := Kd.at_string (Kd.R_reads' HO_7.out).2.2 x8_3 p26 q26
                cases e26
                replace p26 := eq_true p26
                replace q26 := eq_true q26
                try go_wp2_with (first|((with_reducible refine gate_callee (f := 71) rfl ?_);refine goesL_ (some 63) rfl rfl Try.func71 (by kernel_rfl) rfl #[.slice (some ad9) t2.length co9, .string (rdOf ByteArray.empty t19 x8_3)] rfl (by (try simp only [List.map_toArray, List.map_cons, List.map_nil]);first|done|rfl|(simp only [List.length_drop, List.length_take];rfl)) ?_;(with_reducible refine (tree_Find.calls _ _ t2 (rdOf ByteArray.empty t19 x8_3) t27 _ ?side1 ?side2 A36.out).mono ?_);(case side1 => repeat (first|exact (Kd.R_reads' HO_3.out).2.2|(with_reducible refine Kd.C_alloc ?_ _)|(with_reducible refine Kd.C_drewN ?_ _)|(with_reducible refine Kd.C_drew ?_)));(case side2 => exact (Kd.R_reads' HO_3.out).2.1);rintro e w39 ⟨rfl, hb⟩;refine ⟨_, rfl, ?_⟩;have n0_ := Aside0.mk (Kd.R_below (by (with_reducible repeat (first|apply Kd.R_alloc|apply Kd.R_drewN|apply Kd.R_drew));exact HO_3.out) hb);have n1_ := Aside0.mk (Kd.R_below (by (with_reducible repeat (first|apply Kd.R_alloc|apply Kd.R_drewN|apply Kd.R_drew));exact HO_7.out) hb);have n2_ := Aside0.mk (blk_below (g := gb6) (o := .cells #[.int .i64 t10, .int .i64 t11, .int .i64 t12] 27 (0, 0)) (by (with_reducible repeat (first|refine blk_drewN ?_ _|refine blk_drew ?_|refine blk_alloc ?_ _));exact BK6.out) hb);have n3_ := Aside0.mk (blk_below (g := gb7) (o := .cells #[.int .i64 x8000_15, .int .i64 x8001_15, .int .i64 x8002_15] 27 (0, 0)) (by (with_reducible repeat (first|refine blk_drewN ?_ _|refine blk_drew ?_|refine blk_alloc ?_ _));exact BK7.out) hb);have n4_ := Aside0.mk (below_step (by repeat (first|(with_reducible first|exact HB.out|apply below_alloc|apply pw_below_drewN|apply below_drew1|refine below_set ?_ GE6.out|refine below_set ?_ GE7.out)|exact HB.out)) hb);clear HO_3;clear HO_7;clear BK6;clear BK7;clear HB;have HO_3 := n0_;have HO_7 := n1_;have BK6 := n2_;have BK7 := n3_;have HB := n4_;clear n0_ n1_ n2_ n3_ n4_;(try clear hb);(try clear hb2);(try clear hk);(try clear hi)))
                have n0_ := Aside0.mk (Kd.R_drew HO_3.out)
                have n1_ := Aside0.mk (Kd.R_drew HO_7.out)
                have n2_ := Aside0.mk (blk_drew BK6.out)
                have n3_ := Aside0.mk (blk_drew BK7.out)
                have n4_ := Aside0.mk (below_drew1 HB.out)
                clear HO_3
                clear HO_7
                clear BK6
                clear BK7
                clear HB
                have HO_3 := n0_
                have HO_7 := n1_
                have BK6 := n2_
                have BK7 := n3_
                have HB := n4_
                clear n0_ n1_ n2_ n3_ n4_
                refine start_ (n := 22) (S := fun w' => True) (ds := []) #[false, false, false, false, false, false, false, false, false, false, false, false, false, false, false, false, false, false, false, false, false, false] (by kernel_rfl) rfl rfl trivial (fun hHeld => ?_); refine with_tabW law12_TreeSums.tab18 law12_TreeSums.bits18 (fun HT_ HW_ => ?_)
                generalize w39.drew = w40 at HO_3 HO_7 BK6 BK7 HB hHeld ⊢
                refine pure_ (i := 0) (N := some 64) (v := ?_) (a' := ?_) #[true, false, false, false, false, false, false, false, false, false, false, false, false, false, false, false, false, false, false, false, false, false] rfl rfl (any_of HT_.out (by kernel_rfl)) (fun _ _ _ h => h) (Or.inl ⟨by rfl, ?_⟩) ?_ ?_
                rotate_left
                ·intro w'
                 go_simp
                 with_reducible rfl
                rotate_left
                ·simp only [Act.put, List.setIfInBounds_toArray, List.set_cons_zero, List.set_cons_succ, i64_w, i32_w]
                 rfl
                refine pure_ (i := 1) (N := some 65) (v := ?_) (a' := ?_) #[true, true, false, false, false, false, false, false, false, false, false, false, false, false, false, false, false, false, false, false, false, false] rfl rfl (any_of HT_.out (by kernel_rfl)) (fun _ _ _ h => h) (Or.inl ⟨by rfl, ?_⟩) ?_ ?_
                rotate_left
                ·intro w'
                 go_simp
                 with_reducible rfl
                rotate_left
                ·simp only [Act.put, List.setIfInBounds_toArray, List.set_cons_zero, List.set_cons_succ, i64_w, i32_w]
                 rfl
                refine pure_ (i := 2) (N := some 66) (v := ?_) (a' := ?_) #[true, true, true, false, false, false, false, false, false, false, false, false, false, false, false, false, false, false, false, false, false, false] rfl rfl (any_of HT_.out (by kernel_rfl)) (fun _ _ _ h => h) (Or.inl ⟨by rfl, ?_⟩) ?_ ?_
                rotate_left
                ·intro w'
                 go_simp
                 with_reducible rfl
                rotate_left
                ·simp only [Act.put, List.setIfInBounds_toArray, List.set_cons_zero, List.set_cons_succ, i64_w, i32_w]
                 rfl
                refine pure_ (i := 3) (N := some 67) (v := undef) (a' := ?_) #[true, true, true, true, false, false, false, false, false, false, false, false, false, false, false, false, false, false, false, false, false, false] rfl rfl (any_of HT_.out (by kernel_rfl)) (fun _ _ _ h => h) (Or.inr ⟨by rfl, rfl⟩) ?_ ?_
                rotate_left
                ·simp only [Act.put, List.setIfInBounds_toArray, List.set_cons_zero, List.set_cons_succ, i64_w, i32_w]
                 rfl
                refine pure_ (i := 4) (N := some 68) (v := undef) (a' := ?_) #[true, true, true, true, true, false, false, false, false, false, false, false, false, false, false, false, false, false, false, false, false, false] rfl rfl (any_of HT_.out (by kernel_rfl)) (fun _ _ _ h => h) (Or.inr ⟨by rfl, rfl⟩) ?_ ?_
                rotate_left
                ·simp only [Act.put, List.setIfInBounds_toArray, List.set_cons_zero, List.set_cons_succ, i64_w, i32_w]
                 rfl
                refine pure_ (i := 5) (N := some 69) (v := undef) (a' := ?_) #[true, true, true, true, true, true, false, false, false, false, false, false, false, false, false, false, false, false, false, false, false, false] rfl rfl (any_of HT_.out (by kernel_rfl)) (fun _ _ _ h => h) (Or.inr ⟨by rfl, rfl⟩) ?_ ?_
                rotate_left
                ·simp only [Act.put, List.setIfInBounds_toArray, List.set_cons_zero, List.set_cons_succ, i64_w, i32_w]
                 rfl
                refine pure_ (i := 6) (N := some 70) (v := undef) (a' := ?_) #[true, true, true, true, true, true, true, false, false, false, false, false, false, false, false, false, false, false, false, false, false, false] rfl rfl (any_of HT_.out (by kernel_rfl)) (fun _ _ _ h => h) (Or.inr ⟨by rfl, rfl⟩) ?_ ?_
                rotate_left
                ·simp only [Act.put, List.setIfInBounds_toArray, List.set_cons_zero, List.set_cons_succ, i64_w, i32_w]
                 rfl
                refine pure_ (i := 7) (N := some 71) (v := ?_) (a' := ?_) #[true, true, true, true, true, true, true, true, false, false, false, false, false, false, false, false, false, false, false, false, false, false] rfl rfl (any_of HT_.out (by kernel_rfl)) (fun _ _ _ h => h) (Or.inl ⟨by rfl, ?_⟩) ?_ ?_
                rotate_left
                ·intro w'
                 go_simp
                 with_reducible rfl
                rotate_left
                ·simp only [Act.put, List.setIfInBounds_toArray, List.set_cons_zero, List.set_cons_succ, i64_w, i32_w]
                 rfl
                refine pure_ (i := 8) (N := some 72) (v := ?_) (a' := ?_) #[true, true, true, true, true, true, true, true, true, false, false, false, false, false, false, false, false, false, false, false, false, false] rfl rfl (any_of HT_.out (by kernel_rfl)) (fun _ _ _ h => h) (Or.inl ⟨by rfl, ?_⟩) ?_ ?_
                rotate_left
                ·intro w'
                 go_simp
                 with_reducible rfl
                rotate_left
                ·simp only [Act.put, List.setIfInBounds_toArray, List.set_cons_zero, List.set_cons_succ, i64_w, i32_w]
                 rfl
                refine pure_ (i := 9) (N := some 73) (v := undef) (a' := ?_) #[true, true, true, true, true, true, true, true, true, true, false, false, false, false, false, false, false, false, false, false, false, false] rfl rfl (any_of HT_.out (by kernel_rfl)) (fun _ _ _ h => h) (Or.inr ⟨by rfl, rfl⟩) ?_ ?_
                rotate_left
                ·simp only [Act.put, List.setIfInBounds_toArray, List.set_cons_zero, List.set_cons_succ, i64_w, i32_w]
                 rfl
                refine pure_ (i := 10) (N := some 74) (v := undef) (a' := ?_) #[true, true, true, true, true, true, true, true, true, true, true, false, false, false, false, false, false, false, false, false, false, false] rfl rfl (any_of HT_.out (by kernel_rfl)) (fun _ _ _ h => h) (Or.inr ⟨by rfl, rfl⟩) ?_ ?_
                rotate_left
                ·simp only [Act.put, List.setIfInBounds_toArray, List.set_cons_zero, List.set_cons_succ, i64_w, i32_w]
                 rfl
                refine pure_ (i := 11) (N := some 75) (v := undef) (a' := ?_) #[true, true, true, true, true, true, true, true, true, true, true, true, false, false, false, false, false, false, false, false, false, false] rfl rfl (any_of HT_.out (by kernel_rfl)) (fun _ _ _ h => h) (Or.inr ⟨by rfl, rfl⟩) ?_ ?_
                rotate_left
                ·simp only [Act.put, List.setIfInBounds_toArray, List.set_cons_zero, List.set_cons_succ, i64_w, i32_w]
                 rfl
                refine pure_ (i := 12) (N := some 76) (v := undef) (a' := ?_) #[true, true, true, true, true, true, true, true, true, true, true, true, true, false, false, false, false, false, false, false, false, false] rfl rfl (any_of HT_.out (by kernel_rfl)) (fun _ _ _ h => h) (Or.inr ⟨by rfl, rfl⟩) ?_ ?_
                rotate_left
                ·simp only [Act.put, List.setIfInBounds_toArray, List.set_cons_zero, List.set_cons_succ, i64_w, i32_w]
                 rfl
                refine pure_ (i := 13) (N := some 77) (v := undef) (a' := ?_) #[true, true, true, true, true, true, true, true, true, true, true, true, true, true, false, false, false, false, false, false, false, false] rfl rfl (any_of HT_.out (by kernel_rfl)) (fun _ _ _ h => h) (Or.inr ⟨by rfl, rfl⟩) ?_ ?_
                rotate_left
                ·simp only [Act.put, List.setIfInBounds_toArray, List.set_cons_zero, List.set_cons_succ, i64_w, i32_w]
                 rfl
                refine pure_ (i := 14) (N := some 78) (v := undef) (a' := ?_) #[true, true, true, true, true, true, true, true, true, true, true, true, true, true, true, false, false, false, false, false, false, false] rfl rfl (any_of HT_.out (by kernel_rfl)) (fun _ _ _ h => h) (Or.inr ⟨by rfl, rfl⟩) ?_ ?_
                rotate_left
                ·simp only [Act.put, List.setIfInBounds_toArray, List.set_cons_zero, List.set_cons_succ, i64_w, i32_w]
                 rfl
                refine pure_ (i := 15) (N := some 79) (v := undef) (a' := ?_) #[true, true, true, true, true, true, true, true, true, true, true, true, true, true, true, true, false, false, false, false, false, false] rfl rfl (any_of HT_.out (by kernel_rfl)) (fun _ _ _ h => h) (Or.inr ⟨by rfl, rfl⟩) ?_ ?_
                rotate_left
                ·simp only [Act.put, List.setIfInBounds_toArray, List.set_cons_zero, List.set_cons_succ, i64_w, i32_w]
                 rfl
                refine pure_ (i := 16) (N := some 80) (v := undef) (a' := ?_) #[true, true, true, true, true, true, true, true, true, true, true, true, true, true, true, true, true, false, false, false, false, false] rfl rfl (any_of HT_.out (by kernel_rfl)) (fun _ _ _ h => h) (Or.inr ⟨by rfl, rfl⟩) ?_ ?_
                rotate_left
                ·simp only [Act.put, List.setIfInBounds_toArray, List.set_cons_zero, List.set_cons_succ, i64_w, i32_w]
                 rfl
                refine pure_ (i := 17) (N := some 81) (v := undef) (a' := ?_) #[true, true, true, true, true, true, true, true, true, true, true, true, true, true, true, true, true, true, false, false, false, false] rfl rfl (any_of HT_.out (by kernel_rfl)) (fun _ _ _ h => h) (Or.inr ⟨by rfl, rfl⟩) ?_ ?_
                rotate_left
                ·simp only [Act.put, List.setIfInBounds_toArray, List.set_cons_zero, List.set_cons_succ, i64_w, i32_w]
                 rfl
                refine pure_ (i := 18) (N := some 82) (v := undef) (a' := ?_) #[true, true, true, true, true, true, true, true, true, true, true, true, true, true, true, true, true, true, true, false, false, false] rfl rfl (any_of HT_.out (by kernel_rfl)) (fun _ _ _ h => h) (Or.inr ⟨by rfl, rfl⟩) ?_ ?_
                rotate_left
                ·simp only [Act.put, List.setIfInBounds_toArray, List.set_cons_zero, List.set_cons_succ, i64_w, i32_w]
                 rfl
                refine pure_ (i := 19) (N := some 83) (v := undef) (a' := ?_) #[true, true, true, true, true, true, true, true, true, true, true, true, true, true, true, true, true, true, true, true, false, false] rfl rfl (any_of HT_.out (by kernel_rfl)) (fun _ _ _ h => h) (Or.inr ⟨by rfl, rfl⟩) ?_ ?_
                rotate_left
                ·simp only [Act.put, List.setIfInBounds_toArray, List.set_cons_zero, List.set_cons_succ, i64_w, i32_w]
                 rfl
                refine pure_ (i := 20) (N := some 84) (v := undef) (a' := ?_) #[true, true, true, true, true, true, true, true, true, true, true, true, true, true, true, true, true, true, true, true, true, false] rfl rfl (any_of HT_.out (by kernel_rfl)) (fun _ _ _ h => h) (Or.inr ⟨by rfl, rfl⟩) ?_ ?_
                rotate_left
                ·simp only [Act.put, List.setIfInBounds_toArray, List.set_cons_zero, List.set_cons_succ, i64_w, i32_w]
                 rfl
                refine pure_ (i := 21) (N := some 85) (v := ?_) (a' := ?_) #[true, true, true, true, true, true, true, true, true, true, true, true, true, true, true, true, true, true, true, true, true, true] rfl rfl (any_of HT_.out (by kernel_rfl)) (fun _ _ _ h => h) (Or.inl ⟨by rfl, ?_⟩) ?_ ?_
                rotate_left
                ·intro w'
                 go_simp
                 with_reducible rfl
                rotate_left
                ·simp only [Act.put, List.setIfInBounds_toArray, List.set_cons_zero, List.set_cons_succ, i64_w, i32_w]
                 rfl
                refine done_ (done_of HT_.out (by kernel_rfl)) ?_
                try go_wp2
                go_ret
                exact ⟨by first|rfl|(simp [errW_none, errW_some] <;> rfl)|(simp [*, errW_none, errW_some] <;> rfl), by repeat (first|(with_reducible first|exact HB.out|apply below_alloc|apply pw_below_drewN|apply below_drew1|refine below_set ?_ GE6.out|refine below_set ?_ GE7.out)|exact HB.out)⟩
               ·rw [if_neg c37] at H
                have c37b0 : decide (t27 < 0) = false := decide_eq_false c37
                clear c37
                by_cases c41 : t27 ≥ (t2.length : Int)
                ·rw [if_pos c41] at H
                 have c41b0 : decide ((t2.length : Int) ≤ t27) = true := decide_eq_true c41
                 clear c41
                 obtain rfl := Option.some.inj H
                 obtain ⟨Ao42, co42, eo42⟩ := Kd.R_slice HO_7.out
                 subst eo42
                 have p26 : 0 ≤ (x8_3 : Int) := of_decide_eq_true (by first|(with_reducible assumption)|assumption)
                 have q26 : x8_3 < (t19.length : Int) := of_decide_eq_true (by first|(with_reducible assumption)|assumption)
                 obtain ⟨ad26, e26, hx26_0⟩ := Kd.at_string (Kd.R_reads' HO_7.out).2.2 x8_3 p26 q26
                 cases e26
                 replace p26 := eq_true p26
                 replace q26 := eq_true q26
                 try go_wp2_with (first|((with_reducible refine gate_callee (f := 71) rfl ?_);refine goesL_ (some 63) rfl rfl Try.func71 (by kernel_rfl) rfl #[.slice (some ad9) t2.length co9, .string (rdOf ByteArray.empty t19 x8_3)] rfl (by (try simp only [List.map_toArray, List.map_cons, List.map_nil]);first|done|rfl|(simp only [List.length_drop, List.length_take];rfl)) ?_;(with_reducible refine (tree_Find.calls _ _ t2 (rdOf ByteArray.empty t19 x8_3) t27 _ ?side1 ?side2 A36.out).mono ?_);(case side1 => repeat (first|exact (Kd.R_reads' HO_3.out).2.2|(with_reducible refine Kd.C_alloc ?_ _)|(with_reducible refine Kd.C_drewN ?_ _)|(with_reducible refine Kd.C_drew ?_)));(case side2 => exact (Kd.R_reads' HO_3.out).2.1);rintro e w43 ⟨rfl, hb⟩;refine ⟨_, rfl, ?_⟩;have n0_ := Aside0.mk (Kd.R_below (by (with_reducible repeat (first|apply Kd.R_alloc|apply Kd.R_drewN|apply Kd.R_drew));exact HO_3.out) hb);have n1_ := Aside0.mk (Kd.R_below (by (with_reducible repeat (first|apply Kd.R_alloc|apply Kd.R_drewN|apply Kd.R_drew));exact HO_7.out) hb);have n2_ := Aside0.mk (blk_below (g := gb6) (o := .cells #[.int .i64 t10, .int .i64 t11, .int .i64 t12] 27 (0, 0)) (by (with_reducible repeat (first|refine blk_drewN ?_ _|refine blk_drew ?_|refine blk_alloc ?_ _));exact BK6.out) hb);have n3_ := Aside0.mk (blk_below (g := gb7) (o := .cells #[.int .i64 x8000_15, .int .i64 x8001_15, .int .i64 x8002_15] 27 (0, 0)) (by (with_reducible repeat (first|refine blk_drewN ?_ _|refine blk_drew ?_|refine blk_alloc ?_ _));exact BK7.out) hb);have n4_ := Aside0.mk (below_step (by repeat (first|(with_reducible first|exact HB.out|apply below_alloc|apply pw_below_drewN|apply below_drew1|refine below_set ?_ GE6.out|refine below_set ?_ GE7.out)|exact HB.out)) hb);clear HO_3;clear HO_7;clear BK6;clear BK7;clear HB;have HO_3 := n0_;have HO_7 := n1_;have BK6 := n2_;have BK7 := n3_;have HB := n4_;clear n0_ n1_ n2_ n3_ n4_;(try clear hb);(try clear hb2);(try clear hk);(try clear hi)))
                 have n0_ := Aside0.mk (Kd.R_drew HO_3.out)
                 have n1_ := Aside0.mk (Kd.R_drew HO_7.out)
                 have n2_ := Aside0.mk (blk_drew BK6.out)
                 have n3_ := Aside0.mk (blk_drew BK7.out)
                 have n4_ := Aside0.mk (below_drew1 HB.out)
                 clear HO_3
                 clear HO_7
                 clear BK6
                 clear BK7
                 clear HB
                 have HO_3 := n0_
                 have HO_7 := n1_
                 have BK6 := n2_
                 have BK7 := n3_
                 have HB := n4_
                 clear n0_ n1_ n2_ n3_ n4_
                 refine start_ (n := 22) (S := fun w' => True) (ds := []) #[false, false, false, false, false, false, false, false, false, false, false, false, false, false, false, false, false, false, false, false, false, false] (by kernel_rfl) rfl rfl trivial (fun hHeld => ?_); refine with_tabW law12_TreeSums.tab18 law12_TreeSums.bits18 (fun HT_ HW_ => ?_)
                 generalize w43.drew = w44 at HO_3 HO_7 BK6 BK7 HB hHeld ⊢
                 refine pure_ (i := 0) (N := some 64) (v := ?_) (a' := ?_) #[true, false, false, false, false, false, false, false, false, false, false, false, false, false, false, false, false, false, false, false, false, false] rfl rfl (any_of HT_.out (by kernel_rfl)) (fun _ _ _ h => h) (Or.inl ⟨by rfl, ?_⟩) ?_ ?_
                 rotate_left
                 ·intro w'
                  go_simp
                  with_reducible rfl
                 rotate_left
                 ·simp only [Act.put, List.setIfInBounds_toArray, List.set_cons_zero, List.set_cons_succ, i64_w, i32_w]
                  rfl
                 refine pure_ (i := 1) (N := some 65) (v := ?_) (a' := ?_) #[true, true, false, false, false, false, false, false, false, false, false, false, false, false, false, false, false, false, false, false, false, false] rfl rfl (any_of HT_.out (by kernel_rfl)) (fun _ _ _ h => h) (Or.inl ⟨by rfl, ?_⟩) ?_ ?_
                 rotate_left
                 ·intro w'
                  go_simp
                  with_reducible rfl
                 rotate_left
                 ·simp only [Act.put, List.setIfInBounds_toArray, List.set_cons_zero, List.set_cons_succ, i64_w, i32_w]
                  rfl
                 refine pure_ (i := 2) (N := some 66) (v := ?_) (a' := ?_) #[true, true, true, false, false, false, false, false, false, false, false, false, false, false, false, false, false, false, false, false, false, false] rfl rfl (any_of HT_.out (by kernel_rfl)) (fun _ _ _ h => h) (Or.inl ⟨by rfl, ?_⟩) ?_ ?_
                 rotate_left
                 ·intro w'
                  go_simp
                  with_reducible rfl
                 rotate_left
                 ·simp only [Act.put, List.setIfInBounds_toArray, List.set_cons_zero, List.set_cons_succ, i64_w, i32_w]
                  rfl
                 refine pure_ (i := 3) (N := some 67) (v := ?_) (a' := ?_) #[true, true, true, true, false, false, false, false, false, false, false, false, false, false, false, false, false, false, false, false, false, false] rfl rfl (any_of HT_.out (by kernel_rfl)) (fun _ _ _ h => h) (Or.inl ⟨by rfl, ?_⟩) ?_ ?_
                 rotate_left
                 ·intro w'
                  go_simp
                  with_reducible rfl
                 rotate_left
                 ·simp only [Act.put, List.setIfInBounds_toArray, List.set_cons_zero, List.set_cons_succ, i64_w, i32_w]
                  rfl
                 refine pure_ (i := 4) (N := some 68) (v := ?_) (a' := ?_) #[true, true, true, true, true, false, false, false, false, false, false, false, false, false, false, false, false, false, false, false, false, false] rfl rfl (any_of HT_.out (by kernel_rfl)) (fun _ _ _ h => h) (Or.inl ⟨by rfl, ?_⟩) ?_ ?_
                 rotate_left
                 ·intro w'
                  go_simp
                  with_reducible rfl
                 rotate_left
                 ·simp only [Act.put, List.setIfInBounds_toArray, List.set_cons_zero, List.set_cons_succ, i64_w, i32_w]
                  rfl
                 refine pure_ (i := 5) (N := some 69) (v := ?_) (a' := ?_) #[true, true, true, true, true, true, false, false, false, false, false, false, false, false, false, false, false, false, false, false, false, false] rfl rfl (any_of HT_.out (by kernel_rfl)) (fun _ _ _ h => h) (Or.inl ⟨by rfl, ?_⟩) ?_ ?_
                 rotate_left
                 ·intro w'
                  go_simp
                  with_reducible rfl
                 rotate_left
                 ·simp only [Act.put, List.setIfInBounds_toArray, List.set_cons_zero, List.set_cons_succ, i64_w, i32_w]
                  rfl
                 refine pure_ (i := 6) (N := some 70) (v := ?_) (a' := ?_) #[true, true, true, true, true, true, true, false, false, false, false, false, false, false, false, false, false, false, false, false, false, false] rfl rfl (any_of HT_.out (by kernel_rfl)) (fun _ _ _ h => h) (Or.inl ⟨by rfl, ?_⟩) ?_ ?_
                 rotate_left
                 ·intro w'
                  go_simp
                  with_reducible rfl
                 rotate_left
                 ·simp only [Act.put, List.setIfInBounds_toArray, List.set_cons_zero, List.set_cons_succ, i64_w, i32_w]
                  rfl
                 refine pure_ (i := 7) (N := some 71) (v := ?_) (a' := ?_) #[true, true, true, true, true, true, true, true, false, false, false, false, false, false, false, false, false, false, false, false, false, false] rfl rfl (any_of HT_.out (by kernel_rfl)) (fun _ _ _ h => h) (Or.inl ⟨by rfl, ?_⟩) ?_ ?_
                 rotate_left
                 ·intro w'
                  go_simp
                  with_reducible rfl
                 rotate_left
                 ·simp only [Act.put, List.setIfInBounds_toArray, List.set_cons_zero, List.set_cons_succ, i64_w, i32_w]
                  rfl
                 refine pure_ (i := 8) (N := some 72) (v := ?_) (a' := ?_) #[true, true, true, true, true, true, true, true, true, false, false, false, false, false, false, false, false, false, false, false, false, false] rfl rfl (any_of HT_.out (by kernel_rfl)) (fun _ _ _ h => h) (Or.inl ⟨by rfl, ?_⟩) ?_ ?_
                 rotate_left
                 ·intro w'
                  go_simp
                  with_reducible rfl
                 rotate_left
                 ·simp only [Act.put, List.setIfInBounds_toArray, List.set_cons_zero, List.set_cons_succ, i64_w, i32_w]
                  rfl
                 refine pure_ (i := 9) (N := some 73) (v := undef) (a' := ?_) #[true, true, true, true, true, true, true, true, true, true, false, false, false, false, false, false, false, false, false, false, false, false] rfl rfl (any_of HT_.out (by kernel_rfl)) (fun _ _ _ h => h) (Or.inr ⟨by rfl, rfl⟩) ?_ ?_
                 rotate_left
                 ·simp only [Act.put, List.setIfInBounds_toArray, List.set_cons_zero, List.set_cons_succ, i64_w, i32_w]
                  rfl
                 refine pure_ (i := 10) (N := some 74) (v := undef) (a' := ?_) #[true, true, true, true, true, true, true, true, true, true, true, false, false, false, false, false, false, false, false, false, false, false] rfl rfl (any_of HT_.out (by kernel_rfl)) (fun _ _ _ h => h) (Or.inr ⟨by rfl, rfl⟩) ?_ ?_
                 rotate_left
                 ·simp only [Act.put, List.setIfInBounds_toArray, List.set_cons_zero, List.set_cons_succ, i64_w, i32_w]
                  rfl
                 refine pure_ (i := 11) (N := some 75) (v := undef) (a' := ?_) #[true, true, true, true, true, true, true, true, true, true, true, true, false, false, false, false, false, false, false, false, false, false] rfl rfl (any_of HT_.out (by kernel_rfl)) (fun _ _ _ h => h) (Or.inr ⟨by rfl, rfl⟩) ?_ ?_
                 rotate_left
                 ·simp only [Act.put, List.setIfInBounds_toArray, List.set_cons_zero, List.set_cons_succ, i64_w, i32_w]
                  rfl
                 refine pure_ (i := 12) (N := some 76) (v := undef) (a' := ?_) #[true, true, true, true, true, true, true, true, true, true, true, true, true, false, false, false, false, false, false, false, false, false] rfl rfl (any_of HT_.out (by kernel_rfl)) (fun _ _ _ h => h) (Or.inr ⟨by rfl, rfl⟩) ?_ ?_
                 rotate_left
                 ·simp only [Act.put, List.setIfInBounds_toArray, List.set_cons_zero, List.set_cons_succ, i64_w, i32_w]
                  rfl
                 refine pure_ (i := 13) (N := some 77) (v := undef) (a' := ?_) #[true, true, true, true, true, true, true, true, true, true, true, true, true, true, false, false, false, false, false, false, false, false] rfl rfl (any_of HT_.out (by kernel_rfl)) (fun _ _ _ h => h) (Or.inr ⟨by rfl, rfl⟩) ?_ ?_
                 rotate_left
                 ·simp only [Act.put, List.setIfInBounds_toArray, List.set_cons_zero, List.set_cons_succ, i64_w, i32_w]
                  rfl
                 refine pure_ (i := 14) (N := some 78) (v := undef) (a' := ?_) #[true, true, true, true, true, true, true, true, true, true, true, true, true, true, true, false, false, false, false, false, false, false] rfl rfl (any_of HT_.out (by kernel_rfl)) (fun _ _ _ h => h) (Or.inr ⟨by rfl, rfl⟩) ?_ ?_
                 rotate_left
                 ·simp only [Act.put, List.setIfInBounds_toArray, List.set_cons_zero, List.set_cons_succ, i64_w, i32_w]
                  rfl
                 refine pure_ (i := 15) (N := some 79) (v := undef) (a' := ?_) #[true, true, true, true, true, true, true, true, true, true, true, true, true, true, true, true, false, false, false, false, false, false] rfl rfl (any_of HT_.out (by kernel_rfl)) (fun _ _ _ h => h) (Or.inr ⟨by rfl, rfl⟩) ?_ ?_
                 rotate_left
                 ·simp only [Act.put, List.setIfInBounds_toArray, List.set_cons_zero, List.set_cons_succ, i64_w, i32_w]
                  rfl
                 refine pure_ (i := 16) (N := some 80) (v := undef) (a' := ?_) #[true, true, true, true, true, true, true, true, true, true, true, true, true, true, true, true, true, false, false, false, false, false] rfl rfl (any_of HT_.out (by kernel_rfl)) (fun _ _ _ h => h) (Or.inr ⟨by rfl, rfl⟩) ?_ ?_
                 rotate_left
                 ·simp only [Act.put, List.setIfInBounds_toArray, List.set_cons_zero, List.set_cons_succ, i64_w, i32_w]
                  rfl
                 refine pure_ (i := 17) (N := some 81) (v := undef) (a' := ?_) #[true, true, true, true, true, true, true, true, true, true, true, true, true, true, true, true, true, true, false, false, false, false] rfl rfl (any_of HT_.out (by kernel_rfl)) (fun _ _ _ h => h) (Or.inr ⟨by rfl, rfl⟩) ?_ ?_
                 rotate_left
                 ·simp only [Act.put, List.setIfInBounds_toArray, List.set_cons_zero, List.set_cons_succ, i64_w, i32_w]
                  rfl
                 refine pure_ (i := 18) (N := some 82) (v := undef) (a' := ?_) #[true, true, true, true, true, true, true, true, true, true, true, true, true, true, true, true, true, true, true, false, false, false] rfl rfl (any_of HT_.out (by kernel_rfl)) (fun _ _ _ h => h) (Or.inr ⟨by rfl, rfl⟩) ?_ ?_
                 rotate_left
                 ·simp only [Act.put, List.setIfInBounds_toArray, List.set_cons_zero, List.set_cons_succ, i64_w, i32_w]
                  rfl
                 refine pure_ (i := 19) (N := some 83) (v := undef) (a' := ?_) #[true, true, true, true, true, true, true, true, true, true, true, true, true, true, true, true, true, true, true, true, false, false] rfl rfl (any_of HT_.out (by kernel_rfl)) (fun _ _ _ h => h) (Or.inr ⟨by rfl, rfl⟩) ?_ ?_
                 rotate_left
                 ·simp only [Act.put, List.setIfInBounds_toArray, List.set_cons_zero, List.set_cons_succ, i64_w, i32_w]
                  rfl
                 refine pure_ (i := 20) (N := some 84) (v := undef) (a' := ?_) #[true, true, true, true, true, true, true, true, true, true, true, true, true, true, true, true, true, true, true, true, true, false] rfl rfl (any_of HT_.out (by kernel_rfl)) (fun _ _ _ h => h) (Or.inr ⟨by rfl, rfl⟩) ?_ ?_
                 rotate_left
                 ·simp only [Act.put, List.setIfInBounds_toArray, List.set_cons_zero, List.set_cons_succ, i64_w, i32_w]
                  rfl
                 refine pure_ (i := 21) (N := some 85) (v := ?_) (a' := ?_) #[true, true, true, true, true, true, true, true, true, true, true, true, true, true, true, true, true, true, true, true, true, true] rfl rfl (any_of HT_.out (by kernel_rfl)) (fun _ _ _ h => h) (Or.inl ⟨by rfl, ?_⟩) ?_ ?_
                 rotate_left
                 ·intro w'
                  go_simp
                  with_reducible rfl
                 rotate_left
                 ·simp only [Act.put, List.setIfInBounds_toArray, List.set_cons_zero, List.set_cons_succ, i64_w, i32_w]
                  rfl
                 refine done_ (done_of HT_.out (by kernel_rfl)) ?_
                 try go_wp2
                 go_ret
                 exact ⟨by first|rfl|(simp [errW_none, errW_some] <;> rfl)|(simp [*, errW_none, errW_some] <;> rfl), by repeat (first|(with_reducible first|exact HB.out|apply below_alloc|apply pw_below_drewN|apply below_drew1|refine below_set ?_ GE6.out|refine below_set ?_ GE7.out)|exact HB.out)⟩
                ·rw [if_neg c41] at H
                 have c41b0 : decide ((t2.length : Int) ≤ t27) = false := decide_eq_false c41
                 clear c41
                 by_cases c45 : 0 ≤ x6_1
                 ·rw [if_pos c45] at H
                  have c45b0 : decide (0 ≤ x6_1) = true := decide_eq_true c45
                  clear c45
                  by_cases c46 : x6_1 < (t2.length : Int)
                  ·rw [if_pos c46] at H
                   have c46b0 : decide (x6_1 < (t2.length : Int)) = true := decide_eq_true c46
                   clear c46
                   by_cases c47 : 0 ≤ t27
                   ·rw [if_pos c47] at H
                    have c47b0 : decide (0 ≤ t27) = true := decide_eq_true c47
                    clear c47
                    by_cases c48 : t27 < (t2.length : Int)
                    ·rw [if_pos c48] at H
                     have c48b0 : decide (t27 < (t2.length : Int)) = true := decide_eq_true c48
                     clear c48
                     replace H := Option.bind_eq_some_iff.mp H
                     obtain ⟨t30, A490, H⟩ := H
                     replace H : (if t30 = true then (law12_TreeSums.l1 k3 t2 x6_1 t19 (wrap64 (x8_3 + 1)) t10 t11 t12 x8000_15 x8001_15 x8002_15) else (some false)) = some r := H
                     have A49 := Aside0.mk A490
                     clear A490
                     by_cases c50 : t30 = true
                     ·subst c50
                      have H1 : (law12_TreeSums.l1 k3 t2 x6_1 t19 (wrap64 (x8_3 + 1)) t10 t11 t12 x8000_15 x8001_15 x8002_15) = some r := by rw [if_pos rfl] at H; exact H
                      clear H
                      have H := H1
                      clear H1
                      have H' := Aside0.mk H
                      clear H
                      obtain ⟨Ao51, co51, eo51⟩ := Kd.R_slice HO_7.out
                      subst eo51
                      have p26 : 0 ≤ (x8_3 : Int) := of_decide_eq_true (by first|(with_reducible assumption)|assumption)
                      have q26 : x8_3 < (t19.length : Int) := of_decide_eq_true (by first|(with_reducible assumption)|assumption)
                      obtain ⟨ad26, e26, hx26_0⟩ := Kd.at_string (Kd.R_reads' HO_7.out).2.2 x8_3 p26 q26
                      cases e26
                      replace p26 := eq_true p26
                      replace q26 := eq_true q26
                      try go_wp2_with (first|((with_reducible refine gate_callee (f := 71) rfl ?_);refine goesL_ (some 63) rfl rfl Try.func71 (by kernel_rfl) rfl #[.slice (some ad9) t2.length co9, .string (rdOf ByteArray.empty t19 x8_3)] rfl (by (try simp only [List.map_toArray, List.map_cons, List.map_nil]);first|done|rfl|(simp only [List.length_drop, List.length_take];rfl)) ?_;(with_reducible refine (tree_Find.calls _ _ t2 (rdOf ByteArray.empty t19 x8_3) t27 _ ?side1 ?side2 A36.out).mono ?_);(case side1 => repeat (first|exact (Kd.R_reads' HO_3.out).2.2|(with_reducible refine Kd.C_alloc ?_ _)|(with_reducible refine Kd.C_drewN ?_ _)|(with_reducible refine Kd.C_drew ?_)));(case side2 => exact (Kd.R_reads' HO_3.out).2.1);rintro e w52 ⟨rfl, hb⟩;refine ⟨_, rfl, ?_⟩;have n0_ := Aside0.mk (Kd.R_below (by (with_reducible repeat (first|apply Kd.R_alloc|apply Kd.R_drewN|apply Kd.R_drew));exact HO_3.out) hb);have n1_ := Aside0.mk (Kd.R_below (by (with_reducible repeat (first|apply Kd.R_alloc|apply Kd.R_drewN|apply Kd.R_drew));exact HO_7.out) hb);have n2_ := Aside0.mk (blk_below (g := gb6) (o := .cells #[.int .i64 t10, .int .i64 t11, .int .i64 t12] 27 (0, 0)) (by (with_reducible repeat (first|refine blk_drewN ?_ _|refine blk_drew ?_|refine blk_alloc ?_ _));exact BK6.out) hb);have n3_ := Aside0.mk (blk_below (g := gb7) (o := .cells #[.int .i64 x8000_15, .int .i64 x8001_15, .int .i64 x8002_15] 27 (0, 0)) (by (with_reducible repeat (first|refine blk_drewN ?_ _|refine blk_drew ?_|refine blk_alloc ?_ _));exact BK7.out) hb);have n4_ := Aside0.mk (below_step (by repeat (first|(with_reducible first|exact HB.out|apply below_alloc|apply pw_below_drewN|apply below_drew1|refine below_set ?_ GE6.out|refine below_set ?_ GE7.out)|exact HB.out)) hb);clear HO_3;clear HO_7;clear BK6;clear BK7;clear HB;have HO_3 := n0_;have HO_7 := n1_;have BK6 := n2_;have BK7 := n3_;have HB := n4_;clear n0_ n1_ n2_ n3_ n4_;(try clear hb);(try clear hb2);(try clear hk);(try clear hi)))
                      have n0_ := Aside0.mk (Kd.R_drew HO_3.out)
                      have n1_ := Aside0.mk (Kd.R_drew HO_7.out)
                      have n2_ := Aside0.mk (blk_drew BK6.out)
                      have n3_ := Aside0.mk (blk_drew BK7.out)
                      have n4_ := Aside0.mk (below_drew1 HB.out)
                      clear HO_3
                      clear HO_7
                      clear BK6
                      clear BK7
                      clear HB
                      have HO_3 := n0_
                      have HO_7 := n1_
                      have BK6 := n2_
                      have BK7 := n3_
                      have HB := n4_
                      clear n0_ n1_ n2_ n3_ n4_
                      have p28 : 0 ≤ (x6_1 : Int) := of_decide_eq_true (by first|(with_reducible assumption)|assumption)
                      have q28 : x6_1 < (t2.length : Int) := of_decide_eq_true (by first|(with_reducible assumption)|assumption)
                      obtain ⟨ad28, e28, hx28_0, hx28_1, hx28_2, hx28_3, hx28_4, hx28_5, hx28_6, hx28_7, hx28_8, hx28_9, hx28_10, hx28_11⟩ := at_T31 (Kd.R_reads' HO_3.out).2.2 x6_1 p28 q28
                      obtain rfl : ad9 = ad28 := (by injection e28)
                      replace p28 := eq_true p28
                      replace q28 := eq_true q28
                      have p29 : 0 ≤ (t27 : Int) := of_decide_eq_true (by first|(with_reducible assumption)|assumption)
                      have q29 : t27 < (t2.length : Int) := of_decide_eq_true (by first|(with_reducible assumption)|assumption)
                      obtain ⟨ad29, e29, hx29_0, hx29_1, hx29_2, hx29_3, hx29_4, hx29_5, hx29_6, hx29_7, hx29_8, hx29_9, hx29_10, hx29_11⟩ := at_T31 (Kd.R_reads' HO_3.out).2.2 t27 p29 q29
                      obtain rfl : ad9 = ad29 := (by injection e29)
                      replace p29 := eq_true p29
                      replace q29 := eq_true q29
                      refine start_ (n := 22) (S := fun w' => w'.cell? (ad9.add ((x6_1).toNat * 12)) = some (.string ((rd_T31 t2 x6_1).f0)) ∧ w'.cell? ⟨(ad9.add ((x6_1).toNat * 12)).block, (ad9.add ((x6_1).toNat * 12)).off + 1, none⟩ = some (.string ((rd_T31 t2 x6_1).f1)) ∧ w'.cell? ⟨(ad9.add ((x6_1).toNat * 12)).block, (ad9.add ((x6_1).toNat * 12)).off + 2, none⟩ = some (.int .i64 ((rd_T31 t2 x6_1).f2.f0)) ∧ w'.cell? ⟨(ad9.add ((x6_1).toNat * 12)).block, (ad9.add ((x6_1).toNat * 12)).off + 3, none⟩ = some (.int .i64 ((rd_T31 t2 x6_1).f2.f1)) ∧ w'.cell? ⟨(ad9.add ((x6_1).toNat * 12)).block, (ad9.add ((x6_1).toNat * 12)).off + 4, none⟩ = some (.int .i64 ((rd_T31 t2 x6_1).f2.f2)) ∧ w'.cell? ⟨(ad9.add ((x6_1).toNat * 12)).block, (ad9.add ((x6_1).toNat * 12)).off + 5, none⟩ = some (.int .i64 ((rd_T31 t2 x6_1).f3.f0)) ∧ w'.cell? ⟨(ad9.add ((x6_1).toNat * 12)).block, (ad9.add ((x6_1).toNat * 12)).off + 6, none⟩ = some (.int .i64 ((rd_T31 t2 x6_1).f3.f1)) ∧ w'.cell? ⟨(ad9.add ((x6_1).toNat * 12)).block, (ad9.add ((x6_1).toNat * 12)).off + 7, none⟩ = some (.int .i64 ((rd_T31 t2 x6_1).f3.f2)) ∧ w'.cell? ⟨(ad9.add ((x6_1).toNat * 12)).block, (ad9.add ((x6_1).toNat * 12)).off + 8, none⟩ = some (.int .i64 ((rd_T31 t2 x6_1).f4.f0)) ∧ w'.cell? ⟨(ad9.add ((x6_1).toNat * 12)).block, (ad9.add ((x6_1).toNat * 12)).off + 9, none⟩ = some (.int .i64 ((rd_T31 t2 x6_1).f4.f1)) ∧ w'.cell? ⟨(ad9.add ((x6_1).toNat * 12)).block, (ad9.add ((x6_1).toNat * 12)).off + 10, none⟩ = some (.int .i64 ((rd_T31 t2 x6_1).f4.f2)) ∧ w'.cell? ⟨(ad9.add ((x6_1).toNat * 12)).block, (ad9.add ((x6_1).toNat * 12)).off + 11, none⟩ = some (.int .i64 ((rd_T31 t2 x6_1).f5)) ∧ w'.cell? (ad9.add ((t27).toNat * 12)) = some (.string ((rd_T31 t2 t27).f0)) ∧ w'.cell? ⟨(ad9.add ((t27).toNat * 12)).block, (ad9.add ((t27).toNat * 12)).off + 1, none⟩ = some (.string ((rd_T31 t2 t27).f1)) ∧ w'.cell? ⟨(ad9.add ((t27).toNat * 12)).block, (ad9.add ((t27).toNat * 12)).off + 2, none⟩ = some (.int .i64 ((rd_T31 t2 t27).f2.f0)) ∧ w'.cell? ⟨(ad9.add ((t27).toNat * 12)).block, (ad9.add ((t27).toNat * 12)).off + 3, none⟩ = some (.int .i64 ((rd_T31 t2 t27).f2.f1)) ∧ w'.cell? ⟨(ad9.add ((t27).toNat * 12)).block, (ad9.add ((t27).toNat * 12)).off + 4, none⟩ = some (.int .i64 ((rd_T31 t2 t27).f2.f2)) ∧ w'.cell? ⟨(ad9.add ((t27).toNat * 12)).block, (ad9.add ((t27).toNat * 12)).off + 5, none⟩ = some (.int .i64 ((rd_T31 t2 t27).f3.f0)) ∧ w'.cell? ⟨(ad9.add ((t27).toNat * 12)).block, (ad9.add ((t27).toNat * 12)).off + 6, none⟩ = some (.int .i64 ((rd_T31 t2 t27).f3.f1)) ∧ w'.cell? ⟨(ad9.add ((t27).toNat * 12)).block, (ad9.add ((t27).toNat * 12)).off + 7, none⟩ = some (.int .i64 ((rd_T31 t2 t27).f3.f2)) ∧ w'.cell? ⟨(ad9.add ((t27).toNat * 12)).block, (ad9.add ((t27).toNat * 12)).off + 8, none⟩ = some (.int .i64 ((rd_T31 t2 t27).f4.f0)) ∧ w'.cell? ⟨(ad9.add ((t27).toNat * 12)).block, (ad9.add ((t27).toNat * 12)).off + 9, none⟩ = some (.int .i64 ((rd_T31 t2 t27).f4.f1)) ∧ w'.cell? ⟨(ad9.add ((t27).toNat * 12)).block, (ad9.add ((t27).toNat * 12)).off + 10, none⟩ = some (.int .i64 ((rd_T31 t2 t27).f4.f2)) ∧ w'.cell? ⟨(ad9.add ((t27).toNat * 12)).block, (ad9.add ((t27).toNat * 12)).off + 11, none⟩ = some (.int .i64 ((rd_T31 t2 t27).f5))) (ds := []) #[false, false, false, false, false, false, false, false, false, false, false, false, false, false, false, false, false, false, false, false, false, false] (by kernel_rfl) rfl rfl ⟨hx28_0, hx28_1, hx28_2, hx28_3, hx28_4, hx28_5, hx28_6, hx28_7, hx28_8, hx28_9, hx28_10, hx28_11, hx29_0, hx29_1, hx29_2, hx29_3, hx29_4, hx29_5, hx29_6, hx29_7, hx29_8, hx29_9, hx29_10, hx29_11⟩ (fun hHeld => ?_); refine with_tabW law12_TreeSums.tab18 law12_TreeSums.bits18 (fun HT_ HW_ => ?_)
                      generalize w52.drew = w53 at HO_3 HO_7 BK6 BK7 HB hx28_0 hx28_1 hx28_10 hx28_11 hx28_2 hx28_3 hx28_4 hx28_5 hx28_6 hx28_7 hx28_8 hx28_9 hx29_0 hx29_1 hx29_10 hx29_11 hx29_2 hx29_3 hx29_4 hx29_5 hx29_6 hx29_7 hx29_8 hx29_9 hHeld ⊢
                      refine pure_ (i := 0) (N := some 64) (v := ?_) (a' := ?_) #[true, false, false, false, false, false, false, false, false, false, false, false, false, false, false, false, false, false, false, false, false, false] rfl rfl (any_of HT_.out (by kernel_rfl)) (fun _ _ _ h => h) (Or.inl ⟨by rfl, ?_⟩) ?_ ?_
                      rotate_left
                      ·intro w'
                       go_simp
                       with_reducible rfl
                      rotate_left
                      ·simp only [Act.put, List.setIfInBounds_toArray, List.set_cons_zero, List.set_cons_succ, i64_w, i32_w]
                       rfl
                      refine pure_ (i := 1) (N := some 65) (v := ?_) (a' := ?_) #[true, true, false, false, false, false, false, false, false, false, false, false, false, false, false, false, false, false, false, false, false, false] rfl rfl (any_of HT_.out (by kernel_rfl)) (fun _ _ _ h => h) (Or.inl ⟨by rfl, ?_⟩) ?_ ?_
                      rotate_left
                      ·intro w'
                       go_simp
                       with_reducible rfl
                      rotate_left
                      ·simp only [Act.put, List.setIfInBounds_toArray, List.set_cons_zero, List.set_cons_succ, i64_w, i32_w]
                       rfl
                      refine pure_ (i := 2) (N := some 66) (v := ?_) (a' := ?_) #[true, true, true, false, false, false, false, false, false, false, false, false, false, false, false, false, false, false, false, false, false, false] rfl rfl (any_of HT_.out (by kernel_rfl)) (fun _ _ _ h => h) (Or.inl ⟨by rfl, ?_⟩) ?_ ?_
                      rotate_left
                      ·intro w'
                       go_simp
                       with_reducible rfl
                      rotate_left
                      ·simp only [Act.put, List.setIfInBounds_toArray, List.set_cons_zero, List.set_cons_succ, i64_w, i32_w]
                       rfl
                      refine pure_ (i := 3) (N := some 67) (v := ?_) (a' := ?_) #[true, true, true, true, false, false, false, false, false, false, false, false, false, false, false, false, false, false, false, false, false, false] rfl rfl (any_of HT_.out (by kernel_rfl)) (fun _ _ _ h => h) (Or.inl ⟨by rfl, ?_⟩) ?_ ?_
                      rotate_left
                      ·intro w'
                       go_simp
                       with_reducible rfl
                      rotate_left
                      ·simp only [Act.put, List.setIfInBounds_toArray, List.set_cons_zero, List.set_cons_succ, i64_w, i32_w]
                       rfl
                      refine pure_ (i := 4) (N := some 68) (v := ?_) (a' := ?_) #[true, true, true, true, true, false, false, false, false, false, false, false, false, false, false, false, false, false, false, false, false, false] rfl rfl (any_of HT_.out (by kernel_rfl)) (fun _ _ _ h => h) (Or.inl ⟨by rfl, ?_⟩) ?_ ?_
                      rotate_left
                      ·intro w'
                       go_simp
                       with_reducible rfl
                      rotate_left
                      ·simp only [Act.put, List.setIfInBounds_toArray, List.set_cons_zero, List.set_cons_succ, i64_w, i32_w]
                       rfl
                      refine pure_ (i := 5) (N := some 69) (v := ?_) (a' := ?_) #[true, true, true, true, true, true, false, false, false, false, false, false, false, false, false, false, false, false, false, false, false, false] rfl rfl (any_of HT_.out (by kernel_rfl)) (fun _ _ _ h => h) (Or.inl ⟨by rfl, ?_⟩) ?_ ?_
                      rotate_left
                      ·intro w'
                       go_simp
                       with_reducible rfl
                      rotate_left
                      ·simp only [Act.put, List.setIfInBounds_toArray, List.set_cons_zero, List.set_cons_succ, i64_w, i32_w]
                       rfl
                      refine pure_ (i := 6) (N := some 70) (v := ?_) (a' := ?_) #[true, true, true, true, true, true, true, false, false, false, false, false, false, false, false, false, false, false, false, false, false, false] rfl rfl (any_of HT_.out (by kernel_rfl)) (fun _ _ _ h => h) (Or.inl ⟨by rfl, ?_⟩) ?_ ?_
                      rotate_left
                      ·intro w'
                       go_simp
                       with_reducible rfl
                      rotate_left
                      ·simp only [Act.put, List.setIfInBounds_toArray, List.set_cons_zero, List.set_cons_succ, i64_w, i32_w]
                       rfl
                      refine pure_ (i := 7) (N := some 71) (v := ?_) (a' := ?_) #[true, true, true, true, true, true, true, true, false, false, false, false, false, false, false, false, false, false, false, false, false, false] rfl rfl (any_of HT_.out (by kernel_rfl)) (fun _ _ _ h => h) (Or.inl ⟨by rfl, ?_⟩) ?_ ?_
                      rotate_left
                      ·intro w'
                       go_simp
                       with_reducible rfl
                      rotate_left
                      ·simp only [Act.put, List.setIfInBounds_toArray, List.set_cons_zero, List.set_cons_succ, i64_w, i32_w]
                       rfl
                      refine pure_ (i := 8) (N := some 72) (v := ?_) (a' := ?_) #[true, true, true, true, true, true, true, true, true, false, false, false, false, false, false, false, false, false, false, false, false, false] rfl rfl (any_of HT_.out (by kernel_rfl)) (fun _ _ _ h => h) (Or.inl ⟨by rfl, ?_⟩) ?_ ?_
                      rotate_left
                      ·intro w'
                       go_simp
                       with_reducible rfl
                      rotate_left
                      ·simp only [Act.put, List.setIfInBounds_toArray, List.set_cons_zero, List.set_cons_succ, i64_w, i32_w]
                       rfl
                      refine pure_ (i := 9) (N := some 73) (v := ?_) (a' := ?_) #[true, true, true, true, true, true, true, true, true, true, false, false, false, false, false, false, false, false, false, false, false, false] rfl rfl (any_of HT_.out (by kernel_rfl)) (fun _ _ _ h => h) (Or.inl ⟨by rfl, ?_⟩) ?_ ?_
                      rotate_left
                      ·intro w'
                       go_simp
                       with_reducible rfl
                      rotate_left
                      ·simp only [Act.put, List.setIfInBounds_toArray, List.set_cons_zero, List.set_cons_succ, i64_w, i32_w]
                       rfl
                      refine pure_ (i := 10) (N := some 74) (v := ?_) (a' := ?_) #[true, true, true, true, true, true, true, true, true, true, true, false, false, false, false, false, false, false, false, false, false, false] rfl rfl (any_of HT_.out (by kernel_rfl)) (fun _ _ _ h => h) (Or.inl ⟨by rfl, ?_⟩) ?_ ?_
                      rotate_left
                      ·intro w'
                       go_simp
                       with_reducible rfl
                      rotate_left
                      ·simp only [Act.put, List.setIfInBounds_toArray, List.set_cons_zero, List.set_cons_succ, i64_w, i32_w]
                       rfl
                      refine pure_ (i := 11) (N := some 75) (v := ?_) (a' := ?_) #[true, true, true, true, true, true, true, true, true, true, true, true, false, false, false, false, false, false, false, false, false, false] rfl rfl (any_of HT_.out (by kernel_rfl)) (fun _ _ _ h => h) (Or.inl ⟨by rfl, ?_⟩) ?_ ?_
                      rotate_left
                      ·intro w'
                       go_simp
                       with_reducible rfl
                      rotate_left
                      ·simp only [Act.put, List.setIfInBounds_toArray, List.set_cons_zero, List.set_cons_succ, i64_w, i32_w]
                       rfl
                      refine pure_ (i := 12) (N := some 76) (v := ?_) (a' := ?_) #[true, true, true, true, true, true, true, true, true, true, true, true, true, false, false, false, false, false, false, false, false, false] rfl rfl (any_of HT_.out (by kernel_rfl)) (fun _ _ _ h => h) (Or.inl ⟨by rfl, ?_⟩) ?_ ?_
                      rotate_left
                      ·intro w'
                       go_simp
                       with_reducible rfl
                      rotate_left
                      ·simp only [Act.put, List.setIfInBounds_toArray, List.set_cons_zero, List.set_cons_succ, i64_w, i32_w]
                       rfl
                      refine pure_ (i := 14) (N := some 78) (v := ?_) (a' := ?_) #[true, true, true, true, true, true, true, true, true, true, true, true, true, false, true, false, false, false, false, false, false, false] rfl rfl (any_of HT_.out (by kernel_rfl)) (fun _ _ _ h => h) (Or.inl ⟨by rfl, ?_⟩) ?_ ?_
                      rotate_left
                      ·intro w'
                       go_simp
                       with_reducible rfl
                      rotate_left
                      ·simp only [Act.put, List.setIfInBounds_toArray, List.set_cons_zero, List.set_cons_succ, i64_w, i32_w]
                       rfl
                      refine pure_ (i := 15) (N := some 79) (v := ?_) (a' := ?_) #[true, true, true, true, true, true, true, true, true, true, true, true, true, false, true, true, false, false, false, false, false, false] rfl rfl (any_of HT_.out (by kernel_rfl)) (fun _ _ _ h => h) (Or.inl ⟨by rfl, ?_⟩) ?_ ?_
                      rotate_left
                      ·intro w'
                       go_simp
                       with_reducible rfl
                      rotate_left
                      ·simp only [Act.put, List.setIfInBounds_toArray, List.set_cons_zero, List.set_cons_succ, i64_w, i32_w]
                       rfl
                      refine pure_ (i := 16) (N := some 80) (v := ?_) (a' := ?_) #[true, true, true, true, true, true, true, true, true, true, true, true, true, false, true, true, true, false, false, false, false, false] rfl rfl (any_of HT_.out (by kernel_rfl)) (fun _ _ _ h => h) (Or.inl ⟨by rfl, ?_⟩) ?_ ?_
                      rotate_left
                      ·intro w'
                       go_simp
                       with_reducible rfl
                      rotate_left
                      ·simp only [Act.put, List.setIfInBounds_toArray, List.set_cons_zero, List.set_cons_succ, i64_w, i32_w]
                       rfl
                      refine pure_ (i := 17) (N := some 81) (v := ?_) (a' := ?_) #[true, true, true, true, true, true, true, true, true, true, true, true, true, false, true, true, true, true, false, false, false, false] rfl rfl (any_of HT_.out (by kernel_rfl)) (fun _ _ _ h => h) (Or.inl ⟨by rfl, ?_⟩) ?_ ?_
                      rotate_left
                      ·intro w'
                       go_simp
                       with_reducible rfl
                      rotate_left
                      ·simp only [Act.put, List.setIfInBounds_toArray, List.set_cons_zero, List.set_cons_succ, i64_w, i32_w]
                       rfl
                      refine take_ (i := 13) (N := some 77) (v := ?_) (a' := ?_) #[true, true, true, true, true, true, true, true, true, true, true, true, true, true, true, true, true, true, false, false, false, false] rfl rfl (take_ofW HT_.out HW_.out (by kernel_rfl)) (fun _ _ _ h => h) (Or.inl ⟨by rfl, ?_⟩) hHeld ?_ ?_
                      rotate_left
                      ·rintro w' ⟨s0, s1, s2, s3, s4, s5, s6, s7, s8, s9, s10, s11, s12, s13, s14, s15, s16, s17, s18, s19, s20, s21, s22, s23⟩
                       go_simp
                       with_reducible rfl
                      rotate_left
                      ·simp only [Act.put, List.setIfInBounds_toArray, List.set_cons_zero, List.set_cons_succ, i64_w, i32_w]
                       rfl
                      refine take_ (i := 18) (N := some 82) (v := ?_) (a' := ?_) #[true, true, true, true, true, true, true, true, true, true, true, true, true, true, true, true, true, true, true, false, false, false] rfl rfl (take_ofW HT_.out HW_.out (by kernel_rfl)) (fun _ _ _ h => h) (Or.inl ⟨by rfl, ?_⟩) hHeld ?_ ?_
                      rotate_left
                      ·rintro w' ⟨s0, s1, s2, s3, s4, s5, s6, s7, s8, s9, s10, s11, s12, s13, s14, s15, s16, s17, s18, s19, s20, s21, s22, s23⟩
                       go_simp
                       with_reducible rfl
                      rotate_left
                      ·simp only [Act.put, List.setIfInBounds_toArray, List.set_cons_zero, List.set_cons_succ, i64_w, i32_w]
                       rfl
                      refine one_ (i := 19) (N := some 83) #[true, true, true, true, true, true, true, true, true, true, true, true, true, true, true, true, true, true, true, true, false, false] rfl rfl (one_of HT_.out (by kernel_rfl)) (by decide) (fun K hK => ?_)
                      refine goes_ Try.func34 (by kernel_rfl) rfl #[.agg #[.int .i64 ((rd_T31 t2 x6_1).f3.f0), .int .i64 ((rd_T31 t2 x6_1).f3.f1), .int .i64 ((rd_T31 t2 x6_1).f3.f2)], .agg #[.int .i64 ((rd_T31 t2 t27).f2.f0), .int .i64 ((rd_T31 t2 t27).f2.f1), .int .i64 ((rd_T31 t2 t27).f2.f2)]] (by rfl) rfl rfl (by (try simp only [List.map_toArray, List.map_cons, List.map_nil]); first | done | rfl | (simp only [List.length_drop, List.length_take]; rfl)) ?_
                      with_reducible refine (r10_Le.calls ((rd_T31 t2 x6_1).f3.f0) ((rd_T31 t2 x6_1).f3.f1) ((rd_T31 t2 x6_1).f3.f2) ((rd_T31 t2 t27).f2.f0) ((rd_T31 t2 t27).f2.f1) ((rd_T31 t2 t27).f2.f2) true _ A49.out).mono ?_
                      rintro e w54 ⟨rfl, hb⟩
                      have HS0_ := (hb.cell (World.block_lt_of_cell? _ _ (hHeld.1))).trans (hHeld.1)
                      have HS1_ := (hb.cell (World.block_lt_of_cell? _ _ (hHeld.2.1))).trans (hHeld.2.1)
                      have HS2_ := (hb.cell (World.block_lt_of_cell? _ _ (hHeld.2.2.1))).trans (hHeld.2.2.1)
                      have HS3_ := (hb.cell (World.block_lt_of_cell? _ _ (hHeld.2.2.2.1))).trans (hHeld.2.2.2.1)
                      have HS4_ := (hb.cell (World.block_lt_of_cell? _ _ (hHeld.2.2.2.2.1))).trans (hHeld.2.2.2.2.1)
                      have HS5_ := (hb.cell (World.block_lt_of_cell? _ _ (hHeld.2.2.2.2.2.1))).trans (hHeld.2.2.2.2.2.1)
                      have HS6_ := (hb.cell (World.block_lt_of_cell? _ _ (hHeld.2.2.2.2.2.2.1))).trans (hHeld.2.2.2.2.2.2.1)
                      have HS7_ := (hb.cell (World.block_lt_of_cell? _ _ (hHeld.2.2.2.2.2.2.2.1))).trans (hHeld.2.2.2.2.2.2.2.1)
                      have HS8_ := (hb.cell (World.block_lt_of_cell? _ _ (hHeld.2.2.2.2.2.2.2.2.1))).trans (hHeld.2.2.2.2.2.2.2.2.1)
                      have HS9_ := (hb.cell (World.block_lt_of_cell? _ _ (hHeld.2.2.2.2.2.2.2.2.2.1))).trans (hHeld.2.2.2.2.2.2.2.2.2.1)
                      have HS10_ := (hb.cell (World.block_lt_of_cell? _ _ (hHeld.2.2.2.2.2.2.2.2.2.2.1))).trans (hHeld.2.2.2.2.2.2.2.2.2.2.1)
                      have HS11_ := (hb.cell (World.block_lt_of_cell? _ _ (hHeld.2.2.2.2.2.2.2.2.2.2.2.1))).trans (hHeld.2.2.2.2.2.2.2.2.2.2.2.1)
                      have HS12_ := (hb.cell (World.block_lt_of_cell? _ _ (hHeld.2.2.2.2.2.2.2.2.2.2.2.2.1))).trans (hHeld.2.2.2.2.2.2.2.2.2.2.2.2.1)
                      have HS13_ := (hb.cell (World.block_lt_of_cell? _ _ (hHeld.2.2.2.2.2.2.2.2.2.2.2.2.2.1))).trans (hHeld.2.2.2.2.2.2.2.2.2.2.2.2.2.1)
                      have HS14_ := (hb.cell (World.block_lt_of_cell? _ _ (hHeld.2.2.2.2.2.2.2.2.2.2.2.2.2.2.1))).trans (hHeld.2.2.2.2.2.2.2.2.2.2.2.2.2.2.1)
                      have HS15_ := (hb.cell (World.block_lt_of_cell? _ _ (hHeld.2.2.2.2.2.2.2.2.2.2.2.2.2.2.2.1))).trans (hHeld.2.2.2.2.2.2.2.2.2.2.2.2.2.2.2.1)
                      have HS16_ := (hb.cell (World.block_lt_of_cell? _ _ (hHeld.2.2.2.2.2.2.2.2.2.2.2.2.2.2.2.2.1))).trans (hHeld.2.2.2.2.2.2.2.2.2.2.2.2.2.2.2.2.1)
                      have HS17_ := (hb.cell (World.block_lt_of_cell? _ _ (hHeld.2.2.2.2.2.2.2.2.2.2.2.2.2.2.2.2.2.1))).trans (hHeld.2.2.2.2.2.2.2.2.2.2.2.2.2.2.2.2.2.1)
                      have HS18_ := (hb.cell (World.block_lt_of_cell? _ _ (hHeld.2.2.2.2.2.2.2.2.2.2.2.2.2.2.2.2.2.2.1))).trans (hHeld.2.2.2.2.2.2.2.2.2.2.2.2.2.2.2.2.2.2.1)
                      have HS19_ := (hb.cell (World.block_lt_of_cell? _ _ (hHeld.2.2.2.2.2.2.2.2.2.2.2.2.2.2.2.2.2.2.2.1))).trans (hHeld.2.2.2.2.2.2.2.2.2.2.2.2.2.2.2.2.2.2.2.1)
                      have HS20_ := (hb.cell (World.block_lt_of_cell? _ _ (hHeld.2.2.2.2.2.2.2.2.2.2.2.2.2.2.2.2.2.2.2.2.1))).trans (hHeld.2.2.2.2.2.2.2.2.2.2.2.2.2.2.2.2.2.2.2.2.1)
                      have HS21_ := (hb.cell (World.block_lt_of_cell? _ _ (hHeld.2.2.2.2.2.2.2.2.2.2.2.2.2.2.2.2.2.2.2.2.2.1))).trans (hHeld.2.2.2.2.2.2.2.2.2.2.2.2.2.2.2.2.2.2.2.2.2.1)
                      have HS22_ := (hb.cell (World.block_lt_of_cell? _ _ (hHeld.2.2.2.2.2.2.2.2.2.2.2.2.2.2.2.2.2.2.2.2.2.2.1))).trans (hHeld.2.2.2.2.2.2.2.2.2.2.2.2.2.2.2.2.2.2.2.2.2.2.1)
                      have HS23_ := (hb.cell (World.block_lt_of_cell? _ _ (hHeld.2.2.2.2.2.2.2.2.2.2.2.2.2.2.2.2.2.2.2.2.2.2.2))).trans (hHeld.2.2.2.2.2.2.2.2.2.2.2.2.2.2.2.2.2.2.2.2.2.2.2)
                      refine ⟨_, rfl, ?_⟩
                      have n0_ := Aside0.mk (Kd.R_below (by (with_reducible repeat (first|apply Kd.R_alloc|apply Kd.R_drewN|apply Kd.R_drew));exact HO_3.out) hb)
                      have n1_ := Aside0.mk (Kd.R_below (by (with_reducible repeat (first|apply Kd.R_alloc|apply Kd.R_drewN|apply Kd.R_drew));exact HO_7.out) hb)
                      have n2_ := Aside0.mk (blk_below (g := gb6) (o := .cells #[.int .i64 t10, .int .i64 t11, .int .i64 t12] 27 (0, 0)) (by (with_reducible repeat (first|refine blk_drewN ?_ _|refine blk_drew ?_|refine blk_alloc ?_ _));exact BK6.out) hb)
                      have n3_ := Aside0.mk (blk_below (g := gb7) (o := .cells #[.int .i64 x8000_15, .int .i64 x8001_15, .int .i64 x8002_15] 27 (0, 0)) (by (with_reducible repeat (first|refine blk_drewN ?_ _|refine blk_drew ?_|refine blk_alloc ?_ _));exact BK7.out) hb)
                      have n4_ := Aside0.mk (below_step (by repeat (first|(with_reducible first|exact HB.out|apply below_alloc|apply pw_below_drewN|apply below_drew1|refine below_set ?_ GE6.out|refine below_set ?_ GE7.out)|exact HB.out)) hb)
                      clear HO_3
                      clear HO_7
                      clear BK6
                      clear BK7
                      clear HB
                      have HO_3 := n0_
                      have HO_7 := n1_
                      have BK6 := n2_
                      have BK7 := n3_
                      have HB := n4_
                      clear n0_ n1_ n2_ n3_ n4_
                      (try clear hb)
                      (try clear hb2)
                      (try clear hk)
                      (try clear hi)
                      refine hK.out _ _ ⟨HS0_, HS1_, HS2_, HS3_, HS4_, HS5_, HS6_, HS7_, HS8_, HS9_, HS10_, HS11_, HS12_, HS13_, HS14_, HS15_, HS16_, HS17_, HS18_, HS19_, HS20_, HS21_, HS22_, HS23_⟩ (fun hHeld => ?_)
                      clear hK K
                      refine norm_ (a' := ?_) ?_ ?_
                      rotate_left
                      ·show Act.put _ (some 83) _ = _
                       simp only [Act.put, List.setIfInBounds_toArray, List.set_cons_zero, List.set_cons_succ, i64_w, i32_w]
                       rfl
                      refine pure_ (i := 20) (N := some 84) (v := ?_) (a' := ?_) #[true, true, true, true, true, true, true, true, true, true, true, true, true, true, true, true, true, true, true, true, true, false] rfl rfl (any_of HT_.out (by kernel_rfl)) (fun _ _ _ h => h) (Or.inl ⟨by rfl, ?_⟩) ?_ ?_
                      rotate_left
                      ·intro w'
                       go_simp
                       with_reducible rfl
                      rotate_left
                      ·simp only [Act.put, List.setIfInBounds_toArray, List.set_cons_zero, List.set_cons_succ, i64_w, i32_w]
                       rfl
                      refine pure_ (i := 21) (N := some 85) (v := ?_) (a' := ?_) #[true, true, true, true, true, true, true, true, true, true, true, true, true, true, true, true, true, true, true, true, true, true] rfl rfl (any_of HT_.out (by kernel_rfl)) (fun _ _ _ h => h) (Or.inl ⟨by rfl, ?_⟩) ?_ ?_
                      rotate_left
                      ·intro w'
                       go_simp
                       with_reducible rfl
                      rotate_left
                      ·simp only [Act.put, List.setIfInBounds_toArray, List.set_cons_zero, List.set_cons_succ, i64_w, i32_w]
                       rfl
                      refine done_ (done_of HT_.out (by kernel_rfl)) ?_
                      try go_wp2
                      go_roundg k3
                      case measure => have := HK1.out; have := HJ15.out; have := HK3.out; omega
                      case rel => exact ⟨(wrap64 (x8_3 + 1)), (by first|rfl|(simp;done)|(simp [*];done)), H', ⟨by have := HK1.out;have := HJ15.out;have := HK3.out;omega⟩, ⟨by (with_reducible repeat (first|apply Kd.R_alloc|apply Kd.R_drewN|apply Kd.R_drew));exact HO_3.out⟩, ⟨by (with_reducible repeat (first|apply Kd.R_alloc|apply Kd.R_drewN|apply Kd.R_drew));exact HO_7.out⟩, ⟨by (with_reducible repeat (first|refine blk_drewN ?_ _|refine blk_drew ?_|refine blk_alloc ?_ _));exact BK6.out⟩, ⟨by (with_reducible repeat (first|refine blk_drewN ?_ _|refine blk_drew ?_|refine blk_alloc ?_ _));exact BK7.out⟩, ⟨by repeat (first|(with_reducible first|exact HB.out|apply below_alloc|apply pw_below_drewN|apply below_drew1|refine below_set ?_ GE6.out|refine below_set ?_ GE7.out)|exact HB.out)⟩⟩
                     ·replace c50 := Bool.eq_false_iff.mpr c50
                      subst c50
                      have H1 : (some false) = some r := by rw [if_neg (show ¬ (false = true) by decide)] at H; exact H
                      clear H
                      have H := H1
                      clear H1
                      obtain rfl := Option.some.inj H
                      obtain ⟨Ao55, co55, eo55⟩ := Kd.R_slice HO_7.out
                      subst eo55
                      have p26 : 0 ≤ (x8_3 : Int) := of_decide_eq_true (by first|(with_reducible assumption)|assumption)
                      have q26 : x8_3 < (t19.length : Int) := of_decide_eq_true (by first|(with_reducible assumption)|assumption)
                      obtain ⟨ad26, e26, hx26_0⟩ := Kd.at_string (Kd.R_reads' HO_7.out).2.2 x8_3 p26 q26
                      cases e26
                      replace p26 := eq_true p26
                      replace q26 := eq_true q26
                      try go_wp2_with (first|((with_reducible refine gate_callee (f := 71) rfl ?_);refine goesL_ (some 63) rfl rfl Try.func71 (by kernel_rfl) rfl #[.slice (some ad9) t2.length co9, .string (rdOf ByteArray.empty t19 x8_3)] rfl (by (try simp only [List.map_toArray, List.map_cons, List.map_nil]);first|done|rfl|(simp only [List.length_drop, List.length_take];rfl)) ?_;(with_reducible refine (tree_Find.calls _ _ t2 (rdOf ByteArray.empty t19 x8_3) t27 _ ?side1 ?side2 A36.out).mono ?_);(case side1 => repeat (first|exact (Kd.R_reads' HO_3.out).2.2|(with_reducible refine Kd.C_alloc ?_ _)|(with_reducible refine Kd.C_drewN ?_ _)|(with_reducible refine Kd.C_drew ?_)));(case side2 => exact (Kd.R_reads' HO_3.out).2.1);rintro e w56 ⟨rfl, hb⟩;refine ⟨_, rfl, ?_⟩;have n0_ := Aside0.mk (Kd.R_below (by (with_reducible repeat (first|apply Kd.R_alloc|apply Kd.R_drewN|apply Kd.R_drew));exact HO_3.out) hb);have n1_ := Aside0.mk (Kd.R_below (by (with_reducible repeat (first|apply Kd.R_alloc|apply Kd.R_drewN|apply Kd.R_drew));exact HO_7.out) hb);have n2_ := Aside0.mk (blk_below (g := gb6) (o := .cells #[.int .i64 t10, .int .i64 t11, .int .i64 t12] 27 (0, 0)) (by (with_reducible repeat (first|refine blk_drewN ?_ _|refine blk_drew ?_|refine blk_alloc ?_ _));exact BK6.out) hb);have n3_ := Aside0.mk (blk_below (g := gb7) (o := .cells #[.int .i64 x8000_15, .int .i64 x8001_15, .int .i64 x8002_15] 27 (0, 0)) (by (with_reducible repeat (first|refine blk_drewN ?_ _|refine blk_drew ?_|refine blk_alloc ?_ _));exact BK7.out) hb);have n4_ := Aside0.mk (below_step (by repeat (first|(with_reducible first|exact HB.out|apply below_alloc|apply pw_below_drewN|apply below_drew1|refine below_set ?_ GE6.out|refine below_set ?_ GE7.out)|exact HB.out)) hb);clear HO_3;clear HO_7;clear BK6;clear BK7;clear HB;have HO_3 := n0_;have HO_7 := n1_;have BK6 := n2_;have BK7 := n3_;have HB := n4_;clear n0_ n1_ n2_ n3_ n4_;(try clear hb);(try clear hb2);(try clear hk);(try clear hi)))
                      have n0_ := Aside0.mk (Kd.R_drew HO_3.out)
                      have n1_ := Aside0.mk (Kd.R_drew HO_7.out)
                      have n2_ := Aside0.mk (blk_drew BK6.out)
                      have n3_ := Aside0.mk (blk_drew BK7.out)
                      have n4_ := Aside0.mk (below_drew1 HB.out)
                      clear HO_3
                      clear HO_7
                      clear BK6
                      clear BK7
                      clear HB
                      have HO_3 := n0_
                      have HO_7 := n1_
                      have BK6 := n2_
                      have BK7 := n3_
                      have HB := n4_
                      clear n0_ n1_ n2_ n3_ n4_
                      have p28 : 0 ≤ (x6_1 : Int) := of_decide_eq_true (by first|(with_reducible assumption)|assumption)
                      have q28 : x6_1 < (t2.length : Int) := of_decide_eq_true (by first|(with_reducible assumption)|assumption)
                      obtain ⟨ad28, e28, hx28_0, hx28_1, hx28_2, hx28_3, hx28_4, hx28_5, hx28_6, hx28_7, hx28_8, hx28_9, hx28_10, hx28_11⟩ := at_T31 (Kd.R_reads' HO_3.out).2.2 x6_1 p28 q28
                      obtain rfl : ad9 = ad28 := (by injection e28)
                      replace p28 := eq_true p28
                      replace q28 := eq_true q28
                      have p29 : 0 ≤ (t27 : Int) := of_decide_eq_true (by first|(with_reducible assumption)|assumption)
                      have q29 : t27 < (t2.length : Int) := of_decide_eq_true (by first|(with_reducible assumption)|assumption)
                      obtain ⟨ad29, e29, hx29_0, hx29_1, hx29_2, hx29_3, hx29_4, hx29_5, hx29_6, hx29_7, hx29_8, hx29_9, hx29_10, hx29_11⟩ := at_T31 (Kd.R_reads' HO_3.out).2.2 t27 p29 q29
                      obtain rfl : ad9 = ad29 := (by injection e29)
                      replace p29 := eq_true p29
                      replace q29 := eq_true q29
                      refine start_ (n := 22) (S := fun w' => w'.cell? (ad9.add ((x6_1).toNat * 12)) = some (.string ((rd_T31 t2 x6_1).f0)) ∧ w'.cell? ⟨(ad9.add ((x6_1).toNat * 12)).block, (ad9.add ((x6_1).toNat * 12)).off + 1, none⟩ = some (.string ((rd_T31 t2 x6_1).f1)) ∧ w'.cell? ⟨(ad9.add ((x6_1).toNat * 12)).block, (ad9.add ((x6_1).toNat * 12)).off + 2, none⟩ = some (.int .i64 ((rd_T31 t2 x6_1).f2.f0)) ∧ w'.cell? ⟨(ad9.add ((x6_1).toNat * 12)).block, (ad9.add ((x6_1).toNat * 12)).off + 3, none⟩ = some (.int .i64 ((rd_T31 t2 x6_1).f2.f1)) ∧ w'.cell? ⟨(ad9.add ((x6_1).toNat * 12)).block, (ad9.add ((x6_1).toNat * 12)).off + 4, none⟩ = some (.int .i64 ((rd_T31 t2 x6_1).f2.f2)) ∧ w'.cell? ⟨(ad9.add ((x6_1).toNat * 12)).block, (ad9.add ((x6_1).toNat * 12)).off + 5, none⟩ = some (.int .i64 ((rd_T31 t2 x6_1).f3.f0)) ∧ w'.cell? ⟨(ad9.add ((x6_1).toNat * 12)).block, (ad9.add ((x6_1).toNat * 12)).off + 6, none⟩ = some (.int .i64 ((rd_T31 t2 x6_1).f3.f1)) ∧ w'.cell? ⟨(ad9.add ((x6_1).toNat * 12)).block, (ad9.add ((x6_1).toNat * 12)).off + 7, none⟩ = some (.int .i64 ((rd_T31 t2 x6_1).f3.f2)) ∧ w'.cell? ⟨(ad9.add ((x6_1).toNat * 12)).block, (ad9.add ((x6_1).toNat * 12)).off + 8, none⟩ = some (.int .i64 ((rd_T31 t2 x6_1).f4.f0)) ∧ w'.cell? ⟨(ad9.add ((x6_1).toNat * 12)).block, (ad9.add ((x6_1).toNat * 12)).off + 9, none⟩ = some (.int .i64 ((rd_T31 t2 x6_1).f4.f1)) ∧ w'.cell? ⟨(ad9.add ((x6_1).toNat * 12)).block, (ad9.add ((x6_1).toNat * 12)).off + 10, none⟩ = some (.int .i64 ((rd_T31 t2 x6_1).f4.f2)) ∧ w'.cell? ⟨(ad9.add ((x6_1).toNat * 12)).block, (ad9.add ((x6_1).toNat * 12)).off + 11, none⟩ = some (.int .i64 ((rd_T31 t2 x6_1).f5)) ∧ w'.cell? (ad9.add ((t27).toNat * 12)) = some (.string ((rd_T31 t2 t27).f0)) ∧ w'.cell? ⟨(ad9.add ((t27).toNat * 12)).block, (ad9.add ((t27).toNat * 12)).off + 1, none⟩ = some (.string ((rd_T31 t2 t27).f1)) ∧ w'.cell? ⟨(ad9.add ((t27).toNat * 12)).block, (ad9.add ((t27).toNat * 12)).off + 2, none⟩ = some (.int .i64 ((rd_T31 t2 t27).f2.f0)) ∧ w'.cell? ⟨(ad9.add ((t27).toNat * 12)).block, (ad9.add ((t27).toNat * 12)).off + 3, none⟩ = some (.int .i64 ((rd_T31 t2 t27).f2.f1)) ∧ w'.cell? ⟨(ad9.add ((t27).toNat * 12)).block, (ad9.add ((t27).toNat * 12)).off + 4, none⟩ = some (.int .i64 ((rd_T31 t2 t27).f2.f2)) ∧ w'.cell? ⟨(ad9.add ((t27).toNat * 12)).block, (ad9.add ((t27).toNat * 12)).off + 5, none⟩ = some (.int .i64 ((rd_T31 t2 t27).f3.f0)) ∧ w'.cell? ⟨(ad9.add ((t27).toNat * 12)).block, (ad9.add ((t27).toNat * 12)).off + 6, none⟩ = some (.int .i64 ((rd_T31 t2 t27).f3.f1)) ∧ w'.cell? ⟨(ad9.add ((t27).toNat * 12)).block, (ad9.add ((t27).toNat * 12)).off + 7, none⟩ = some (.int .i64 ((rd_T31 t2 t27).f3.f2)) ∧ w'.cell? ⟨(ad9.add ((t27).toNat * 12)).block, (ad9.add ((t27).toNat * 12)).off + 8, none⟩ = some (.int .i64 ((rd_T31 t2 t27).f4.f0)) ∧ w'.cell? ⟨(ad9.add ((t27).toNat * 12)).block, (ad9.add ((t27).toNat * 12)).off + 9, none⟩ = some (.int .i64 ((rd_T31 t2 t27).f4.f1)) ∧ w'.cell? ⟨(ad9.add ((t27).toNat * 12)).block, (ad9.add ((t27).toNat * 12)).off + 10, none⟩ = some (.int .i64 ((rd_T31 t2 t27).f4.f2)) ∧ w'.cell? ⟨(ad9.add ((t27).toNat * 12)).block, (ad9.add ((t27).toNat * 12)).off + 11, none⟩ = some (.int .i64 ((rd_T31 t2 t27).f5))) (ds := []) #[false, false, false, false, false, false, false, false, false, false, false, false, false, false, false, false, false, false, false, false, false, false] (by kernel_rfl) rfl rfl ⟨hx28_0, hx28_1, hx28_2, hx28_3, hx28_4, hx28_5, hx28_6, hx28_7, hx28_8, hx28_9, hx28_10, hx28_11, hx29_0, hx29_1, hx29_2, hx29_3, hx29_4, hx29_5, hx29_6, hx29_7, hx29_8, hx29_9, hx29_10, hx29_11⟩ (fun hHeld => ?_); refine with_tabW law12_TreeSums.tab18 law12_TreeSums.bits18 (fun HT_ HW_ => ?_)
                      generalize w56.drew = w57 at HO_3 HO_7 BK6 BK7 HB hx28_0 hx28_1 hx28_10 hx28_11 hx28_2 hx28_3 hx28_4 hx28_5 hx28_6 hx28_7 hx28_8 hx28_9 hx29_0 hx29_1 hx29_10 hx29_11 hx29_2 hx29_3 hx29_4 hx29_5 hx29_6 hx29_7 hx29_8 hx29_9 hHeld ⊢
                      refine pure_ (i := 0) (N := some 64) (v := ?_) (a' := ?_) #[true, false, false, false, false, false, false, false, false, false, false, false, false, false, false, false, false, false, false, false, false, false] rfl rfl (any_of HT_.out (by kernel_rfl)) (fun _ _ _ h => h) (Or.inl ⟨by rfl, ?_⟩) ?_ ?_
                      rotate_left
                      ·intro w'
                       go_simp
                       with_reducible rfl
                      rotate_left
                      ·simp only [Act.put, List.setIfInBounds_toArray, List.set_cons_zero, List.set_cons_succ, i64_w, i32_w]
                       rfl
                      refine pure_ (i := 1) (N := some 65) (v := ?_) (a' := ?_) #[true, true, false, false, false, false, false, false, false, false, false, false, false, false, false, false, false, false, false, false, false, false] rfl rfl (any_of HT_.out (by kernel_rfl)) (fun _ _ _ h => h) (Or.inl ⟨by rfl, ?_⟩) ?_ ?_
                      rotate_left
                      ·intro w'
                       go_simp
                       with_reducible rfl
                      rotate_left
                      ·simp only [Act.put, List.setIfInBounds_toArray, List.set_cons_zero, List.set_cons_succ, i64_w, i32_w]
                       rfl
                      refine pure_ (i := 2) (N := some 66) (v := ?_) (a' := ?_) #[true, true, true, false, false, false, false, false, false, false, false, false, false, false, false, false, false, false, false, false, false, false] rfl rfl (any_of HT_.out (by kernel_rfl)) (fun _ _ _ h => h) (Or.inl ⟨by rfl, ?_⟩) ?_ ?_
                      rotate_left
                      ·intro w'
                       go_simp
                       with_reducible rfl
                      rotate_left
                      ·simp only [Act.put, List.setIfInBounds_toArray, List.set_cons_zero, List.set_cons_succ, i64_w, i32_w]
                       rfl
                      refine pure_ (i := 3) (N := some 67) (v := ?_) (a' := ?_) #[true, true, true, true, false, false, false, false, false, false, false, false, false, false, false, false, false, false, false, false, false, false] rfl rfl (any_of HT_.out (by kernel_rfl)) (fun _ _ _ h => h) (Or.inl ⟨by rfl, ?_⟩) ?_ ?_
                      rotate_left
                      ·intro w'
                       go_simp
                       with_reducible rfl
                      rotate_left
                      ·simp only [Act.put, List.setIfInBounds_toArray, List.set_cons_zero, List.set_cons_succ, i64_w, i32_w]
                       rfl
                      refine pure_ (i := 4) (N := some 68) (v := ?_) (a' := ?_) #[true, true, true, true, true, false, false, false, false, false, false, false, false, false, false, false, false, false, false, false, false, false] rfl rfl (any_of HT_.out (by kernel_rfl)) (fun _ _ _ h => h) (Or.inl ⟨by rfl, ?_⟩) ?_ ?_
                      rotate_left
                      ·intro w'
                       go_simp
                       with_reducible rfl
                      rotate_left
                      ·simp only [Act.put, List.setIfInBounds_toArray, List.set_cons_zero, List.set_cons_succ, i64_w, i32_w]
                       rfl
                      refine pure_ (i := 5) (N := some 69) (v := ?_) (a' := ?_) #[true, true, true, true, true, true, false, false, false, false, false, false, false, false, false, false, false, false, false, false, false, false] rfl rfl (any_of HT_.out (by kernel_rfl)) (fun _ _ _ h => h) (Or.inl ⟨by rfl, ?_⟩) ?_ ?_
                      rotate_left
                      ·intro w'
                       go_simp
                       with_reducible rfl
                      rotate_left
                      ·simp only [Act.put, List.setIfInBounds_toArray, List.set_cons_zero, List.set_cons_succ, i64_w, i32_w]
                       rfl
                      refine pure_ (i := 6) (N := some 70) (v := ?_) (a' := ?_) #[true, true, true, true, true, true, true, false, false, false, false, false, false, false, false, false, false, false, false, false, false, false] rfl rfl (any_of HT_.out (by kernel_rfl)) (fun _ _ _ h => h) (Or.inl ⟨by rfl, ?_⟩) ?_ ?_
                      rotate_left
                      ·intro w'
                       go_simp
                       with_reducible rfl
                      rotate_left
                      ·simp only [Act.put, List.setIfInBounds_toArray, List.set_cons_zero, List.set_cons_succ, i64_w, i32_w]
                       rfl
                      refine pure_ (i := 7) (N := some 71) (v := ?_) (a' := ?_) #[true, true, true, true, true, true, true, true, false, false, false, false, false, false, false, false, false, false, false, false, false, false] rfl rfl (any_of HT_.out (by kernel_rfl)) (fun _ _ _ h => h) (Or.inl ⟨by rfl, ?_⟩) ?_ ?_
                      rotate_left
                      ·intro w'
                       go_simp
                       with_reducible rfl
                      rotate_left
                      ·simp only [Act.put, List.setIfInBounds_toArray, List.set_cons_zero, List.set_cons_succ, i64_w, i32_w]
                       rfl
                      refine pure_ (i := 8) (N := some 72) (v := ?_) (a' := ?_) #[true, true, true, true, true, true, true, true, true, false, false, false, false, false, false, false, false, false, false, false, false, false] rfl rfl (any_of HT_.out (by kernel_rfl)) (fun _ _ _ h => h) (Or.inl ⟨by rfl, ?_⟩) ?_ ?_
                      rotate_left
                      ·intro w'
                       go_simp
                       with_reducible rfl
                      rotate_left
                      ·simp only [Act.put, List.setIfInBounds_toArray, List.set_cons_zero, List.set_cons_succ, i64_w, i32_w]
                       rfl
                      refine pure_ (i := 9) (N := some 73) (v := ?_) (a' := ?_) #[true, true, true, true, true, true, true, true, true, true, false, false, false, false, false, false, false, false, false, false, false, false] rfl rfl (any_of HT_.out (by kernel_rfl)) (fun _ _ _ h => h) (Or.inl ⟨by rfl, ?_⟩) ?_ ?_
                      rotate_left
                      ·intro w'
                       go_simp
                       with_reducible rfl
                      rotate_left
                      ·simp only [Act.put, List.setIfInBounds_toArray, List.set_cons_zero, List.set_cons_succ, i64_w, i32_w]
                       rfl
                      refine pure_ (i := 10) (N := some 74) (v := ?_) (a' := ?_) #[true, true, true, true, true, true, true, true, true, true, true, false, false, false, false, false, false, false, false, false, false, false] rfl rfl (any_of HT_.out (by kernel_rfl)) (fun _ _ _ h => h) (Or.inl ⟨by rfl, ?_⟩) ?_ ?_
                      rotate_left
                      ·intro w'
                       go_simp
                       with_reducible rfl
                      rotate_left
                      ·simp only [Act.put, List.setIfInBounds_toArray, List.set_cons_zero, List.set_cons_succ, i64_w, i32_w]
                       rfl
                      refine pure_ (i := 11) (N := some 75) (v := ?_) (a' := ?_) #[true, true, true, true, true, true, true, true, true, true, true, true, false, false, false, false, false, false, false, false, false, false] rfl rfl (any_of HT_.out (by kernel_rfl)) (fun _ _ _ h => h) (Or.inl ⟨by rfl, ?_⟩) ?_ ?_
                      rotate_left
                      ·intro w'
                       go_simp
                       with_reducible rfl
                      rotate_left
                      ·simp only [Act.put, List.setIfInBounds_toArray, List.set_cons_zero, List.set_cons_succ, i64_w, i32_w]
                       rfl
                      refine pure_ (i := 12) (N := some 76) (v := ?_) (a' := ?_) #[true, true, true, true, true, true, true, true, true, true, true, true, true, false, false, false, false, false, false, false, false, false] rfl rfl (any_of HT_.out (by kernel_rfl)) (fun _ _ _ h => h) (Or.inl ⟨by rfl, ?_⟩) ?_ ?_
                      rotate_left
                      ·intro w'
                       go_simp
                       with_reducible rfl
                      rotate_left
                      ·simp only [Act.put, List.setIfInBounds_toArray, List.set_cons_zero, List.set_cons_succ, i64_w, i32_w]
                       rfl
                      refine pure_ (i := 14) (N := some 78) (v := ?_) (a' := ?_) #[true, true, true, true, true, true, true, true, true, true, true, true, true, false, true, false, false, false, false, false, false, false] rfl rfl (any_of HT_.out (by kernel_rfl)) (fun _ _ _ h => h) (Or.inl ⟨by rfl, ?_⟩) ?_ ?_
                      rotate_left
                      ·intro w'
                       go_simp
                       with_reducible rfl
                      rotate_left
                      ·simp only [Act.put, List.setIfInBounds_toArray, List.set_cons_zero, List.set_cons_succ, i64_w, i32_w]
                       rfl
                      refine pure_ (i := 15) (N := some 79) (v := ?_) (a' := ?_) #[true, true, true, true, true, true, true, true, true, true, true, true, true, false, true, true, false, false, false, false, false, false] rfl rfl (any_of HT_.out (by kernel_rfl)) (fun _ _ _ h => h) (Or.inl ⟨by rfl, ?_⟩) ?_ ?_
                      rotate_left
                      ·intro w'
                       go_simp
                       with_reducible rfl
                      rotate_left
                      ·simp only [Act.put, List.setIfInBounds_toArray, List.set_cons_zero, List.set_cons_succ, i64_w, i32_w]
                       rfl
                      refine pure_ (i := 16) (N := some 80) (v := ?_) (a' := ?_) #[true, true, true, true, true, true, true, true, true, true, true, true, true, false, true, true, true, false, false, false, false, false] rfl rfl (any_of HT_.out (by kernel_rfl)) (fun _ _ _ h => h) (Or.inl ⟨by rfl, ?_⟩) ?_ ?_
                      rotate_left
                      ·intro w'
                       go_simp
                       with_reducible rfl
                      rotate_left
                      ·simp only [Act.put, List.setIfInBounds_toArray, List.set_cons_zero, List.set_cons_succ, i64_w, i32_w]
                       rfl
                      refine pure_ (i := 17) (N := some 81) (v := ?_) (a' := ?_) #[true, true, true, true, true, true, true, true, true, true, true, true, true, false, true, true, true, true, false, false, false, false] rfl rfl (any_of HT_.out (by kernel_rfl)) (fun _ _ _ h => h) (Or.inl ⟨by rfl, ?_⟩) ?_ ?_
                      rotate_left
                      ·intro w'
                       go_simp
                       with_reducible rfl
                      rotate_left
                      ·simp only [Act.put, List.setIfInBounds_toArray, List.set_cons_zero, List.set_cons_succ, i64_w, i32_w]
                       rfl
                      refine take_ (i := 13) (N := some 77) (v := ?_) (a' := ?_) #[true, true, true, true, true, true, true, true, true, true, true, true, true, true, true, true, true, true, false, false, false, false] rfl rfl (take_ofW HT_.out HW_.out (by kernel_rfl)) (fun _ _ _ h => h) (Or.inl ⟨by rfl, ?_⟩) hHeld ?_ ?_
                      rotate_left
                      ·rintro w' ⟨s0, s1, s2, s3, s4, s5, s6, s7, s8, s9, s10, s11, s12, s13, s14, s15, s16, s17, s18, s19, s20, s21, s22, s23⟩
                       go_simp
                       with_reducible rfl
                      rotate_left
                      ·simp only [Act.put, List.setIfInBounds_toArray, List.set_cons_zero, List.set_cons_succ, i64_w, i32_w]
                       rfl
                      refine take_ (i := 18) (N := some 82) (v := ?_) (a' := ?_) #[true, true, true, true, true, true, true, true, true, true, true, true, true, true, true, true, true, true, true, false, false, false] rfl rfl (take_ofW HT_.out HW_.out (by kernel_rfl)) (fun _ _ _ h => h) (Or.inl ⟨by rfl, ?_⟩) hHeld ?_ ?_
                      rotate_left
                      ·rintro w' ⟨s0, s1, s2, s3, s4, s5, s6, s7, s8, s9, s10, s11, s12, s13, s14, s15, s16, s17, s18, s19, s20, s21, s22, s23⟩
                       go_simp
                       with_reducible rfl
                      rotate_left
                      ·simp only [Act.put, List.setIfInBounds_toArray, List.set_cons_zero, List.set_cons_succ, i64_w, i32_w]
                       rfl
                      refine one_ (i := 19) (N := some 83) #[true, true, true, true, true, true, true, true, true, true, true, true, true, true, true, true, true, true, true, true, false, false] rfl rfl (one_of HT_.out (by kernel_rfl)) (by decide) (fun K hK => ?_)
                      refine goes_ Try.func34 (by kernel_rfl) rfl #[.agg #[.int .i64 ((rd_T31 t2 x6_1).f3.f0), .int .i64 ((rd_T31 t2 x6_1).f3.f1), .int .i64 ((rd_T31 t2 x6_1).f3.f2)], .agg #[.int .i64 ((rd_T31 t2 t27).f2.f0), .int .i64 ((rd_T31 t2 t27).f2.f1), .int .i64 ((rd_T31 t2 t27).f2.f2)]] (by rfl) rfl rfl (by (try simp only [List.map_toArray, List.map_cons, List.map_nil]); first | done | rfl | (simp only [List.length_drop, List.length_take]; rfl)) ?_
                      with_reducible refine (r10_Le.calls ((rd_T31 t2 x6_1).f3.f0) ((rd_T31 t2 x6_1).f3.f1) ((rd_T31 t2 x6_1).f3.f2) ((rd_T31 t2 t27).f2.f0) ((rd_T31 t2 t27).f2.f1) ((rd_T31 t2 t27).f2.f2) false _ A49.out).mono ?_
                      rintro e w58 ⟨rfl, hb⟩
                      have HS0_ := (hb.cell (World.block_lt_of_cell? _ _ (hHeld.1))).trans (hHeld.1)
                      have HS1_ := (hb.cell (World.block_lt_of_cell? _ _ (hHeld.2.1))).trans (hHeld.2.1)
                      have HS2_ := (hb.cell (World.block_lt_of_cell? _ _ (hHeld.2.2.1))).trans (hHeld.2.2.1)
                      have HS3_ := (hb.cell (World.block_lt_of_cell? _ _ (hHeld.2.2.2.1))).trans (hHeld.2.2.2.1)
                      have HS4_ := (hb.cell (World.block_lt_of_cell? _ _ (hHeld.2.2.2.2.1))).trans (hHeld.2.2.2.2.1)
                      have HS5_ := (hb.cell (World.block_lt_of_cell? _ _ (hHeld.2.2.2.2.2.1))).trans (hHeld.2.2.2.2.2.1)
                      have HS6_ := (hb.cell (World.block_lt_of_cell? _ _ (hHeld.2.2.2.2.2.2.1))).trans (hHeld.2.2.2.2.2.2.1)
                      have HS7_ := (hb.cell (World.block_lt_of_cell? _ _ (hHeld.2.2.2.2.2.2.2.1))).trans (hHeld.2.2.2.2.2.2.2.1)
                      have HS8_ := (hb.cell (World.block_lt_of_cell? _ _ (hHeld.2.2.2.2.2.2.2.2.1))).trans (hHeld.2.2.2.2.2.2.2.2.1)
                      have HS9_ := (hb.cell (World.block_lt_of_cell? _ _ (hHeld.2.2.2.2.2.2.2.2.2.1))).trans (hHeld.2.2.2.2.2.2.2.2.2.1)
                      have HS10_ := (hb.cell (World.block_lt_of_cell? _ _ (hHeld.2.2.2.2.2.2.2.2.2.2.1))).trans (hHeld.2.2.2.2.2.2.2.2.2.2.1)
                      have HS11_ := (hb.cell (World.block_lt_of_cell? _ _ (hHeld.2.2.2.2.2.2.2.2.2.2.2.1))).trans (hHeld.2.2.2.2.2.2.2.2.2.2.2.1)
                      have HS12_ := (hb.cell (World.block_lt_of_cell? _ _ (hHeld.2.2.2.2.2.2.2.2.2.2.2.2.1))).trans (hHeld.2.2.2.2.2.2.2.2.2.2.2.2.1)
                      have HS13_ := (hb.cell (World.block_lt_of_cell? _ _ (hHeld.2.2.2.2.2.2.2.2.2.2.2.2.2.1))).trans (hHeld.2.2.2.2.2.2.2.2.2.2.2.2.2.1)
                      have HS14_ := (hb.cell (World.block_lt_of_cell? _ _ (hHeld.2.2.2.2.2.2.2.2.2.2.2.2.2.2.1))).trans (hHeld.2.2.2.2.2.2.2.2.2.2.2.2.2.2.1)
                      have HS15_ := (hb.cell (World.block_lt_of_cell? _ _ (hHeld.2.2.2.2.2.2.2.2.2.2.2.2.2.2.2.1))).trans (hHeld.2.2.2.2.2.2.2.2.2.2.2.2.2.2.2.1)
                      have HS16_ := (hb.cell (World.block_lt_of_cell? _ _ (hHeld.2.2.2.2.2.2.2.2.2.2.2.2.2.2.2.2.1))).trans (hHeld.2.2.2.2.2.2.2.2.2.2.2.2.2.2.2.2.1)
                      have HS17_ := (hb.cell (World.block_lt_of_cell? _ _ (hHeld.2.2.2.2.2.2.2.2.2.2.2.2.2.2.2.2.2.1))).trans (hHeld.2.2.2.2.2.2.2.2.2.2.2.2.2.2.2.2.2.1)
                      have HS18_ := (hb.cell (World.block_lt_of_cell? _ _ (hHeld.2.2.2.2.2.2.2.2.2.2.2.2.2.2.2.2.2.2.1))).trans (hHeld.2.2.2.2.2.2.2.2.2.2.2.2.2.2.2.2.2.2.1)
                      have HS19_ := (hb.cell (World.block_lt_of_cell? _ _ (hHeld.2.2.2.2.2.2.2.2.2.2.2.2.2.2.2.2.2.2.2.1))).trans (hHeld.2.2.2.2.2.2.2.2.2.2.2.2.2.2.2.2.2.2.2.1)
                      have HS20_ := (hb.cell (World.block_lt_of_cell? _ _ (hHeld.2.2.2.2.2.2.2.2.2.2.2.2.2.2.2.2.2.2.2.2.1))).trans (hHeld.2.2.2.2.2.2.2.2.2.2.2.2.2.2.2.2.2.2.2.2.1)
                      have HS21_ := (hb.cell (World.block_lt_of_cell? _ _ (hHeld.2.2.2.2.2.2.2.2.2.2.2.2.2.2.2.2.2.2.2.2.2.1))).trans (hHeld.2.2.2.2.2.2.2.2.2.2.2.2.2.2.2.2.2.2.2.2.2.1)
                      have HS22_ := (hb.cell (World.block_lt_of_cell? _ _ (hHeld.2.2.2.2.2.2.2.2.2.2.2.2.2.2.2.2.2.2.2.2.2.2.1))).trans (hHeld.2.2.2.2.2.2.2.2.2.2.2.2.2.2.2.2.2.2.2.2.2.2.1)
                      have HS23_ := (hb.cell (World.block_lt_of_cell? _ _ (hHeld.2.2.2.2.2.2.2.2.2.2.2.2.2.2.2.2.2.2.2.2.2.2.2))).trans (hHeld.2.2.2.2.2.2.2.2.2.2.2.2.2.2.2.2.2.2.2.2.2.2.2)
                      refine ⟨_, rfl, ?_⟩
                      have n0_ := Aside0.mk (Kd.R_below (by (with_reducible repeat (first|apply Kd.R_alloc|apply Kd.R_drewN|apply Kd.R_drew));exact HO_3.out) hb)
                      have n1_ := Aside0.mk (Kd.R_below (by (with_reducible repeat (first|apply Kd.R_alloc|apply Kd.R_drewN|apply Kd.R_drew));exact HO_7.out) hb)
                      have n2_ := Aside0.mk (blk_below (g := gb6) (o := .cells #[.int .i64 t10, .int .i64 t11, .int .i64 t12] 27 (0, 0)) (by (with_reducible repeat (first|refine blk_drewN ?_ _|refine blk_drew ?_|refine blk_alloc ?_ _));exact BK6.out) hb)
                      have n3_ := Aside0.mk (blk_below (g := gb7) (o := .cells #[.int .i64 x8000_15, .int .i64 x8001_15, .int .i64 x8002_15] 27 (0, 0)) (by (with_reducible repeat (first|refine blk_drewN ?_ _|refine blk_drew ?_|refine blk_alloc ?_ _));exact BK7.out) hb)
                      have n4_ := Aside0.mk (below_step (by repeat (first|(with_reducible first|exact HB.out|apply below_alloc|apply pw_below_drewN|apply below_drew1|refine below_set ?_ GE6.out|refine below_set ?_ GE7.out)|exact HB.out)) hb)
                      clear HO_3
                      clear HO_7
                      clear BK6
                      clear BK7
                      clear HB
                      have HO_3 := n0_
                      have HO_7 := n1_
                      have BK6 := n2_
                      have BK7 := n3_
                      have HB := n4_
                      clear n0_ n1_ n2_ n3_ n4_
                      (try clear hb)
                      (try clear hb2)
                      (try clear hk)
                      (try clear hi)
                      refine hK.out _ _ ⟨HS0_, HS1_, HS2_, HS3_, HS4_, HS5_, HS6_, HS7_, HS8_, HS9_, HS10_, HS11_, HS12_, HS13_, HS14_, HS15_, HS16_, HS17_, HS18_, HS19_, HS20_, HS21_, HS22_, HS23_⟩ (fun hHeld => ?_)
                      clear hK K
                      refine norm_ (a' := ?_) ?_ ?_
                      rotate_left
                      ·show Act.put _ (some 83) _ = _
                       simp only [Act.put, List.setIfInBounds_toArray, List.set_cons_zero, List.set_cons_succ, i64_w, i32_w]
                       rfl
                      refine pure_ (i := 20) (N := some 84) (v := ?_) (a' := ?_) #[true, true, true, true, true, true, true, true, true, true, true, true, true, true, true, true, true, true, true, true, true, false] rfl rfl (any_of HT_.out (by kernel_rfl)) (fun _ _ _ h => h) (Or.inl ⟨by rfl, ?_⟩) ?_ ?_
                      rotate_left
                      ·intro w'
                       go_simp
                       with_reducible rfl
                      rotate_left
                      ·simp only [Act.put, List.setIfInBounds_toArray, List.set_cons_zero, List.set_cons_succ, i64_w, i32_w]
                       rfl
                      refine pure_ (i := 21) (N := some 85) (v := ?_) (a' := ?_) #[true, true, true, true, true, true, true, true, true, true, true, true, true, true, true, true, true, true, true, true, true, true] rfl rfl (any_of HT_.out (by kernel_rfl)) (fun _ _ _ h => h) (Or.inl ⟨by rfl, ?_⟩) ?_ ?_
                      rotate_left
                      ·intro w'
                       go_simp
                       with_reducible rfl
                      rotate_left
                      ·simp only [Act.put, List.setIfInBounds_toArray, List.set_cons_zero, List.set_cons_succ, i64_w, i32_w]
                       rfl
                      refine done_ (done_of HT_.out (by kernel_rfl)) ?_
                      try go_wp2
                      go_ret
                      exact ⟨by first|rfl|(simp [errW_none, errW_some] <;> rfl)|(simp [*, errW_none, errW_some] <;> rfl), by repeat (first|(with_reducible first|exact HB.out|apply below_alloc|apply pw_below_drewN|apply below_drew1|refine below_set ?_ GE6.out|refine below_set ?_ GE7.out)|exact HB.out)⟩
                    ·rw [if_neg c48] at H
                     exact absurd H (by simp)
                   ·rw [if_neg c47] at H
                    exact absurd H (by simp)
                  ·rw [if_neg c46] at H
                   exact absurd H (by simp)
                 ·rw [if_neg c45] at H
                  exact absurd H (by simp)
              ·rw [if_neg c35] at H
               exact absurd H (by simp)
             ·rw [if_neg c34] at H
              have c34b0 : decide (x8_3 < (t19.length : Int)) = false := decide_eq_false c34
              clear c34
              by_cases c59 : (t19.length : Int) = 0
              ·rw [if_pos c59] at H
               have c59b0 : ((t19.length : Int) == 0) = true := beq_iff_eq.mpr c59
               have c59b1 : ((t19.length : Int) != 0) = false := bne_eq_false_iff_eq.mpr c59
               clear c59
               obtain rfl := Option.some.inj H
               obtain ⟨Ao60, co60, eo60⟩ := Kd.R_slice HO_7.out
               subst eo60
               try go_wp2
               have n0_ := Aside0.mk (Kd.R_drew HO_3.out)
               have n1_ := Aside0.mk (Kd.R_drew HO_7.out)
               have n2_ := Aside0.mk (blk_drew BK6.out)
               have n3_ := Aside0.mk (blk_drew BK7.out)
               have n4_ := Aside0.mk (below_drew1 HB.out)
               clear HO_3
               clear HO_7
               clear BK6
               clear BK7
               clear HB
               have HO_3 := n0_
               have HO_7 := n1_
               have BK6 := n2_
               have BK7 := n3_
               have HB := n4_
               clear n0_ n1_ n2_ n3_ n4_
               refine start_ (n := 26) (S := fun w' => True) (ds := []) #[false, false, false, false, false, false, false, false, false, false, false, false, false, false, false, false, false, false, false, false, false, false, false, false, false, false] (by kernel_rfl) rfl rfl trivial (fun hHeld => ?_); refine with_tabW law12_TreeSums.tab20 law12_TreeSums.bits20 (fun HT_ HW_ => ?_)
               generalize wr.drew = w61 at HO_3 HO_7 BK6 BK7 HB hHeld ⊢
               refine pure_ (i := 0) (N := some 86) (v := ?_) (a' := ?_) #[true, false, false, false, false, false, false, false, false, false, false, false, false, false, false, false, false, false, false, false, false, false, false, false, false, false] rfl rfl (any_of HT_.out (by kernel_rfl)) (fun _ _ _ h => h) (Or.inl ⟨by rfl, ?_⟩) ?_ ?_
               rotate_left
               ·intro w'
                go_simp
                with_reducible rfl
               rotate_left
               ·simp only [Act.put, List.setIfInBounds_toArray, List.set_cons_zero, List.set_cons_succ, i64_w, i32_w]
                rfl
               refine pure_ (i := 1) (N := some 87) (v := ?_) (a' := ?_) #[true, true, false, false, false, false, false, false, false, false, false, false, false, false, false, false, false, false, false, false, false, false, false, false, false, false] rfl rfl (any_of HT_.out (by kernel_rfl)) (fun _ _ _ h => h) (Or.inl ⟨by rfl, ?_⟩) ?_ ?_
               rotate_left
               ·intro w'
                go_simp
                with_reducible rfl
               rotate_left
               ·simp only [Act.put, List.setIfInBounds_toArray, List.set_cons_zero, List.set_cons_succ, i64_w, i32_w]
                rfl
               refine pure_ (i := 2) (N := some 88) (v := ?_) (a' := ?_) #[true, true, true, false, false, false, false, false, false, false, false, false, false, false, false, false, false, false, false, false, false, false, false, false, false, false] rfl rfl (any_of HT_.out (by kernel_rfl)) (fun _ _ _ h => h) (Or.inl ⟨by rfl, ?_⟩) ?_ ?_
               rotate_left
               ·intro w'
                go_simp
                with_reducible rfl
               rotate_left
               ·simp only [Act.put, List.setIfInBounds_toArray, List.set_cons_zero, List.set_cons_succ, i64_w, i32_w]
                rfl
               refine pure_ (i := 3) (N := some 89) (v := ?_) (a' := ?_) #[true, true, true, true, false, false, false, false, false, false, false, false, false, false, false, false, false, false, false, false, false, false, false, false, false, false] rfl rfl (any_of HT_.out (by kernel_rfl)) (fun _ _ _ h => h) (Or.inl ⟨by rfl, ?_⟩) ?_ ?_
               rotate_left
               ·intro w'
                go_simp
                with_reducible rfl
               rotate_left
               ·simp only [Act.put, List.setIfInBounds_toArray, List.set_cons_zero, List.set_cons_succ, i64_w, i32_w]
                rfl
               refine pure_ (i := 4) (N := some 90) (v := undef) (a' := ?_) #[true, true, true, true, true, false, false, false, false, false, false, false, false, false, false, false, false, false, false, false, false, false, false, false, false, false] rfl rfl (any_of HT_.out (by kernel_rfl)) (fun _ _ _ h => h) (Or.inr ⟨by rfl, rfl⟩) ?_ ?_
               rotate_left
               ·simp only [Act.put, List.setIfInBounds_toArray, List.set_cons_zero, List.set_cons_succ, i64_w, i32_w]
                rfl
               refine pure_ (i := 5) (N := some 91) (v := undef) (a' := ?_) #[true, true, true, true, true, true, false, false, false, false, false, false, false, false, false, false, false, false, false, false, false, false, false, false, false, false] rfl rfl (any_of HT_.out (by kernel_rfl)) (fun _ _ _ h => h) (Or.inr ⟨by rfl, rfl⟩) ?_ ?_
               rotate_left
               ·simp only [Act.put, List.setIfInBounds_toArray, List.set_cons_zero, List.set_cons_succ, i64_w, i32_w]
                rfl
               refine pure_ (i := 6) (N := some 92) (v := undef) (a' := ?_) #[true, true, true, true, true, true, true, false, false, false, false, false, false, false, false, false, false, false, false, false, false, false, false, false, false, false] rfl rfl (any_of HT_.out (by kernel_rfl)) (fun _ _ _ h => h) (Or.inr ⟨by rfl, rfl⟩) ?_ ?_
               rotate_left
               ·simp only [Act.put, List.setIfInBounds_toArray, List.set_cons_zero, List.set_cons_succ, i64_w, i32_w]
                rfl
               refine pure_ (i := 7) (N := some 93) (v := undef) (a' := ?_) #[true, true, true, true, true, true, true, true, false, false, false, false, false, false, false, false, false, false, false, false, false, false, false, false, false, false] rfl rfl (any_of HT_.out (by kernel_rfl)) (fun _ _ _ h => h) (Or.inr ⟨by rfl, rfl⟩) ?_ ?_
               rotate_left
               ·simp only [Act.put, List.setIfInBounds_toArray, List.set_cons_zero, List.set_cons_succ, i64_w, i32_w]
                rfl
               refine pure_ (i := 8) (N := some 94) (v := undef) (a' := ?_) #[true, true, true, true, true, true, true, true, true, false, false, false, false, false, false, false, false, false, false, false, false, false, false, false, false, false] rfl rfl (any_of HT_.out (by kernel_rfl)) (fun _ _ _ h => h) (Or.inr ⟨by rfl, rfl⟩) ?_ ?_
               rotate_left
               ·simp only [Act.put, List.setIfInBounds_toArray, List.set_cons_zero, List.set_cons_succ, i64_w, i32_w]
                rfl
               refine pure_ (i := 9) (N := some 95) (v := undef) (a' := ?_) #[true, true, true, true, true, true, true, true, true, true, false, false, false, false, false, false, false, false, false, false, false, false, false, false, false, false] rfl rfl (any_of HT_.out (by kernel_rfl)) (fun _ _ _ h => h) (Or.inr ⟨by rfl, rfl⟩) ?_ ?_
               rotate_left
               ·simp only [Act.put, List.setIfInBounds_toArray, List.set_cons_zero, List.set_cons_succ, i64_w, i32_w]
                rfl
               refine pure_ (i := 10) (N := some 96) (v := undef) (a' := ?_) #[true, true, true, true, true, true, true, true, true, true, true, false, false, false, false, false, false, false, false, false, false, false, false, false, false, false] rfl rfl (any_of HT_.out (by kernel_rfl)) (fun _ _ _ h => h) (Or.inr ⟨by rfl, rfl⟩) ?_ ?_
               rotate_left
               ·simp only [Act.put, List.setIfInBounds_toArray, List.set_cons_zero, List.set_cons_succ, i64_w, i32_w]
                rfl
               refine pure_ (i := 11) (N := some 97) (v := undef) (a' := ?_) #[true, true, true, true, true, true, true, true, true, true, true, true, false, false, false, false, false, false, false, false, false, false, false, false, false, false] rfl rfl (any_of HT_.out (by kernel_rfl)) (fun _ _ _ h => h) (Or.inr ⟨by rfl, rfl⟩) ?_ ?_
               rotate_left
               ·simp only [Act.put, List.setIfInBounds_toArray, List.set_cons_zero, List.set_cons_succ, i64_w, i32_w]
                rfl
               refine pure_ (i := 12) (N := some 98) (v := undef) (a' := ?_) #[true, true, true, true, true, true, true, true, true, true, true, true, true, false, false, false, false, false, false, false, false, false, false, false, false, false] rfl rfl (any_of HT_.out (by kernel_rfl)) (fun _ _ _ h => h) (Or.inr ⟨by rfl, rfl⟩) ?_ ?_
               rotate_left
               ·simp only [Act.put, List.setIfInBounds_toArray, List.set_cons_zero, List.set_cons_succ, i64_w, i32_w]
                rfl
               refine pure_ (i := 13) (N := some 99) (v := ?_) (a' := ?_) #[true, true, true, true, true, true, true, true, true, true, true, true, true, true, false, false, false, false, false, false, false, false, false, false, false, false] rfl rfl (any_of HT_.out (by kernel_rfl)) (fun _ _ _ h => h) (Or.inl ⟨by rfl, ?_⟩) ?_ ?_
               rotate_left
               ·intro w'
                go_simp
                with_reducible rfl
               rotate_left
               ·simp only [Act.put, List.setIfInBounds_toArray, List.set_cons_zero, List.set_cons_succ, i64_w, i32_w]
                rfl
               refine pure_ (i := 14) (N := some 100) (v := ?_) (a' := ?_) #[true, true, true, true, true, true, true, true, true, true, true, true, true, true, true, false, false, false, false, false, false, false, false, false, false, false] rfl rfl (any_of HT_.out (by kernel_rfl)) (fun _ _ _ h => h) (Or.inl ⟨by rfl, ?_⟩) ?_ ?_
               rotate_left
               ·intro w'
                go_simp
                with_reducible rfl
               rotate_left
               ·simp only [Act.put, List.setIfInBounds_toArray, List.set_cons_zero, List.set_cons_succ, i64_w, i32_w]
                rfl
               refine pure_ (i := 15) (N := some 101) (v := undef) (a' := ?_) #[true, true, true, true, true, true, true, true, true, true, true, true, true, true, true, true, false, false, false, false, false, false, false, false, false, false] rfl rfl (any_of HT_.out (by kernel_rfl)) (fun _ _ _ h => h) (Or.inr ⟨by rfl, rfl⟩) ?_ ?_
               rotate_left
               ·simp only [Act.put, List.setIfInBounds_toArray, List.set_cons_zero, List.set_cons_succ, i64_w, i32_w]
                rfl
               refine pure_ (i := 16) (N := some 102) (v := undef) (a' := ?_) #[true, true, true, true, true, true, true, true, true, true, true, true, true, true, true, true, true, false, false, false, false, false, false, false, false, false] rfl rfl (any_of HT_.out (by kernel_rfl)) (fun _ _ _ h => h) (Or.inr ⟨by rfl, rfl⟩) ?_ ?_
               rotate_left
               ·simp only [Act.put, List.setIfInBounds_toArray, List.set_cons_zero, List.set_cons_succ, i64_w, i32_w]
                rfl
               refine pure_ (i := 17) (N := some 103) (v := undef) (a' := ?_) #[true, true, true, true, true, true, true, true, true, true, true, true, true, true, true, true, true, true, false, false, false, false, false, false, false, false] rfl rfl (any_of HT_.out (by kernel_rfl)) (fun _ _ _ h => h) (Or.inr ⟨by rfl, rfl⟩) ?_ ?_
               rotate_left
               ·simp only [Act.put, List.setIfInBounds_toArray, List.set_cons_zero, List.set_cons_succ, i64_w, i32_w]
                rfl
               refine pure_ (i := 18) (N := some 104) (v := undef) (a' := ?_) #[true, true, true, true, true, true, true, true, true, true, true, true, true, true, true, true, true, true, true, false, false, false, false, false, false, false] rfl rfl (any_of HT_.out (by kernel_rfl)) (fun _ _ _ h => h) (Or.inr ⟨by rfl, rfl⟩) ?_ ?_
               rotate_left
               ·simp only [Act.put, List.setIfInBounds_toArray, List.set_cons_zero, List.set_cons_succ, i64_w, i32_w]
                rfl
               refine pure_ (i := 19) (N := some 105) (v := undef) (a' := ?_) #[true, true, true, true, true, true, true, true, true, true, true, true, true, true, true, true, true, true, true, true, false, false, false, false, false, false] rfl rfl (any_of HT_.out (by kernel_rfl)) (fun _ _ _ h => h) (Or.inr ⟨by rfl, rfl⟩) ?_ ?_
               rotate_left
               ·simp only [Act.put, List.setIfInBounds_toArray, List.set_cons_zero, List.set_cons_succ, i64_w, i32_w]
                rfl
               refine pure_ (i := 20) (N := some 106) (v := undef) (a' := ?_) #[true, true, true, true, true, true, true, true, true, true, true, true, true, true, true, true, true, true, true, true, true, false, false, false, false, false] rfl rfl (any_of HT_.out (by kernel_rfl)) (fun _ _ _ h => h) (Or.inr ⟨by rfl, rfl⟩) ?_ ?_
               rotate_left
               ·simp only [Act.put, List.setIfInBounds_toArray, List.set_cons_zero, List.set_cons_succ, i64_w, i32_w]
                rfl
               refine pure_ (i := 21) (N := some 107) (v := undef) (a' := ?_) #[true, true, true, true, true, true, true, true, true, true, true, true, true, true, true, true, true, true, true, true, true, true, false, false, false, false] rfl rfl (any_of HT_.out (by kernel_rfl)) (fun _ _ _ h => h) (Or.inr ⟨by rfl, rfl⟩) ?_ ?_
               rotate_left
               ·simp only [Act.put, List.setIfInBounds_toArray, List.set_cons_zero, List.set_cons_succ, i64_w, i32_w]
                rfl
               refine pure_ (i := 22) (N := some 108) (v := undef) (a' := ?_) #[true, true, true, true, true, true, true, true, true, true, true, true, true, true, true, true, true, true, true, true, true, true, true, false, false, false] rfl rfl (any_of HT_.out (by kernel_rfl)) (fun _ _ _ h => h) (Or.inr ⟨by rfl, rfl⟩) ?_ ?_
               rotate_left
               ·simp only [Act.put, List.setIfInBounds_toArray, List.set_cons_zero, List.set_cons_succ, i64_w, i32_w]
                rfl
               refine pure_ (i := 23) (N := some 109) (v := undef) (a' := ?_) #[true, true, true, true, true, true, true, true, true, true, true, true, true, true, true, true, true, true, true, true, true, true, true, true, false, false] rfl rfl (any_of HT_.out (by kernel_rfl)) (fun _ _ _ h => h) (Or.inr ⟨by rfl, rfl⟩) ?_ ?_
               rotate_left
               ·simp only [Act.put, List.setIfInBounds_toArray, List.set_cons_zero, List.set_cons_succ, i64_w, i32_w]
                rfl
               refine pure_ (i := 24) (N := some 110) (v := undef) (a' := ?_) #[true, true, true, true, true, true, true, true, true, true, true, true, true, true, true, true, true, true, true, true, true, true, true, true, true, false] rfl rfl (any_of HT_.out (by kernel_rfl)) (fun _ _ _ h => h) (Or.inr ⟨by rfl, rfl⟩) ?_ ?_
               rotate_left
               ·simp only [Act.put, List.setIfInBounds_toArray, List.set_cons_zero, List.set_cons_succ, i64_w, i32_w]
                rfl
               refine pure_ (i := 25) (N := some 111) (v := ?_) (a' := ?_) #[true, true, true, true, true, true, true, true, true, true, true, true, true, true, true, true, true, true, true, true, true, true, true, true, true, true] rfl rfl (any_of HT_.out (by kernel_rfl)) (fun _ _ _ h => h) (Or.inl ⟨by rfl, ?_⟩) ?_ ?_
               rotate_left
               ·intro w'
                go_simp
                with_reducible rfl
               rotate_left
               ·simp only [Act.put, List.setIfInBounds_toArray, List.set_cons_zero, List.set_cons_succ, i64_w, i32_w]
                rfl
               refine done_ (done_of HT_.out (by kernel_rfl)) ?_
               try go_wp2
               go_ret
               exact ⟨by first|rfl|(simp [errW_none, errW_some] <;> rfl)|(simp [*, errW_none, errW_some] <;> rfl), by repeat (first|(with_reducible first|exact HB.out|apply below_alloc|apply pw_below_drewN|apply below_drew1|refine below_set ?_ GE6.out|refine below_set ?_ GE7.out)|exact HB.out)⟩
              ·rw [if_neg c59] at H
               have c59b0 : ((t19.length : Int) == 0) = false := beq_eq_false_iff_ne.mpr c59
               have c59b1 : ((t19.length : Int) != 0) = true := bne_iff_ne.mpr c59
               have c59b2 : ¬ (t19 = []) := fun h_ => c59 (by rw [h_]; rfl)
               by_cases c62 : 0 < (t19.length : Int)
               ·rw [if_pos c62] at H
                have c62b0 : decide (0 < (t19.length : Int)) = true := decide_eq_true c62
                have c62b1 : decide (0 < t19.length) = true := decide_eq_true (by omega)
                clear c62
                by_cases c63 : 0 ≤ x6_1
                ·rw [if_pos c63] at H
                 have c63b0 : decide (0 ≤ x6_1) = true := decide_eq_true c63
                 clear c63
                 by_cases c64 : x6_1 < (t2.length : Int)
                 ·rw [if_pos c64] at H
                  have c64b0 : decide (x6_1 < (t2.length : Int)) = true := decide_eq_true c64
                  clear c64
                  by_cases c65 : (rdOf ByteArray.empty t19 0).toList = ((rd_T31 t2 x6_1).f0).toList
                  ·rw [if_pos c65] at H
                   have c65b0 : ((rdOf ByteArray.empty t19 0).toList == ((rd_T31 t2 x6_1).f0).toList) = true := beq_iff_eq.mpr c65
                   have c65b1 : ((rdOf ByteArray.empty t19 0).toList != ((rd_T31 t2 x6_1).f0).toList) = false := bne_eq_false_iff_eq.mpr c65
                   clear c65
                   replace H := Option.bind_eq_some_iff.mp H
                   obtain ⟨t25, A660, H⟩ := H
                   replace H : (if (t19.length : Int) = t25 then (law12_TreeSums.l0 k3 t2 (wrap64 (x6_1 + 1)) t10 t11 t12 x8000_15 x8001_15 x8002_15) else (some false)) = some r := H
                   have A66 := Aside0.mk A660
                   clear A660
                   by_cases c67 : (t19.length : Int) = t25
                   ·rw [if_pos c67] at H
                    have c67b0 : ((t19.length : Int) == t25) = true := beq_iff_eq.mpr c67
                    have c67b1 : ((t19.length : Int) != t25) = false := bne_eq_false_iff_eq.mpr c67
                    clear c67
                    have H' := Aside0.mk H
                    clear H
                    obtain ⟨Ao68, co68, eo68⟩ := Kd.R_slice HO_7.out
                    subst eo68
                    try go_wp2
                    have n0_ := Aside0.mk (Kd.R_drew HO_3.out)
                    have n1_ := Aside0.mk (Kd.R_drew HO_7.out)
                    have n2_ := Aside0.mk (blk_drew BK6.out)
                    have n3_ := Aside0.mk (blk_drew BK7.out)
                    have n4_ := Aside0.mk (below_drew1 HB.out)
                    clear HO_3
                    clear HO_7
                    clear BK6
                    clear BK7
                    clear HB
                    have HO_3 := n0_
                    have HO_7 := n1_
                    have BK6 := n2_
                    have BK7 := n3_
                    have HB := n4_
                    clear n0_ n1_ n2_ n3_ n4_
                    have p22 : 0 ≤ (0 : Int) := (by omega)
                    have q22 : 0 < (t19.length : Int) := of_decide_eq_true (by first|(with_reducible assumption)|assumption)
                    obtain ⟨ad22, e22, hx22_0⟩ := Kd.at_string (Kd.R_reads' HO_7.out).2.2 0 p22 q22
                    cases e22
                    have qi22 : (0 < t19.length) = True := eq_true (by omega)
                    (try rw [show ((0 : Int)).toNat = 0 from rfl] at hx22_0)
                    (try rw [Addr.add_zero'] at hx22_0)
                    replace p22 := eq_true p22
                    replace q22 := eq_true q22
                    have p23 : 0 ≤ (x6_1 : Int) := of_decide_eq_true (by first|(with_reducible assumption)|assumption)
                    have q23 : x6_1 < (t2.length : Int) := of_decide_eq_true (by first|(with_reducible assumption)|assumption)
                    obtain ⟨ad23, e23, hx23_0, hx23_1, hx23_2, hx23_3, hx23_4, hx23_5, hx23_6, hx23_7, hx23_8, hx23_9, hx23_10, hx23_11⟩ := at_T31 (Kd.R_reads' HO_3.out).2.2 x6_1 p23 q23
                    obtain rfl : ad9 = ad23 := (by injection e23)
                    replace p23 := eq_true p23
                    replace q23 := eq_true q23
                    have p24 : 0 ≤ (x6_1 : Int) := of_decide_eq_true (by first|(with_reducible assumption)|assumption)
                    have q24 : x6_1 < (t2.length : Int) := of_decide_eq_true (by first|(with_reducible assumption)|assumption)
                    obtain ⟨ad24, e24, hx24_0, hx24_1, hx24_2, hx24_3, hx24_4, hx24_5, hx24_6, hx24_7, hx24_8, hx24_9, hx24_10, hx24_11⟩ := at_T31 (Kd.R_reads' HO_3.out).2.2 x6_1 p24 q24
                    obtain rfl : ad9 = ad24 := (by injection e24)
                    replace p24 := eq_true p24
                    replace q24 := eq_true q24
                    refine start_ (n := 26) (S := fun w' => w'.cell? ad22 = some (.string (rdOf ByteArray.empty t19 0)) ∧ w'.cell? (ad9.add ((x6_1).toNat * 12)) = some (.string ((rd_T31 t2 x6_1).f0)) ∧ w'.cell? ⟨(ad9.add ((x6_1).toNat * 12)).block, (ad9.add ((x6_1).toNat * 12)).off + 1, none⟩ = some (.string ((rd_T31 t2 x6_1).f1)) ∧ w'.cell? ⟨(ad9.add ((x6_1).toNat * 12)).block, (ad9.add ((x6_1).toNat * 12)).off + 2, none⟩ = some (.int .i64 ((rd_T31 t2 x6_1).f2.f0)) ∧ w'.cell? ⟨(ad9.add ((x6_1).toNat * 12)).block, (ad9.add ((x6_1).toNat * 12)).off + 3, none⟩ = some (.int .i64 ((rd_T31 t2 x6_1).f2.f1)) ∧ w'.cell? ⟨(ad9.add ((x6_1).toNat * 12)).block, (ad9.add ((x6_1).toNat * 12)).off + 4, none⟩ = some (.int .i64 ((rd_T31 t2 x6_1).f2.f2)) ∧ w'.cell? ⟨(ad9.add ((x6_1).toNat * 12)).block, (ad9.add ((x6_1).toNat * 12)).off + 5, none⟩ = some (.int .i64 ((rd_T31 t2 x6_1).f3.f0)) ∧ w'.cell? ⟨(ad9.add ((x6_1).toNat * 12)).block, (ad9.add ((x6_1).toNat * 12)).off + 6, none⟩ = some (.int .i64 ((rd_T31 t2 x6_1).f3.f1)) ∧ w'.cell? ⟨(ad9.add ((x6_1).toNat * 12)).block, (ad9.add ((x6_1).toNat * 12)).off + 7, none⟩ = some (.int .i64 ((rd_T31 t2 x6_1).f3.f2)) ∧ w'.cell? ⟨(ad9.add ((x6_1).toNat * 12)).block, (ad9.add ((x6_1).toNat * 12)).off + 8, none⟩ = some (.int .i64 ((rd_T31 t2 x6_1).f4.f0)) ∧ w'.cell? ⟨(ad9.add ((x6_1).toNat * 12)).block, (ad9.add ((x6_1).toNat * 12)).off + 9, none⟩ = some (.int .i64 ((rd_T31 t2 x6_1).f4.f1)) ∧ w'.cell? ⟨(ad9.add ((x6_1).toNat * 12)).block, (ad9.add ((x6_1).toNat * 12)).off + 10, none⟩ = some (.int .i64 ((rd_T31 t2 x6_1).f4.f2)) ∧ w'.cell? ⟨(ad9.add ((x6_1).toNat * 12)).block, (ad9.add ((x6_1).toNat * 12)).off + 11, none⟩ = some (.int .i64 ((rd_T31 t2 x6_1).f5)) ∧ w'.cell? (ad9.add ((x6_1).toNat * 12)) = some (.string ((rd_T31 t2 x6_1).f0)) ∧ w'.cell? ⟨(ad9.add ((x6_1).toNat * 12)).block, (ad9.add ((x6_1).toNat * 12)).off + 1, none⟩ = some (.string ((rd_T31 t2 x6_1).f1)) ∧ w'.cell? ⟨(ad9.add ((x6_1).toNat * 12)).block, (ad9.add ((x6_1).toNat * 12)).off + 2, none⟩ = some (.int .i64 ((rd_T31 t2 x6_1).f2.f0)) ∧ w'.cell? ⟨(ad9.add ((x6_1).toNat * 12)).block, (ad9.add ((x6_1).toNat * 12)).off + 3, none⟩ = some (.int .i64 ((rd_T31 t2 x6_1).f2.f1)) ∧ w'.cell? ⟨(ad9.add ((x6_1).toNat * 12)).block, (ad9.add ((x6_1).toNat * 12)).off + 4, none⟩ = some (.int .i64 ((rd_T31 t2 x6_1).f2.f2)) ∧ w'.cell? ⟨(ad9.add ((x6_1).toNat * 12)).block, (ad9.add ((x6_1).toNat * 12)).off + 5, none⟩ = some (.int .i64 ((rd_T31 t2 x6_1).f3.f0)) ∧ w'.cell? ⟨(ad9.add ((x6_1).toNat * 12)).block, (ad9.add ((x6_1).toNat * 12)).off + 6, none⟩ = some (.int .i64 ((rd_T31 t2 x6_1).f3.f1)) ∧ w'.cell? ⟨(ad9.add ((x6_1).toNat * 12)).block, (ad9.add ((x6_1).toNat * 12)).off + 7, none⟩ = some (.int .i64 ((rd_T31 t2 x6_1).f3.f2)) ∧ w'.cell? ⟨(ad9.add ((x6_1).toNat * 12)).block, (ad9.add ((x6_1).toNat * 12)).off + 8, none⟩ = some (.int .i64 ((rd_T31 t2 x6_1).f4.f0)) ∧ w'.cell? ⟨(ad9.add ((x6_1).toNat * 12)).block, (ad9.add ((x6_1).toNat * 12)).off + 9, none⟩ = some (.int .i64 ((rd_T31 t2 x6_1).f4.f1)) ∧ w'.cell? ⟨(ad9.add ((x6_1).toNat * 12)).block, (ad9.add ((x6_1).toNat * 12)).off + 10, none⟩ = some (.int .i64 ((rd_T31 t2 x6_1).f4.f2)) ∧ w'.cell? ⟨(ad9.add ((x6_1).toNat * 12)).block, (ad9.add ((x6_1).toNat * 12)).off + 11, none⟩ = some (.int .i64 ((rd_T31 t2 x6_1).f5))) (ds := []) #[false, false, false, false, false, false, false, false, false, false, false, false, false, false, false, false, false, false, false, false, false, false, false, false, false, false] (by kernel_rfl) rfl rfl ⟨hx22_0, hx23_0, hx23_1, hx23_2, hx23_3, hx23_4, hx23_5, hx23_6, hx23_7, hx23_8, hx23_9, hx23_10, hx23_11, hx24_0, hx24_1, hx24_2, hx24_3, hx24_4, hx24_5, hx24_6, hx24_7, hx24_8, hx24_9, hx24_10, hx24_11⟩ (fun hHeld => ?_); refine with_tabW law12_TreeSums.tab20 law12_TreeSums.bits20 (fun HT_ HW_ => ?_)
                    generalize wr.drew = w69 at HO_3 HO_7 BK6 BK7 HB hx22_0 hx23_0 hx23_1 hx23_10 hx23_11 hx23_2 hx23_3 hx23_4 hx23_5 hx23_6 hx23_7 hx23_8 hx23_9 hx24_0 hx24_1 hx24_10 hx24_11 hx24_2 hx24_3 hx24_4 hx24_5 hx24_6 hx24_7 hx24_8 hx24_9 hHeld ⊢
                    refine pure_ (i := 0) (N := some 86) (v := ?_) (a' := ?_) #[true, false, false, false, false, false, false, false, false, false, false, false, false, false, false, false, false, false, false, false, false, false, false, false, false, false] rfl rfl (any_of HT_.out (by kernel_rfl)) (fun _ _ _ h => h) (Or.inl ⟨by rfl, ?_⟩) ?_ ?_
                    rotate_left
                    ·intro w'
                     go_simp
                     with_reducible rfl
                    rotate_left
                    ·simp only [Act.put, List.setIfInBounds_toArray, List.set_cons_zero, List.set_cons_succ, i64_w, i32_w]
                     rfl
                    refine pure_ (i := 1) (N := some 87) (v := ?_) (a' := ?_) #[true, true, false, false, false, false, false, false, false, false, false, false, false, false, false, false, false, false, false, false, false, false, false, false, false, false] rfl rfl (any_of HT_.out (by kernel_rfl)) (fun _ _ _ h => h) (Or.inl ⟨by rfl, ?_⟩) ?_ ?_
                    rotate_left
                    ·intro w'
                     go_simp
                     with_reducible rfl
                    rotate_left
                    ·simp only [Act.put, List.setIfInBounds_toArray, List.set_cons_zero, List.set_cons_succ, i64_w, i32_w]
                     rfl
                    refine pure_ (i := 2) (N := some 88) (v := ?_) (a' := ?_) #[true, true, true, false, false, false, false, false, false, false, false, false, false, false, false, false, false, false, false, false, false, false, false, false, false, false] rfl rfl (any_of HT_.out (by kernel_rfl)) (fun _ _ _ h => h) (Or.inl ⟨by rfl, ?_⟩) ?_ ?_
                    rotate_left
                    ·intro w'
                     go_simp
                     with_reducible rfl
                    rotate_left
                    ·simp only [Act.put, List.setIfInBounds_toArray, List.set_cons_zero, List.set_cons_succ, i64_w, i32_w]
                     rfl
                    refine pure_ (i := 3) (N := some 89) (v := ?_) (a' := ?_) #[true, true, true, true, false, false, false, false, false, false, false, false, false, false, false, false, false, false, false, false, false, false, false, false, false, false] rfl rfl (any_of HT_.out (by kernel_rfl)) (fun _ _ _ h => h) (Or.inl ⟨by rfl, ?_⟩) ?_ ?_
                    rotate_left
                    ·intro w'
                     go_simp
                     with_reducible rfl
                    rotate_left
                    ·simp only [Act.put, List.setIfInBounds_toArray, List.set_cons_zero, List.set_cons_succ, i64_w, i32_w]
                     rfl
                    refine pure_ (i := 4) (N := some 90) (v := ?_) (a' := ?_) #[true, true, true, true, true, false, false, false, false, false, false, false, false, false, false, false, false, false, false, false, false, false, false, false, false, false] rfl rfl (any_of HT_.out (by kernel_rfl)) (fun _ _ _ h => h) (Or.inl ⟨by rfl, ?_⟩) ?_ ?_
                    rotate_left
                    ·intro w'
                     go_simp
                     with_reducible rfl
                    rotate_left
                    ·simp only [Act.put, List.setIfInBounds_toArray, List.set_cons_zero, List.set_cons_succ, i64_w, i32_w]
                     rfl
                    refine pure_ (i := 5) (N := some 91) (v := ?_) (a' := ?_) #[true, true, true, true, true, true, false, false, false, false, false, false, false, false, false, false, false, false, false, false, false, false, false, false, false, false] rfl rfl (any_of HT_.out (by kernel_rfl)) (fun _ _ _ h => h) (Or.inl ⟨by rfl, ?_⟩) ?_ ?_
                    rotate_left
                    ·intro w'
                     go_simp
                     with_reducible rfl
                    rotate_left
                    ·simp only [Act.put, List.setIfInBounds_toArray, List.set_cons_zero, List.set_cons_succ, i64_w, i32_w]
                     rfl
                    refine pure_ (i := 7) (N := some 93) (v := ?_) (a' := ?_) #[true, true, true, true, true, true, false, true, false, false, false, false, false, false, false, false, false, false, false, false, false, false, false, false, false, false] rfl rfl (any_of HT_.out (by kernel_rfl)) (fun _ _ _ h => h) (Or.inl ⟨by rfl, ?_⟩) ?_ ?_
                    rotate_left
                    ·intro w'
                     go_simp
                     with_reducible rfl
                    rotate_left
                    ·simp only [Act.put, List.setIfInBounds_toArray, List.set_cons_zero, List.set_cons_succ, i64_w, i32_w]
                     rfl
                    refine pure_ (i := 8) (N := some 94) (v := ?_) (a' := ?_) #[true, true, true, true, true, true, false, true, true, false, false, false, false, false, false, false, false, false, false, false, false, false, false, false, false, false] rfl rfl (any_of HT_.out (by kernel_rfl)) (fun _ _ _ h => h) (Or.inl ⟨by rfl, ?_⟩) ?_ ?_
                    rotate_left
                    ·intro w'
                     go_simp
                     with_reducible rfl
                    rotate_left
                    ·simp only [Act.put, List.setIfInBounds_toArray, List.set_cons_zero, List.set_cons_succ, i64_w, i32_w]
                     rfl
                    refine pure_ (i := 9) (N := some 95) (v := ?_) (a' := ?_) #[true, true, true, true, true, true, false, true, true, true, false, false, false, false, false, false, false, false, false, false, false, false, false, false, false, false] rfl rfl (any_of HT_.out (by kernel_rfl)) (fun _ _ _ h => h) (Or.inl ⟨by rfl, ?_⟩) ?_ ?_
                    rotate_left
                    ·intro w'
                     go_simp
                     with_reducible rfl
                    rotate_left
                    ·simp only [Act.put, List.setIfInBounds_toArray, List.set_cons_zero, List.set_cons_succ, i64_w, i32_w]
                     rfl
                    refine pure_ (i := 10) (N := some 96) (v := ?_) (a' := ?_) #[true, true, true, true, true, true, false, true, true, true, true, false, false, false, false, false, false, false, false, false, false, false, false, false, false, false] rfl rfl (any_of HT_.out (by kernel_rfl)) (fun _ _ _ h => h) (Or.inl ⟨by rfl, ?_⟩) ?_ ?_
                    rotate_left
                    ·intro w'
                     go_simp
                     with_reducible rfl
                    rotate_left
                    ·simp only [Act.put, List.setIfInBounds_toArray, List.set_cons_zero, List.set_cons_succ, i64_w, i32_w]
                     rfl
                    refine take_ (i := 6) (N := some 92) (v := ?_) (a' := ?_) #[true, true, true, true, true, true, true, true, true, true, true, false, false, false, false, false, false, false, false, false, false, false, false, false, false, false] rfl rfl (take_ofW HT_.out HW_.out (by kernel_rfl)) (fun _ _ _ h => h) (Or.inl ⟨by rfl, ?_⟩) hHeld ?_ ?_
                    rotate_left
                    ·rintro w' ⟨s0, s1, s2, s3, s4, s5, s6, s7, s8, s9, s10, s11, s12, s13, s14, s15, s16, s17, s18, s19, s20, s21, s22, s23, s24⟩
                     go_simp
                     with_reducible rfl
                    rotate_left
                    ·simp only [Act.put, List.setIfInBounds_toArray, List.set_cons_zero, List.set_cons_succ, i64_w, i32_w]
                     rfl
                    refine take_ (i := 11) (N := some 97) (v := ?_) (a' := ?_) #[true, true, true, true, true, true, true, true, true, true, true, true, false, false, false, false, false, false, false, false, false, false, false, false, false, false] rfl rfl (take_ofW HT_.out HW_.out (by kernel_rfl)) (fun _ _ _ h => h) (Or.inl ⟨by rfl, ?_⟩) hHeld ?_ ?_
                    rotate_left
                    ·rintro w' ⟨s0, s1, s2, s3, s4, s5, s6, s7, s8, s9, s10, s11, s12, s13, s14, s15, s16, s17, s18, s19, s20, s21, s22, s23, s24⟩
                     go_simp
                     with_reducible rfl
                    rotate_left
                    ·simp only [Act.put, List.setIfInBounds_toArray, List.set_cons_zero, List.set_cons_succ, i64_w, i32_w]
                     rfl
                    refine pure_ (i := 12) (N := some 98) (v := ?_) (a' := ?_) #[true, true, true, true, true, true, true, true, true, true, true, true, true, false, false, false, false, false, false, false, false, false, false, false, false, false] rfl rfl (any_of HT_.out (by kernel_rfl)) (fun _ _ _ h => h) (Or.inl ⟨by rfl, ?_⟩) ?_ ?_
                    rotate_left
                    ·intro w'
                     go_simp
                     with_reducible rfl
                    rotate_left
                    ·simp only [Act.put, List.setIfInBounds_toArray, List.set_cons_zero, List.set_cons_succ, i64_w, i32_w]
                     rfl
                    refine pure_ (i := 13) (N := some 99) (v := ?_) (a' := ?_) #[true, true, true, true, true, true, true, true, true, true, true, true, true, true, false, false, false, false, false, false, false, false, false, false, false, false] rfl rfl (any_of HT_.out (by kernel_rfl)) (fun _ _ _ h => h) (Or.inl ⟨by rfl, ?_⟩) ?_ ?_
                    rotate_left
                    ·intro w'
                     go_simp
                     with_reducible rfl
                    rotate_left
                    ·simp only [Act.put, List.setIfInBounds_toArray, List.set_cons_zero, List.set_cons_succ, i64_w, i32_w]
                     rfl
                    refine pure_ (i := 14) (N := some 100) (v := ?_) (a' := ?_) #[true, true, true, true, true, true, true, true, true, true, true, true, true, true, true, false, false, false, false, false, false, false, false, false, false, false] rfl rfl (any_of HT_.out (by kernel_rfl)) (fun _ _ _ h => h) (Or.inl ⟨by rfl, ?_⟩) ?_ ?_
                    rotate_left
                    ·intro w'
                     go_simp
                     with_reducible rfl
                    rotate_left
                    ·simp only [Act.put, List.setIfInBounds_toArray, List.set_cons_zero, List.set_cons_succ, i64_w, i32_w]
                     rfl
                    refine pure_ (i := 15) (N := some 101) (v := ?_) (a' := ?_) #[true, true, true, true, true, true, true, true, true, true, true, true, true, true, true, true, false, false, false, false, false, false, false, false, false, false] rfl rfl (any_of HT_.out (by kernel_rfl)) (fun _ _ _ h => h) (Or.inl ⟨by rfl, ?_⟩) ?_ ?_
                    rotate_left
                    ·intro w'
                     go_simp
                     with_reducible rfl
                    rotate_left
                    ·simp only [Act.put, List.setIfInBounds_toArray, List.set_cons_zero, List.set_cons_succ, i64_w, i32_w]
                     rfl
                    refine pure_ (i := 16) (N := some 102) (v := ?_) (a' := ?_) #[true, true, true, true, true, true, true, true, true, true, true, true, true, true, true, true, true, false, false, false, false, false, false, false, false, false] rfl rfl (any_of HT_.out (by kernel_rfl)) (fun _ _ _ h => h) (Or.inl ⟨by rfl, ?_⟩) ?_ ?_
                    rotate_left
                    ·intro w'
                     go_simp
                     with_reducible rfl
                    rotate_left
                    ·simp only [Act.put, List.setIfInBounds_toArray, List.set_cons_zero, List.set_cons_succ, i64_w, i32_w]
                     rfl
                    refine pure_ (i := 17) (N := some 103) (v := ?_) (a' := ?_) #[true, true, true, true, true, true, true, true, true, true, true, true, true, true, true, true, true, true, false, false, false, false, false, false, false, false] rfl rfl (any_of HT_.out (by kernel_rfl)) (fun _ _ _ h => h) (Or.inl ⟨by rfl, ?_⟩) ?_ ?_
                    rotate_left
                    ·intro w'
                     go_simp
                     with_reducible rfl
                    rotate_left
                    ·simp only [Act.put, List.setIfInBounds_toArray, List.set_cons_zero, List.set_cons_succ, i64_w, i32_w]
                     rfl
                    refine pure_ (i := 18) (N := some 104) (v := ?_) (a' := ?_) #[true, true, true, true, true, true, true, true, true, true, true, true, true, true, true, true, true, true, true, false, false, false, false, false, false, false] rfl rfl (any_of HT_.out (by kernel_rfl)) (fun _ _ _ h => h) (Or.inl ⟨by rfl, ?_⟩) ?_ ?_
                    rotate_left
                    ·intro w'
                     go_simp
                     with_reducible rfl
                    rotate_left
                    ·simp only [Act.put, List.setIfInBounds_toArray, List.set_cons_zero, List.set_cons_succ, i64_w, i32_w]
                     rfl
                    refine pure_ (i := 19) (N := some 105) (v := ?_) (a' := ?_) #[true, true, true, true, true, true, true, true, true, true, true, true, true, true, true, true, true, true, true, true, false, false, false, false, false, false] rfl rfl (any_of HT_.out (by kernel_rfl)) (fun _ _ _ h => h) (Or.inl ⟨by rfl, ?_⟩) ?_ ?_
                    rotate_left
                    ·intro w'
                     go_simp
                     with_reducible rfl
                    rotate_left
                    ·simp only [Act.put, List.setIfInBounds_toArray, List.set_cons_zero, List.set_cons_succ, i64_w, i32_w]
                     rfl
                    refine pure_ (i := 20) (N := some 106) (v := ?_) (a' := ?_) #[true, true, true, true, true, true, true, true, true, true, true, true, true, true, true, true, true, true, true, true, true, false, false, false, false, false] rfl rfl (any_of HT_.out (by kernel_rfl)) (fun _ _ _ h => h) (Or.inl ⟨by rfl, ?_⟩) ?_ ?_
                    rotate_left
                    ·intro w'
                     go_simp
                     with_reducible rfl
                    rotate_left
                    ·simp only [Act.put, List.setIfInBounds_toArray, List.set_cons_zero, List.set_cons_succ, i64_w, i32_w]
                     rfl
                    refine pure_ (i := 21) (N := some 107) (v := ?_) (a' := ?_) #[true, true, true, true, true, true, true, true, true, true, true, true, true, true, true, true, true, true, true, true, true, true, false, false, false, false] rfl rfl (any_of HT_.out (by kernel_rfl)) (fun _ _ _ h => h) (Or.inl ⟨by rfl, ?_⟩) ?_ ?_
                    rotate_left
                    ·intro w'
                     go_simp
                     with_reducible rfl
                    rotate_left
                    ·simp only [Act.put, List.setIfInBounds_toArray, List.set_cons_zero, List.set_cons_succ, i64_w, i32_w]
                     rfl
                    refine take_ (i := 22) (N := some 108) (v := ?_) (a' := ?_) #[true, true, true, true, true, true, true, true, true, true, true, true, true, true, true, true, true, true, true, true, true, true, true, false, false, false] rfl rfl (take_ofW HT_.out HW_.out (by kernel_rfl)) (fun _ _ _ h => h) (Or.inl ⟨by rfl, ?_⟩) hHeld ?_ ?_
                    rotate_left
                    ·rintro w' ⟨s0, s1, s2, s3, s4, s5, s6, s7, s8, s9, s10, s11, s12, s13, s14, s15, s16, s17, s18, s19, s20, s21, s22, s23, s24⟩
                     go_simp
                     with_reducible rfl
                    rotate_left
                    ·simp only [Act.put, List.setIfInBounds_toArray, List.set_cons_zero, List.set_cons_succ, i64_w, i32_w]
                     rfl
                    refine one_ (i := 23) (N := some 109) #[true, true, true, true, true, true, true, true, true, true, true, true, true, true, true, true, true, true, true, true, true, true, true, true, false, false] rfl rfl (one_of HT_.out (by kernel_rfl)) (by decide) (fun K hK => ?_)
                    refine goes_ Try.func72 (by kernel_rfl) rfl #[.slice (some ad9) t2.length co9, .string ((rd_T31 t2 x6_1).f0)] (by rfl) rfl rfl (by (try simp only [List.map_toArray, List.map_cons, List.map_nil]); first | done | rfl | (simp only [List.length_drop, List.length_take]; rfl)) ?_
                    with_reducible refine (tree_Depth.calls k3 _ _ t2 ((rd_T31 t2 x6_1).f0) t25 _ ?side1 ?side2 A66.out).mono ?_
                    (case side1 => repeat (first|exact (Kd.R_reads' HO_3.out).2.2|(with_reducible refine Kd.C_alloc ?_ _)|(with_reducible refine Kd.C_drewN ?_ _)|(with_reducible refine Kd.C_drew ?_)))
                    (case side2 => exact (Kd.R_reads' HO_3.out).2.1)
                    rintro e w70 ⟨rfl, hb⟩
                    have HS0_ := (hb.cell (World.block_lt_of_cell? _ _ (hHeld.1))).trans (hHeld.1)
                    have HS1_ := (hb.cell (World.block_lt_of_cell? _ _ (hHeld.2.1))).trans (hHeld.2.1)
                    have HS2_ := (hb.cell (World.block_lt_of_cell? _ _ (hHeld.2.2.1))).trans (hHeld.2.2.1)
                    have HS3_ := (hb.cell (World.block_lt_of_cell? _ _ (hHeld.2.2.2.1))).trans (hHeld.2.2.2.1)
                    have HS4_ := (hb.cell (World.block_lt_of_cell? _ _ (hHeld.2.2.2.2.1))).trans (hHeld.2.2.2.2.1)
                    have HS5_ := (hb.cell (World.block_lt_of_cell? _ _ (hHeld.2.2.2.2.2.1))).trans (hHeld.2.2.2.2.2.1)
                    have HS6_ := (hb.cell (World.block_lt_of_cell? _ _ (hHeld.2.2.2.2.2.2.1))).trans (hHeld.2.2.2.2.2.2.1)
                    have HS7_ := (hb.cell (World.block_lt_of_cell? _ _ (hHeld.2.2.2.2.2.2.2.1))).trans (hHeld.2.2.2.2.2.2.2.1)
                    have HS8_ := (hb.cell (World.block_lt_of_cell? _ _ (hHeld.2.2.2.2.2.2.2.2.1))).trans (hHeld.2.2.2.2.2.2.2.2.1)
                    have HS9_ := (hb.cell (World.block_lt_of_cell? _ _ (hHeld.2.2.2.2.2.2.2.2.2.1))).trans (hHeld.2.2.2.2.2.2.2.2.2.1)
                    have HS10_ := (hb.cell (World.block_lt_of_cell? _ _ (hHeld.2.2.2.2.2.2.2.2.2.2.1))).trans (hHeld.2.2.2.2.2.2.2.2.2.2.1)
                    have HS11_ := (hb.cell (World.block_lt_of_cell? _ _ (hHeld.2.2.2.2.2.2.2.2.2.2.2.1))).trans (hHeld.2.2.2.2.2.2.2.2.2.2.2.1)
                    have HS12_ := (hb.cell (World.block_lt_of_cell? _ _ (hHeld.2.2.2.2.2.2.2.2.2.2.2.2.1))).trans (hHeld.2.2.2.2.2.2.2.2.2.2.2.2.1)
                    have HS13_ := (hb.cell (World.block_lt_of_cell? _ _ (hHeld.2.2.2.2.2.2.2.2.2.2.2.2.2.1))).trans (hHeld.2.2.2.2.2.2.2.2.2.2.2.2.2.1)
                    have HS14_ := (hb.cell (World.block_lt_of_cell? _ _ (hHeld.2.2.2.2.2.2.2.2.2.2.2.2.2.2.1))).trans (hHeld.2.2.2.2.2.2.2.2.2.2.2.2.2.2.1)
                    have HS15_ := (hb.cell (World.block_lt_of_cell? _ _ (hHeld.2.2.2.2.2.2.2.2.2.2.2.2.2.2.2.1))).trans (hHeld.2.2.2.2.2.2.2.2.2.2.2.2.2.2.2.1)
                    have HS16_ := (hb.cell (World.block_lt_of_cell? _ _ (hHeld.2.2.2.2.2.2.2.2.2.2.2.2.2.2.2.2.1))).trans (hHeld.2.2.2.2.2.2.2.2.2.2.2.2.2.2.2.2.1)
                    have HS17_ := (hb.cell (World.block_lt_of_cell? _ _ (hHeld.2.2.2.2.2.2.2.2.2.2.2.2.2.2.2.2.2.1))).trans (hHeld.2.2.2.2.2.2.2.2.2.2.2.2.2.2.2.2.2.1)
                    have HS18_ := (hb.cell (World.block_lt_of_cell? _ _ (hHeld.2.2.2.2.2.2.2.2.2.2.2.2.2.2.2.2.2.2.1))).trans (hHeld.2.2.2.2.2.2.2.2.2.2.2.2.2.2.2.2.2.2.1)
                    have HS19_ := (hb.cell (World.block_lt_of_cell? _ _ (hHeld.2.2.2.2.2.2.2.2.2.2.2.2.2.2.2.2.2.2.2.1))).trans (hHeld.2.2.2.2.2.2.2.2.2.2.2.2.2.2.2.2.2.2.2.1)
                    have HS20_ := (hb.cell (World.block_lt_of_cell? _ _ (hHeld.2.2.2.2.2.2.2.2.2.2.2.2.2.2.2.2.2.2.2.2.1))).trans (hHeld.2.2.2.2.2.2.2.2.2.2.2.2.2.2.2.2.2.2.2.2.1)
                    have HS21_ := (hb.cell (World.block_lt_of_cell? _ _ (hHeld.2.2.2.2.2.2.2.2.2.2.2.2.2.2.2.2.2.2.2.2.2.1))).trans (hHeld.2.2.2.2.2.2.2.2.2.2.2.2.2.2.2.2.2.2.2.2.2.1)
                    have HS22_ := (hb.cell (World.block_lt_of_cell? _ _ (hHeld.2.2.2.2.2.2.2.2.2.2.2.2.2.2.2.2.2.2.2.2.2.2.1))).trans (hHeld.2.2.2.2.2.2.2.2.2.2.2.2.2.2.2.2.2.2.2.2.2.2.1)
                    have HS23_ := (hb.cell (World.block_lt_of_cell? _ _ (hHeld.2.2.2.2.2.2.2.2.2.2.2.2.2.2.2.2.2.2.2.2.2.2.2.1))).trans (hHeld.2.2.2.2.2.2.2.2.2.2.2.2.2.2.2.2.2.2.2.2.2.2.2.1)
                    have HS24_ := (hb.cell (World.block_lt_of_cell? _ _ (hHeld.2.2.2.2.2.2.2.2.2.2.2.2.2.2.2.2.2.2.2.2.2.2.2.2))).trans (hHeld.2.2.2.2.2.2.2.2.2.2.2.2.2.2.2.2.2.2.2.2.2.2.2.2)
                    refine ⟨_, rfl, ?_⟩
                    have n0_ := Aside0.mk (Kd.R_below (by (with_reducible repeat (first|apply Kd.R_alloc|apply Kd.R_drewN|apply Kd.R_drew));exact HO_3.out) hb)
                    have n1_ := Aside0.mk (Kd.R_below (by (with_reducible repeat (first|apply Kd.R_alloc|apply Kd.R_drewN|apply Kd.R_drew));exact HO_7.out) hb)
                    have n2_ := Aside0.mk (blk_below (g := gb6) (o := .cells #[.int .i64 t10, .int .i64 t11, .int .i64 t12] 27 (0, 0)) (by (with_reducible repeat (first|refine blk_drewN ?_ _|refine blk_drew ?_|refine blk_alloc ?_ _));exact BK6.out) hb)
                    have n3_ := Aside0.mk (blk_below (g := gb7) (o := .cells #[.int .i64 x8000_15, .int .i64 x8001_15, .int .i64 x8002_15] 27 (0, 0)) (by (with_reducible repeat (first|refine blk_drewN ?_ _|refine blk_drew ?_|refine blk_alloc ?_ _));exact BK7.out) hb)
                    have n4_ := Aside0.mk (below_step (by repeat (first|(with_reducible first|exact HB.out|apply below_alloc|apply pw_below_drewN|apply below_drew1|refine below_set ?_ GE6.out|refine below_set ?_ GE7.out)|exact HB.out)) hb)
                    clear HO_3
                    clear HO_7
                    clear BK6
                    clear BK7
                    clear HB
                    have HO_3 := n0_
                    have HO_7 := n1_
                    have BK6 := n2_
                    have BK7 := n3_
                    have HB := n4_
                    clear n0_ n1_ n2_ n3_ n4_
                    (try clear hb)
                    (try clear hb2)
                    (try clear hk)
                    (try clear hi)
                    refine hK.out _ _ ⟨HS0_, HS1_, HS2_, HS3_, HS4_, HS5_, HS6_, HS7_, HS8_, HS9_, HS10_, HS11_, HS12_, HS13_, HS14_, HS15_, HS16_, HS17_, HS18_, HS19_, HS20_, HS21_, HS22_, HS23_, HS24_⟩ (fun hHeld => ?_)
                    clear hK K
                    refine norm_ (a' := ?_) ?_ ?_
                    rotate_left
                    ·show Act.put _ (some 109) _ = _
                     simp only [Act.put, List.setIfInBounds_toArray, List.set_cons_zero, List.set_cons_succ, i64_w, i32_w]
                     rfl
                    refine pure_ (i := 24) (N := some 110) (v := ?_) (a' := ?_) #[true, true, true, true, true, true, true, true, true, true, true, true, true, true, true, true, true, true, true, true, true, true, true, true, true, false] rfl rfl (any_of HT_.out (by kernel_rfl)) (fun _ _ _ h => h) (Or.inl ⟨by rfl, ?_⟩) ?_ ?_
                    rotate_left
                    ·intro w'
                     go_simp
                     with_reducible rfl
                    rotate_left
                    ·simp only [Act.put, List.setIfInBounds_toArray, List.set_cons_zero, List.set_cons_succ, i64_w, i32_w]
                     rfl
                    refine pure_ (i := 25) (N := some 111) (v := ?_) (a' := ?_) #[true, true, true, true, true, true, true, true, true, true, true, true, true, true, true, true, true, true, true, true, true, true, true, true, true, true] rfl rfl (any_of HT_.out (by kernel_rfl)) (fun _ _ _ h => h) (Or.inl ⟨by rfl, ?_⟩) ?_ ?_
                    rotate_left
                    ·intro w'
                     go_simp
                     with_reducible rfl
                    rotate_left
                    ·simp only [Act.put, List.setIfInBounds_toArray, List.set_cons_zero, List.set_cons_succ, i64_w, i32_w]
                     rfl
                    refine done_ (done_of HT_.out (by kernel_rfl)) ?_
                    try go_wp2
                    go_roundg k3
                    case measure => have := HK1.out; have := HJ15.out; have := HK3.out; omega
                    case rel => exact ⟨(wrap64 (x6_1 + 1)), (t10), (t11), (t12), (x8000_15), (x8001_15), (x8002_15), (by first|rfl|(simp;done)|(simp [*];done)), H', ⟨by have := HK1.out;have := HJ15.out;have := HK3.out;omega⟩, ⟨by (with_reducible repeat (first|apply Kd.R_alloc|apply Kd.R_drewN|apply Kd.R_drew));exact HO_3.out⟩, ⟨by (with_reducible repeat (first|refine blk_drewN ?_ _|refine blk_drew ?_|refine blk_alloc ?_ _));exact BK6.out⟩, ⟨by (with_reducible repeat (first|refine blk_drewN ?_ _|refine blk_drew ?_|refine blk_alloc ?_ _));exact BK7.out⟩, ⟨by repeat (first|(with_reducible first|exact HB.out|apply below_alloc|apply pw_below_drewN|apply below_drew1|refine below_set ?_ GE6.out|refine below_set ?_ GE7.out)|exact HB.out)⟩⟩
                   ·rw [if_neg c67] at H
                    have c67b0 : ((t19.length : Int) == t25) = false := beq_eq_false_iff_ne.mpr c67
                    have c67b1 : ((t19.length : Int) != t25) = true := bne_iff_ne.mpr c67
                    obtain rfl := Option.some.inj H
                    obtain ⟨Ao71, co71, eo71⟩ := Kd.R_slice HO_7.out
                    subst eo71
                    try go_wp2
                    have n0_ := Aside0.mk (Kd.R_drew HO_3.out)
                    have n1_ := Aside0.mk (Kd.R_drew HO_7.out)
                    have n2_ := Aside0.mk (blk_drew BK6.out)
                    have n3_ := Aside0.mk (blk_drew BK7.out)
                    have n4_ := Aside0.mk (below_drew1 HB.out)
                    clear HO_3
                    clear HO_7
                    clear BK6
                    clear BK7
                    clear HB
                    have HO_3 := n0_
                    have HO_7 := n1_
                    have BK6 := n2_
                    have BK7 := n3_
                    have HB := n4_
                    clear n0_ n1_ n2_ n3_ n4_
                    have p22 : 0 ≤ (0 : Int) := (by omega)
                    have q22 : 0 < (t19.length : Int) := of_decide_eq_true (by first|(with_reducible assumption)|assumption)
                    obtain ⟨ad22, e22, hx22_0⟩ := Kd.at_string (Kd.R_reads' HO_7.out).2.2 0 p22 q22
                    cases e22
                    have qi22 : (0 < t19.length) = True := eq_true (by omega)
                    (try rw [show ((0 : Int)).toNat = 0 from rfl] at hx22_0)
                    (try rw [Addr.add_zero'] at hx22_0)
                    replace p22 := eq_true p22
                    replace q22 := eq_true q22
                    have p23 : 0 ≤ (x6_1 : Int) := of_decide_eq_true (by first|(with_reducible assumption)|assumption)
                    have q23 : x6_1 < (t2.length : Int) := of_decide_eq_true (by first|(with_reducible assumption)|assumption)
                    obtain ⟨ad23, e23, hx23_0, hx23_1, hx23_2, hx23_3, hx23_4, hx23_5, hx23_6, hx23_7, hx23_8, hx23_9, hx23_10, hx23_11⟩ := at_T31 (Kd.R_reads' HO_3.out).2.2 x6_1 p23 q23
                    obtain rfl : ad9 = ad23 := (by injection e23)
                    replace p23 := eq_true p23
                    replace q23 := eq_true q23
                    have p24 : 0 ≤ (x6_1 : Int) := of_decide_eq_true (by first|(with_reducible assumption)|assumption)
                    have q24 : x6_1 < (t2.length : Int) := of_decide_eq_true (by first|(with_reducible assumption)|assumption)
                    obtain ⟨ad24, e24, hx24_0, hx24_1, hx24_2, hx24_3, hx24_4, hx24_5, hx24_6, hx24_7, hx24_8, hx24_9, hx24_10, hx24_11⟩ := at_T31 (Kd.R_reads' HO_3.out).2.2 x6_1 p24 q24
                    obtain rfl : ad9 = ad24 := (by injection e24)
                    replace p24 := eq_true p24
                    replace q24 := eq_true q24
                    refine start_ (n := 26) (S := fun w' => w'.cell? ad22 = some (.string (rdOf ByteArray.empty t19 0)) ∧ w'.cell? (ad9.add ((x6_1).toNat * 12)) = some (.string ((rd_T31 t2 x6_1).f0)) ∧ w'.cell? ⟨(ad9.add ((x6_1).toNat * 12)).block, (ad9.add ((x6_1).toNat * 12)).off + 1, none⟩ = some (.string ((rd_T31 t2 x6_1).f1)) ∧ w'.cell? ⟨(ad9.add ((x6_1).toNat * 12)).block, (ad9.add ((x6_1).toNat * 12)).off + 2, none⟩ = some (.int .i64 ((rd_T31 t2 x6_1).f2.f0)) ∧ w'.cell? ⟨(ad9.add ((x6_1).toNat * 12)).block, (ad9.add ((x6_1).toNat * 12)).off + 3, none⟩ = some (.int .i64 ((rd_T31 t2 x6_1).f2.f1)) ∧ w'.cell? ⟨(ad9.add ((x6_1).toNat * 12)).block, (ad9.add ((x6_1).toNat * 12)).off + 4, none⟩ = some (.int .i64 ((rd_T31 t2 x6_1).f2.f2)) ∧ w'.cell? ⟨(ad9.add ((x6_1).toNat * 12)).block, (ad9.add ((x6_1).toNat * 12)).off + 5, none⟩ = some (.int .i64 ((rd_T31 t2 x6_1).f3.f0)) ∧ w'.cell? ⟨(ad9.add ((x6_1).toNat * 12)).block, (ad9.add ((x6_1).toNat * 12)).off + 6, none⟩ = some (.int .i64 ((rd_T31 t2 x6_1).f3.f1)) ∧ w'.cell? ⟨(ad9.add ((x6_1).toNat * 12)).block, (ad9.add ((x6_1).toNat * 12)).off + 7, none⟩ = some (.int .i64 ((rd_T31 t2 x6_1).f3.f2)) ∧ w'.cell? ⟨(ad9.add ((x6_1).toNat * 12)).block, (ad9.add ((x6_1).toNat * 12)).off + 8, none⟩ = some (.int .i64 ((rd_T31 t2 x6_1).f4.f0)) ∧ w'.cell? ⟨(ad9.add ((x6_1).toNat * 12)).block, (ad9.add ((x6_1).toNat * 12)).off + 9, none⟩ = some (.int .i64 ((rd_T31 t2 x6_1).f4.f1)) ∧ w'.cell? ⟨(ad9.add ((x6_1).toNat * 12)).block, (ad9.add ((x6_1).toNat * 12)).off + 10, none⟩ = some (.int .i64 ((rd_T31 t2 x6_1).f4.f2)) ∧ w'.cell? ⟨(ad9.add ((x6_1).toNat * 12)).block, (ad9.add ((x6_1).toNat * 12)).off + 11, none⟩ = some (.int .i64 ((rd_T31 t2 x6_1).f5)) ∧ w'.cell? (ad9.add ((x6_1).toNat * 12)) = some (.string ((rd_T31 t2 x6_1).f0)) ∧ w'.cell? ⟨(ad9.add ((x6_1).toNat * 12)).block, (ad9.add ((x6_1).toNat * 12)).off + 1, none⟩ = some (.string ((rd_T31 t2 x6_1).f1)) ∧ w'.cell? ⟨(ad9.add ((x6_1).toNat * 12)).block, (ad9.add ((x6_1).toNat * 12)).off + 2, none⟩ = some (.int .i64 ((rd_T31 t2 x6_1).f2.f0)) ∧ w'.cell? ⟨(ad9.add ((x6_1).toNat * 12)).block, (ad9.add ((x6_1).toNat * 12)).off + 3, none⟩ = some (.int .i64 ((rd_T31 t2 x6_1).f2.f1)) ∧ w'.cell? ⟨(ad9.add ((x6_1).toNat * 12)).block, (ad9.add ((x6_1).toNat * 12)).off + 4, none⟩ = some (.int .i64 ((rd_T31 t2 x6_1).f2.f2)) ∧ w'.cell? ⟨(ad9.add ((x6_1).toNat * 12)).block, (ad9.add ((x6_1).toNat * 12)).off + 5, none⟩ = some (.int .i64 ((rd_T31 t2 x6_1).f3.f0)) ∧ w'.cell? ⟨(ad9.add ((x6_1).toNat * 12)).block, (ad9.add ((x6_1).toNat * 12)).off + 6, none⟩ = some (.int .i64 ((rd_T31 t2 x6_1).f3.f1)) ∧ w'.cell? ⟨(ad9.add ((x6_1).toNat * 12)).block, (ad9.add ((x6_1).toNat * 12)).off + 7, none⟩ = some (.int .i64 ((rd_T31 t2 x6_1).f3.f2)) ∧ w'.cell? ⟨(ad9.add ((x6_1).toNat * 12)).block, (ad9.add ((x6_1).toNat * 12)).off + 8, none⟩ = some (.int .i64 ((rd_T31 t2 x6_1).f4.f0)) ∧ w'.cell? ⟨(ad9.add ((x6_1).toNat * 12)).block, (ad9.add ((x6_1).toNat * 12)).off + 9, none⟩ = some (.int .i64 ((rd_T31 t2 x6_1).f4.f1)) ∧ w'.cell? ⟨(ad9.add ((x6_1).toNat * 12)).block, (ad9.add ((x6_1).toNat * 12)).off + 10, none⟩ = some (.int .i64 ((rd_T31 t2 x6_1).f4.f2)) ∧ w'.cell? ⟨(ad9.add ((x6_1).toNat * 12)).block, (ad9.add ((x6_1).toNat * 12)).off + 11, none⟩ = some (.int .i64 ((rd_T31 t2 x6_1).f5))) (ds := []) #[false, false, false, false, false, false, false, false, false, false, false, false, false, false, false, false, false, false, false, false, false, false, false, false, false, false] (by kernel_rfl) rfl rfl ⟨hx22_0, hx23_0, hx23_1, hx23_2, hx23_3, hx23_4, hx23_5, hx23_6, hx23_7, hx23_8, hx23_9, hx23_10, hx23_11, hx24_0, hx24_1, hx24_2, hx24_3, hx24_4, hx24_5, hx24_6, hx24_7, hx24_8, hx24_9, hx24_10, hx24_11⟩ (fun hHeld => ?_); refine with_tabW law12_TreeSums.tab20 law12_TreeSums.bits20 (fun HT_ HW_ => ?_)
                    generalize wr.drew = w72 at HO_3 HO_7 BK6 BK7 HB hx22_0 hx23_0 hx23_1 hx23_10 hx23_11 hx23_2 hx23_3 hx23_4 hx23_5 hx23_6 hx23_7 hx23_8 hx23_9 hx24_0 hx24_1 hx24_10 hx24_11 hx24_2 hx24_3 hx24_4 hx24_5 hx24_6 hx24_7 hx24_8 hx24_9 hHeld ⊢
                    refine pure_ (i := 0) (N := some 86) (v := ?_) (a' := ?_) #[true, false, false, false, false, false, false, false, false, false, false, false, false, false, false, false, false, false, false, false, false, false, false, false, false, false] rfl rfl (any_of HT_.out (by kernel_rfl)) (fun _ _ _ h => h) (Or.inl ⟨by rfl, ?_⟩) ?_ ?_
                    rotate_left
                    ·intro w'
                     go_simp
                     with_reducible rfl
                    rotate_left
                    ·simp only [Act.put, List.setIfInBounds_toArray, List.set_cons_zero, List.set_cons_succ, i64_w, i32_w]
                     rfl
                    refine pure_ (i := 1) (N := some 87) (v := ?_) (a' := ?_) #[true, true, false, false, false, false, false, false, false, false, false, false, false, false, false, false, false, false, false, false, false, false, false, false, false, false] rfl rfl (any_of HT_.out (by kernel_rfl)) (fun _ _ _ h => h) (Or.inl ⟨by rfl, ?_⟩) ?_ ?_
                    rotate_left
                    ·intro w'
                     go_simp
                     with_reducible rfl
                    rotate_left
                    ·simp only [Act.put, List.setIfInBounds_toArray, List.set_cons_zero, List.set_cons_succ, i64_w, i32_w]
                     rfl
                    refine pure_ (i := 2) (N := some 88) (v := ?_) (a' := ?_) #[true, true, true, false, false, false, false, false, false, false, false, false, false, false, false, false, false, false, false, false, false, false, false, false, false, false] rfl rfl (any_of HT_.out (by kernel_rfl)) (fun _ _ _ h => h) (Or.inl ⟨by rfl, ?_⟩) ?_ ?_
                    rotate_left
                    ·intro w'
                     go_simp
                     with_reducible rfl
                    rotate_left
                    ·simp only [Act.put, List.setIfInBounds_toArray, List.set_cons_zero, List.set_cons_succ, i64_w, i32_w]
                     rfl
                    refine pure_ (i := 3) (N := some 89) (v := ?_) (a' := ?_) #[true, true, true, true, false, false, false, false, false, false, false, false, false, false, false, false, false, false, false, false, false, false, false, false, false, false] rfl rfl (any_of HT_.out (by kernel_rfl)) (fun _ _ _ h => h) (Or.inl ⟨by rfl, ?_⟩) ?_ ?_
                    rotate_left
                    ·intro w'
                     go_simp
                     with_reducible rfl
                    rotate_left
                    ·simp only [Act.put, List.setIfInBounds_toArray, List.set_cons_zero, List.set_cons_succ, i64_w, i32_w]
                     rfl
                    refine pure_ (i := 4) (N := some 90) (v := ?_) (a' := ?_) #[true, true, true, true, true, false, false, false, false, false, false, false, false, false, false, false, false, false, false, false, false, false, false, false, false, false] rfl rfl (any_of HT_.out (by kernel_rfl)) (fun _ _ _ h => h) (Or.inl ⟨by rfl, ?_⟩) ?_ ?_
                    rotate_left
                    ·intro w'
                     go_simp
                     with_reducible rfl
                    rotate_left
                    ·simp only [Act.put, List.setIfInBounds_toArray, List.set_cons_zero, List.set_cons_succ, i64_w, i32_w]
                     rfl
                    refine pure_ (i := 5) (N := some 91) (v := ?_) (a' := ?_) #[true, true, true, true, true, true, false, false, false, false, false, false, false, false, false, false, false, false, false, false, false, false, false, false, false, false] rfl rfl (any_of HT_.out (by kernel_rfl)) (fun _ _ _ h => h) (Or.inl ⟨by rfl, ?_⟩) ?_ ?_
                    rotate_left
                    ·intro w'
                     go_simp
                     with_reducible rfl
                    rotate_left
                    ·simp only [Act.put, List.setIfInBounds_toArray, List.set_cons_zero, List.set_cons_succ, i64_w, i32_w]
                     rfl
                    refine pure_ (i := 7) (N := some 93) (v := ?_) (a' := ?_) #[true, true, true, true, true, true, false, true, false, false, false, false, false, false, false, false, false, false, false, false, false, false, false, false, false, false] rfl rfl (any_of HT_.out (by kernel_rfl)) (fun _ _ _ h => h) (Or.inl ⟨by rfl, ?_⟩) ?_ ?_
                    rotate_left
                    ·intro w'
                     go_simp
                     with_reducible rfl
                    rotate_left
                    ·simp only [Act.put, List.setIfInBounds_toArray, List.set_cons_zero, List.set_cons_succ, i64_w, i32_w]
                     rfl
                    refine pure_ (i := 8) (N := some 94) (v := ?_) (a' := ?_) #[true, true, true, true, true, true, false, true, true, false, false, false, false, false, false, false, false, false, false, false, false, false, false, false, false, false] rfl rfl (any_of HT_.out (by kernel_rfl)) (fun _ _ _ h => h) (Or.inl ⟨by rfl, ?_⟩) ?_ ?_
                    rotate_left
                    ·intro w'
                     go_simp
                     with_reducible rfl
                    rotate_left
                    ·simp only [Act.put, List.setIfInBounds_toArray, List.set_cons_zero, List.set_cons_succ, i64_w, i32_w]
                     rfl
                    refine pure_ (i := 9) (N := some 95) (v := ?_) (a' := ?_) #[true, true, true, true, true, true, false, true, true, true, false, false, false, false, false, false, false, false, false, false, false, false, false, false, false, false] rfl rfl (any_of HT_.out (by kernel_rfl)) (fun _ _ _ h => h) (Or.inl ⟨by rfl, ?_⟩) ?_ ?_
                    rotate_left
                    ·intro w'
                     go_simp
                     with_reducible rfl
                    rotate_left
                    ·simp only [Act.put, List.setIfInBounds_toArray, List.set_cons_zero, List.set_cons_succ, i64_w, i32_w]
                     rfl
                    refine pure_ (i := 10) (N := some 96) (v := ?_) (a' := ?_) #[true, true, true, true, true, true, false, true, true, true, true, false, false, false, false, false, false, false, false, false, false, false, false, false, false, false] rfl rfl (any_of HT_.out (by kernel_rfl)) (fun _ _ _ h => h) (Or.inl ⟨by rfl, ?_⟩) ?_ ?_
                    rotate_left
                    ·intro w'
                     go_simp
                     with_reducible rfl
                    rotate_left
                    ·simp only [Act.put, List.setIfInBounds_toArray, List.set_cons_zero, List.set_cons_succ, i64_w, i32_w]
                     rfl
                    refine take_ (i := 6) (N := some 92) (v := ?_) (a' := ?_) #[true, true, true, true, true, true, true, true, true, true, true, false, false, false, false, false, false, false, false, false, false, false, false, false, false, false] rfl rfl (take_ofW HT_.out HW_.out (by kernel_rfl)) (fun _ _ _ h => h) (Or.inl ⟨by rfl, ?_⟩) hHeld ?_ ?_
                    rotate_left
                    ·rintro w' ⟨s0, s1, s2, s3, s4, s5, s6, s7, s8, s9, s10, s11, s12, s13, s14, s15, s16, s17, s18, s19, s20, s21, s22, s23, s24⟩
                     go_simp
                     with_reducible rfl
                    rotate_left
                    ·simp only [Act.put, List.setIfInBounds_toArray, List.set_cons_zero, List.set_cons_succ, i64_w, i32_w]
                     rfl
                    refine take_ (i := 11) (N := some 97) (v := ?_) (a' := ?_) #[true, true, true, true, true, true, true, true, true, true, true, true, false, false, false, false, false, false, false, false, false, false, false, false, false, false] rfl rfl (take_ofW HT_.out HW_.out (by kernel_rfl)) (fun _ _ _ h => h) (Or.inl ⟨by rfl, ?_⟩) hHeld ?_ ?_
                    rotate_left
                    ·rintro w' ⟨s0, s1, s2, s3, s4, s5, s6, s7, s8, s9, s10, s11, s12, s13, s14, s15, s16, s17, s18, s19, s20, s21, s22, s23, s24⟩
                     go_simp
                     with_reducible rfl
                    rotate_left
                    ·simp only [Act.put, List.setIfInBounds_toArray, List.set_cons_zero, List.set_cons_succ, i64_w, i32_w]
                     rfl
                    refine pure_ (i := 12) (N := some 98) (v := ?_) (a' := ?_) #[true, true, true, true, true, true, true, true, true, true, true, true, true, false, false, false, false, false, false, false, false, false, false, false, false, false] rfl rfl (any_of HT_.out (by kernel_rfl)) (fun _ _ _ h => h) (Or.inl ⟨by rfl, ?_⟩) ?_ ?_
                    rotate_left
                    ·intro w'
                     go_simp
                     with_reducible rfl
                    rotate_left
                    ·simp only [Act.put, List.setIfInBounds_toArray, List.set_cons_zero, List.set_cons_succ, i64_w, i32_w]
                     rfl
                    refine pure_ (i := 13) (N := some 99) (v := ?_) (a' := ?_) #[true, true, true, true, true, true, true, true, true, true, true, true, true, true, false, false, false, false, false, false, false, false, false, false, false, false] rfl rfl (any_of HT_.out (by kernel_rfl)) (fun _ _ _ h => h) (Or.inl ⟨by rfl, ?_⟩) ?_ ?_
                    rotate_left
                    ·intro w'
                     go_simp
                     with_reducible rfl
                    rotate_left
                    ·simp only [Act.put, List.setIfInBounds_toArray, List.set_cons_zero, List.set_cons_succ, i64_w, i32_w]
                     rfl
                    refine pure_ (i := 14) (N := some 100) (v := ?_) (a' := ?_) #[true, true, true, true, true, true, true, true, true, true, true, true, true, true, true, false, false, false, false, false, false, false, false, false, false, false] rfl rfl (any_of HT_.out (by kernel_rfl)) (fun _ _ _ h => h) (Or.inl ⟨by rfl, ?_⟩) ?_ ?_
                    rotate_left
                    ·intro w'
                     go_simp
                     with_reducible rfl
                    rotate_left
                    ·simp only [Act.put, List.setIfInBounds_toArray, List.set_cons_zero, List.set_cons_succ, i64_w, i32_w]
                     rfl
                    refine pure_ (i := 15) (N := some 101) (v := ?_) (a' := ?_) #[true, true, true, true, true, true, true, true, true, true, true, true, true, true, true, true, false, false, false, false, false, false, false, false, false, false] rfl rfl (any_of HT_.out (by kernel_rfl)) (fun _ _ _ h => h) (Or.inl ⟨by rfl, ?_⟩) ?_ ?_
                    rotate_left
                    ·intro w'
                     go_simp
                     with_reducible rfl
                    rotate_left
                    ·simp only [Act.put, List.setIfInBounds_toArray, List.set_cons_zero, List.set_cons_succ, i64_w, i32_w]
                     rfl
                    refine pure_ (i := 16) (N := some 102) (v := ?_) (a' := ?_) #[true, true, true, true, true, true, true, true, true, true, true, true, true, true, true, true, true, false, false, false, false, false, false, false, false, false] rfl rfl (any_of HT_.out (by kernel_rfl)) (fun _ _ _ h => h) (Or.inl ⟨by rfl, ?_⟩) ?_ ?_
                    rotate_left
                    ·intro w'
                     go_simp
                     with_reducible rfl
                    rotate_left
                    ·simp only [Act.put, List.setIfInBounds_toArray, List.set_cons_zero, List.set_cons_succ, i64_w, i32_w]
                     rfl
                    refine pure_ (i := 17) (N := some 103) (v := ?_) (a' := ?_) #[true, true, true, true, true, true, true, true, true, true, true, true, true, true, true, true, true, true, false, false, false, false, false, false, false, false] rfl rfl (any_of HT_.out (by kernel_rfl)) (fun _ _ _ h => h) (Or.inl ⟨by rfl, ?_⟩) ?_ ?_
                    rotate_left
                    ·intro w'
                     go_simp
                     with_reducible rfl
                    rotate_left
                    ·simp only [Act.put, List.setIfInBounds_toArray, List.set_cons_zero, List.set_cons_succ, i64_w, i32_w]
                     rfl
                    refine pure_ (i := 18) (N := some 104) (v := ?_) (a' := ?_) #[true, true, true, true, true, true, true, true, true, true, true, true, true, true, true, true, true, true, true, false, false, false, false, false, false, false] rfl rfl (any_of HT_.out (by kernel_rfl)) (fun _ _ _ h => h) (Or.inl ⟨by rfl, ?_⟩) ?_ ?_
                    rotate_left
                    ·intro w'
                     go_simp
                     with_reducible rfl
                    rotate_left
                    ·simp only [Act.put, List.setIfInBounds_toArray, List.set_cons_zero, List.set_cons_succ, i64_w, i32_w]
                     rfl
                    refine pure_ (i := 19) (N := some 105) (v := ?_) (a' := ?_) #[true, true, true, true, true, true, true, true, true, true, true, true, true, true, true, true, true, true, true, true, false, false, false, false, false, false] rfl rfl (any_of HT_.out (by kernel_rfl)) (fun _ _ _ h => h) (Or.inl ⟨by rfl, ?_⟩) ?_ ?_
                    rotate_left
                    ·intro w'
                     go_simp
                     with_reducible rfl
                    rotate_left
                    ·simp only [Act.put, List.setIfInBounds_toArray, List.set_cons_zero, List.set_cons_succ, i64_w, i32_w]
                     rfl
                    refine pure_ (i := 20) (N := some 106) (v := ?_) (a' := ?_) #[true, true, true, true, true, true, true, true, true, true, true, true, true, true, true, true, true, true, true, true, true, false, false, false, false, false] rfl rfl (any_of HT_.out (by kernel_rfl)) (fun _ _ _ h => h) (Or.inl ⟨by rfl, ?_⟩) ?_ ?_
                    rotate_left
                    ·intro w'
                     go_simp
                     with_reducible rfl
                    rotate_left
                    ·simp only [Act.put, List.setIfInBounds_toArray, List.set_cons_zero, List.set_cons_succ, i64_w, i32_w]
                     rfl
                    refine pure_ (i := 21) (N := some 107) (v := ?_) (a' := ?_) #[true, true, true, true, true, true, true, true, true, true, true, true, true, true, true, true, true, true, true, true, true, true, false, false, false, false] rfl rfl (any_of HT_.out (by kernel_rfl)) (fun _ _ _ h => h) (Or.inl ⟨by rfl, ?_⟩) ?_ ?_
                    rotate_left
                    ·intro w'
                     go_simp
                     with_reducible rfl
                    rotate_left
                    ·simp only [Act.put, List.setIfInBounds_toArray, List.set_cons_zero, List.set_cons_succ, i64_w, i32_w]
                     rfl
                    refine take_ (i := 22) (N := some 108) (v := ?_) (a' := ?_) #[true, true, true, true, true, true, true, true, true, true, true, true, true, true, true, true, true, true, true, true, true, true, true, false, false, false] rfl rfl (take_ofW HT_.out HW_.out (by kernel_rfl)) (fun _ _ _ h => h) (Or.inl ⟨by rfl, ?_⟩) hHeld ?_ ?_
                    rotate_left
                    ·rintro w' ⟨s0, s1, s2, s3, s4, s5, s6, s7, s8, s9, s10, s11, s12, s13, s14, s15, s16, s17, s18, s19, s20, s21, s22, s23, s24⟩
                     go_simp
                     with_reducible rfl
                    rotate_left
                    ·simp only [Act.put, List.setIfInBounds_toArray, List.set_cons_zero, List.set_cons_succ, i64_w, i32_w]
                     rfl
                    refine one_ (i := 23) (N := some 109) #[true, true, true, true, true, true, true, true, true, true, true, true, true, true, true, true, true, true, true, true, true, true, true, true, false, false] rfl rfl (one_of HT_.out (by kernel_rfl)) (by decide) (fun K hK => ?_)
                    refine goes_ Try.func72 (by kernel_rfl) rfl #[.slice (some ad9) t2.length co9, .string ((rd_T31 t2 x6_1).f0)] (by rfl) rfl rfl (by (try simp only [List.map_toArray, List.map_cons, List.map_nil]); first | done | rfl | (simp only [List.length_drop, List.length_take]; rfl)) ?_
                    with_reducible refine (tree_Depth.calls k3 _ _ t2 ((rd_T31 t2 x6_1).f0) t25 _ ?side1 ?side2 A66.out).mono ?_
                    (case side1 => repeat (first|exact (Kd.R_reads' HO_3.out).2.2|(with_reducible refine Kd.C_alloc ?_ _)|(with_reducible refine Kd.C_drewN ?_ _)|(with_reducible refine Kd.C_drew ?_)))
                    (case side2 => exact (Kd.R_reads' HO_3.out).2.1)
                    rintro e w73 ⟨rfl, hb⟩
                    have HS0_ := (hb.cell (World.block_lt_of_cell? _ _ (hHeld.1))).trans (hHeld.1)
                    have HS1_ := (hb.cell (World.block_lt_of_cell? _ _ (hHeld.2.1))).trans (hHeld.2.1)
                    have HS2_ := (hb.cell (World.block_lt_of_cell? _ _ (hHeld.2.2.1))).trans (hHeld.2.2.1)
                    have HS3_ := (hb.cell (World.block_lt_of_cell? _ _ (hHeld.2.2.2.1))).trans (hHeld.2.2.2.1)
                    have HS4_ := (hb.cell (World.block_lt_of_cell? _ _ (hHeld.2.2.2.2.1))).trans (hHeld.2.2.2.2.1)
                    have HS5_ := (hb.cell (World.block_lt_of_cell? _ _ (hHeld.2.2.2.2.2.1))).trans (hHeld.2.2.2.2.2.1)
                    have HS6_ := (hb.cell (World.block_lt_of_cell? _ _ (hHeld.2.2.2.2.2.2.1))).trans (hHeld.2.2.2.2.2.2.1)
                    have HS7_ := (hb.cell (World.block_lt_of_cell? _ _ (hHeld.2.2.2.2.2.2.2.1))).trans (hHeld.2.2.2.2.2.2.2.1)
                    have HS8_ := (hb.cell (World.block_lt_of_cell? _ _ (hHeld.2.2.2.2.2.2.2.2.1))).trans (hHeld.2.2.2.2.2.2.2.2.1)
                    have HS9_ := (hb.cell (World.block_lt_of_cell? _ _ (hHeld.2.2.2.2.2.2.2.2.2.1))).trans (hHeld.2.2.2.2.2.2.2.2.2.1)
                    have HS10_ := (hb.cell (World.block_lt_of_cell? _ _ (hHeld.2.2.2.2.2.2.2.2.2.2.1))).trans (hHeld.2.2.2.2.2.2.2.2.2.2.1)
                    have HS11_ := (hb.cell (World.block_lt_of_cell? _ _ (hHeld.2.2.2.2.2.2.2.2.2.2.2.1))).trans (hHeld.2.2.2.2.2.2.2.2.2.2.2.1)
                    have HS12_ := (hb.cell (World.block_lt_of_cell? _ _ (hHeld.2.2.2.2.2.2.2.2.2.2.2.2.1))).trans (hHeld.2.2.2.2.2.2.2.2.2.2.2.2.1)
                    have HS13_ := (hb.cell (World.block_lt_of_cell? _ _ (hHeld.2.2.2.2.2.2.2.2.2.2.2.2.2.1))).trans (hHeld.2.2.2.2.2.2.2.2.2.2.2.2.2.1)
                    have HS14_ := (hb.cell (World.block_lt_of_cell? _ _ (hHeld.2.2.2.2.2.2.2.2.2.2.2.2.2.2.1))).trans (hHeld.2.2.2.2.2.2.2.2.2.2.2.2.2.2.1)
                    have HS15_ := (hb.cell (World.block_lt_of_cell? _ _ (hHeld.2.2.2.2.2.2.2.2.2.2.2.2.2.2.2.1))).trans (hHeld.2.2.2.2.2.2.2.2.2.2.2.2.2.2.2.1)
                    have HS16_ := (hb.cell (World.block_lt_of_cell? _ _ (hHeld.2.2.2.2.2.2.2.2.2.2.2.2.2.2.2.2.1))).trans (hHeld.2.2.2.2.2.2.2.2.2.2.2.2.2.2.2.2.1)
                    have HS17_ := (hb.cell (World.block_lt_of_cell? _ _ (hHeld.2.2.2.2.2.2.2.2.2.2.2.2.2.2.2.2.2.1))).trans (hHeld.2.2.2.2.2.2.2.2.2.2.2.2.2.2.2.2.2.1)
                    have HS18_ := (hb.cell (World.block_lt_of_cell? _ _ (hHeld.2.2.2.2.2.2.2.2.2.2.2.2.2.2.2.2.2.2.1))).trans (hHeld.2.2.2.2.2.2.2.2.2.2.2.2.2.2.2.2.2.2.1)
                    have HS19_ := (hb.cell (World.block_lt_of_cell? _ _ (hHeld.2.2.2.2.2.2.2.2.2.2.2.2.2.2.2.2.2.2.2.1))).trans (hHeld.2.2.2.2.2.2.2.2.2.2.2.2.2.2.2.2.2.2.2.1)
                    have HS20_ := (hb.cell (World.block_lt_of_cell? _ _ (hHeld.2.2.2.2.2.2.2.2.2.2.2.2.2.2.2.2.2.2.2.2.1))).trans (hHeld.2.2.2.2.2.2.2.2.2.2.2.2.2.2.2.2.2.2.2.2.1)
                    have HS21_ := (hb.cell (World.block_lt_of_cell? _ _ (hHeld.2.2.2.2.2.2.2.2.2.2.2.2.2.2.2.2.2.2.2.2.2.1))).trans (hHeld.2.2.2.2.2.2.2.2.2.2.2.2.2.2.2.2.2.2.2.2.2.1)
                    have HS22_ := (hb.cell (World.block_lt_of_cell? _ _ (hHeld.2.2.2.2.2.2.2.2.2.2.2.2.2.2.2.2.2.2.2.2.2.2.1))).trans (hHeld.2.2.2.2.2.2.2.2.2.2.2.2.2.2.2.2.2.2.2.2.2.2.1)
                    have HS23_ := (hb.cell (World.block_lt_of_cell? _ _ (hHeld.2.2.2.2.2.2.2.2.2.2.2.2.2.2.2.2.2.2.2.2.2.2.2.1))).trans (hHeld.2.2.2.2.2.2.2.2.2.2.2.2.2.2.2.2.2.2.2.2.2.2.2.1)
                    have HS24_ := (hb.cell (World.block_lt_of_cell? _ _ (hHeld.2.2.2.2.2.2.2.2.2.2.2.2.2.2.2.2.2.2.2.2.2.2.2.2))).trans (hHeld.2.2.2.2.2.2.2.2.2.2.2.2.2.2.2.2.2.2.2.2.2.2.2.2)
                    refine ⟨_, rfl, ?_⟩
                    have n0_ := Aside0.mk (Kd.R_below (by (with_reducible repeat (first|apply Kd.R_alloc|apply Kd.R_drewN|apply Kd.R_drew));exact HO_3.out) hb)
                    have n1_ := Aside0.mk (Kd.R_below (by (with_reducible repeat (first|apply Kd.R_alloc|apply Kd.R_drewN|apply Kd.R_drew));exact HO_7.out) hb)
                    have n2_ := Aside0.mk (blk_below (g := gb6) (o := .cells #[.int .i64 t10, .int .i64 t11, .int .i64 t12] 27 (0, 0)) (by (with_reducible repeat (first|refine blk_drewN ?_ _|refine blk_drew ?_|refine blk_alloc ?_ _));exact BK6.out) hb)
                    have n3_ := Aside0.mk (blk_below (g := gb7) (o := .cells #[.int .i64 x8000_15, .int .i64 x8001_15, .int .i64 x8002_15] 27 (0, 0)) (by (with_reducible repeat (first|refine blk_drewN ?_ _|refine blk_drew ?_|refine blk_alloc ?_ _));exact BK7.out) hb)
                    have n4_ := Aside0.mk (below_step (by repeat (first|(with_reducible first|exact HB.out|apply below_alloc|apply pw_below_drewN|apply below_drew1|refine below_set ?_ GE6.out|refine below_set ?_ GE7.out)|exact HB.out)) hb)
                    clear HO_3
                    clear HO_7
                    clear BK6
                    clear BK7
                    clear HB
                    have HO_3 := n0_
                    have HO_7 := n1_
                    have BK6 := n2_
                    have BK7 := n3_
                    have HB := n4_
                    clear n0_ n1_ n2_ n3_ n4_
                    (try clear hb)
                    (try clear hb2)
                    (try clear hk)
                    (try clear hi)
                    refine hK.out _ _ ⟨HS0_, HS1_, HS2_, HS3_, HS4_, HS5_, HS6_, HS7_, HS8_, HS9_, HS10_, HS11_, HS12_, HS13_, HS14_, HS15_, HS16_, HS17_, HS18_, HS19_, HS20_, HS21_, HS22_, HS23_, HS24_⟩ (fun hHeld => ?_)
                    clear hK K
                    refine norm_ (a' := ?_) ?_ ?_
                    rotate_left
                    ·show Act.put _ (some 109) _ = _
                     simp only [Act.put, List.setIfInBounds_toArray, List.set_cons_zero, List.set_cons_succ, i64_w, i32_w]
                     rfl
                    refine pure_ (i := 24) (N := some 110) (v := ?_) (a' := ?_) #[true, true, true, true, true, true, true, true, true, true, true, true, true, true, true, true, true, true, true, true, true, true, true, true, true, false] rfl rfl (any_of HT_.out (by kernel_rfl)) (fun _ _ _ h => h) (Or.inl ⟨by rfl, ?_⟩) ?_ ?_
                    rotate_left
                    ·intro w'
                     go_simp
                     with_reducible rfl
                    rotate_left
                    ·simp only [Act.put, List.setIfInBounds_toArray, List.set_cons_zero, List.set_cons_succ, i64_w, i32_w]
                     rfl
                    refine pure_ (i := 25) (N := some 111) (v := ?_) (a' := ?_) #[true, true, true, true, true, true, true, true, true, true, true, true, true, true, true, true, true, true, true, true, true, true, true, true, true, true] rfl rfl (any_of HT_.out (by kernel_rfl)) (fun _ _ _ h => h) (Or.inl ⟨by rfl, ?_⟩) ?_ ?_
                    rotate_left
                    ·intro w'
                     go_simp
                     with_reducible rfl
                    rotate_left
                    ·simp only [Act.put, List.setIfInBounds_toArray, List.set_cons_zero, List.set_cons_succ, i64_w, i32_w]
                     rfl
                    refine done_ (done_of HT_.out (by kernel_rfl)) ?_
                    try go_wp2
                    go_ret
                    exact ⟨by first|rfl|(simp [errW_none, errW_some] <;> rfl)|(simp [*, errW_none, errW_some] <;> rfl), by repeat (first|(with_reducible first|exact HB.out|apply below_alloc|apply pw_below_drewN|apply below_drew1|refine below_set ?_ GE6.out|refine below_set ?_ GE7.out)|exact HB.out)⟩
                  ·rw [if_neg c65] at H
                   have c65b0 : ((rdOf ByteArray.empty t19 0).toList == ((rd_T31 t2 x6_1).f0).toList) = false := beq_eq_false_iff_ne.mpr c65
                   have c65b1 : ((rdOf ByteArray.empty t19 0).toList != ((rd_T31 t2 x6_1).f0).toList) = true := bne_iff_ne.mpr c65
                   obtain rfl := Option.some.inj H
                   obtain ⟨Ao74, co74, eo74⟩ := Kd.R_slice HO_7.out
                   subst eo74
                   try go_wp2
                   have n0_ := Aside0.mk (Kd.R_drew HO_3.out)
                   have n1_ := Aside0.mk (Kd.R_drew HO_7.out)
                   have n2_ := Aside0.mk (blk_drew BK6.out)
                   have n3_ := Aside0.mk (blk_drew BK7.out)
                   have n4_ := Aside0.mk (below_drew1 HB.out)
                   clear HO_3
                   clear HO_7
                   clear BK6
                   clear BK7
                   clear HB
                   have HO_3 := n0_
                   have HO_7 := n1_
                   have BK6 := n2_
                   have BK7 := n3_
                   have HB := n4_
                   clear n0_ n1_ n2_ n3_ n4_
                   have p22 : 0 ≤ (0 : Int) := (by omega)
                   have q22 : 0 < (t19.length : Int) := of_decide_eq_true (by first|(with_reducible assumption)|assumption)
                   obtain ⟨ad22, e22, hx22_0⟩ := Kd.at_string (Kd.R_reads' HO_7.out).2.2 0 p22 q22
                   cases e22
                   have qi22 : (0 < t19.length) = True := eq_true (by omega)
                   (try rw [show ((0 : Int)).toNat = 0 from rfl] at hx22_0)
                   (try rw [Addr.add_zero'] at hx22_0)
                   replace p22 := eq_true p22
                   replace q22 := eq_true q22
                   have p23 : 0 ≤ (x6_1 : Int) := of_decide_eq_true (by first|(with_reducible assumption)|assumption)
                   have q23 : x6_1 < (t2.length : Int) := of_decide_eq_true (by first|(with_reducible assumption)|assumption)
                   obtain ⟨ad23, e23, hx23_0, hx23_1, hx23_2, hx23_3, hx23_4, hx23_5, hx23_6, hx23_7, hx23_8, hx23_9, hx23_10, hx23_11⟩ := at_T31 (Kd.R_reads' HO_3.out).2.2 x6_1 p23 q23
                   obtain rfl : ad9 = ad23 := (by injection e23)
                   replace p23 := eq_true p23
                   replace q23 := eq_true q23
                   refine start_ (n := 26) (S := fun w' => w'.cell? ad22 = some (.string (rdOf ByteArray.empty t19 0)) ∧ w'.cell? (ad9.add ((x6_1).toNat * 12)) = some (.string ((rd_T31 t2 x6_1).f0)) ∧ w'.cell? ⟨(ad9.add ((x6_1).toNat * 12)).block, (ad9.add ((x6_1).toNat * 12)).off + 1, none⟩ = some (.string ((rd_T31 t2 x6_1).f1)) ∧ w'.cell? ⟨(ad9.add ((x6_1).toNat * 12)).block, (ad9.add ((x6_1).toNat * 12)).off + 2, none⟩ = some (.int .i64 ((rd_T31 t2 x6_1).f2.f0)) ∧ w'.cell? ⟨(ad9.add ((x6_1).toNat * 12)).block, (ad9.add ((x6_1).toNat * 12)).off + 3, none⟩ = some (.int .i64 ((rd_T31 t2 x6_1).f2.f1)) ∧ w'.cell? ⟨(ad9.add ((x6_1).toNat * 12)).block, (ad9.add ((x6_1).toNat * 12)).off + 4, none⟩ = some (.int .i64 ((rd_T31 t2 x6_1).f2.f2)) ∧ w'.cell? ⟨(ad9.add ((x6_1).toNat * 12)).block, (ad9.add ((x6_1).toNat * 12)).off + 5, none⟩ = some (.int .i64 ((rd_T31 t2 x6_1).f3.f0)) ∧ w'.cell? ⟨(ad9.add ((x6_1).toNat * 12)).block, (ad9.add ((x6_1).toNat * 12)).off + 6, none⟩ = some (.int .i64 ((rd_T31 t2 x6_1).f3.f1)) ∧ w'.cell? ⟨(ad9.add ((x6_1).toNat * 12)).block, (ad9.add ((x6_1).toNat * 12)).off + 7, none⟩ = some (.int .i64 ((rd_T31 t2 x6_1).f3.f2)) ∧ w'.cell? ⟨(ad9.add ((x6_1).toNat * 12)).block, (ad9.add ((x6_1).toNat * 12)).off + 8, none⟩ = some (.int .i64 ((rd_T31 t2 x6_1).f4.f0)) ∧ w'.cell? ⟨(ad9.add ((x6_1).toNat * 12)).block, (ad9.add ((x6_1).toNat * 12)).off + 9, none⟩ = some (.int .i64 ((rd_T31 t2 x6_1).f4.f1)) ∧ w'.cell? ⟨(ad9.add ((x6_1).toNat * 12)).block, (ad9.add ((x6_1).toNat * 12)).off + 10, none⟩ = some (.int .i64 ((rd_T31 t2 x6_1).f4.f2)) ∧ w'.cell? ⟨(ad9.add ((x6_1).toNat * 12)).block, (ad9.add ((x6_1).toNat * 12)).off + 11, none⟩ = some (.int .i64 ((rd_T31 t2 x6_1).f5))) (ds := []) #[false, false, false, false, false, false, false, false, false, false, false, false, false, false, false, false, false, false, false, false, false, false, false, false, false, false] (by kernel_rfl) rfl rfl ⟨hx22_0, hx23_0, hx23_1, hx23_2, hx23_3, hx23_4, hx23_5, hx23_6, hx23_7, hx23_8, hx23_9, hx23_10, hx23_11⟩ (fun hHeld => ?_); refine with_tabW law12_TreeSums.tab20 law12_TreeSums.bits20 (fun HT_ HW_ => ?_)
                   generalize wr.drew = w75 at HO_3 HO_7 BK6 BK7 HB hx22_0 hx23_0 hx23_1 hx23_10 hx23_11 hx23_2 hx23_3 hx23_4 hx23_5 hx23_6 hx23_7 hx23_8 hx23_9 hHeld ⊢
                   refine pure_ (i := 0) (N := some 86) (v := ?_) (a' := ?_) #[true, false, false, false, false, false, false, false, false, false, false, false, false, false, false, false, false, false, false, false, false, false, false, false, false, false] rfl rfl (any_of HT_.out (by kernel_rfl)) (fun _ _ _ h => h) (Or.inl ⟨by rfl, ?_⟩) ?_ ?_
                   rotate_left
                   ·intro w'
                    go_simp
                    with_reducible rfl
                   rotate_left
                   ·simp only [Act.put, List.setIfInBounds_toArray, List.set_cons_zero, List.set_cons_succ, i64_w, i32_w]
                    rfl
                   refine pure_ (i := 1) (N := some 87) (v := ?_) (a' := ?_) #[true, true, false, false, false, false, false, false, false, false, false, false, false, false, false, false, false, false, false, false, false, false, false, false, false, false] rfl rfl (any_of HT_.out (by kernel_rfl)) (fun _ _ _ h => h) (Or.inl ⟨by rfl, ?_⟩) ?_ ?_
                   rotate_left
                   ·intro w'
                    go_simp
                    with_reducible rfl
                   rotate_left
                   ·simp only [Act.put, List.setIfInBounds_toArray, List.set_cons_zero, List.set_cons_succ, i64_w, i32_w]
                    rfl
                   refine pure_ (i := 2) (N := some 88) (v := ?_) (a' := ?_) #[true, true, true, false, false, false, false, false, false, false, false, false, false, false, false, false, false, false, false, false, false, false, false, false, false, false] rfl rfl (any_of HT_.out (by kernel_rfl)) (fun _ _ _ h => h) (Or.inl ⟨by rfl, ?_⟩) ?_ ?_
                   rotate_left
                   ·intro w'
                    go_simp
                    with_reducible rfl
                   rotate_left
                   ·simp only [Act.put, List.setIfInBounds_toArray, List.set_cons_zero, List.set_cons_succ, i64_w, i32_w]
                    rfl
                   refine pure_ (i := 3) (N := some 89) (v := ?_) (a' := ?_) #[true, true, true, true, false, false, false, false, false, false, false, false, false, false, false, false, false, false, false, false, false, false, false, false, false, false] rfl rfl (any_of HT_.out (by kernel_rfl)) (fun _ _ _ h => h) (Or.inl ⟨by rfl, ?_⟩) ?_ ?_
                   rotate_left
                   ·intro w'
                    go_simp
                    with_reducible rfl
                   rotate_left
                   ·simp only [Act.put, List.setIfInBounds_toArray, List.set_cons_zero, List.set_cons_succ, i64_w, i32_w]
                    rfl
                   refine pure_ (i := 4) (N := some 90) (v := ?_) (a' := ?_) #[true, true, true, true, true, false, false, false, false, false, false, false, false, false, false, false, false, false, false, false, false, false, false, false, false, false] rfl rfl (any_of HT_.out (by kernel_rfl)) (fun _ _ _ h => h) (Or.inl ⟨by rfl, ?_⟩) ?_ ?_
                   rotate_left
                   ·intro w'
                    go_simp
                    with_reducible rfl
                   rotate_left
                   ·simp only [Act.put, List.setIfInBounds_toArray, List.set_cons_zero, List.set_cons_succ, i64_w, i32_w]
                    rfl
                   refine pure_ (i := 5) (N := some 91) (v := ?_) (a' := ?_) #[true, true, true, true, true, true, false, false, false, false, false, false, false, false, false, false, false, false, false, false, false, false, false, false, false, false] rfl rfl (any_of HT_.out (by kernel_rfl)) (fun _ _ _ h => h) (Or.inl ⟨by rfl, ?_⟩) ?_ ?_
                   rotate_left
                   ·intro w'
                    go_simp
                    with_reducible rfl
                   rotate_left
                   ·simp only [Act.put, List.setIfInBounds_toArray, List.set_cons_zero, List.set_cons_succ, i64_w, i32_w]
                    rfl
                   refine pure_ (i := 7) (N := some 93) (v := ?_) (a' := ?_) #[true, true, true, true, true, true, false, true, false, false, false, false, false, false, false, false, false, false, false, false, false, false, false, false, false, false] rfl rfl (any_of HT_.out (by kernel_rfl)) (fun _ _ _ h => h) (Or.inl ⟨by rfl, ?_⟩) ?_ ?_
                   rotate_left
                   ·intro w'
                    go_simp
                    with_reducible rfl
                   rotate_left
                   ·simp only [Act.put, List.setIfInBounds_toArray, List.set_cons_zero, List.set_cons_succ, i64_w, i32_w]
                    rfl
                   refine pure_ (i := 8) (N := some 94) (v := ?_) (a' := ?_) #[true, true, true, true, true, true, false, true, true, false, false, false, false, false, false, false, false, false, false, false, false, false, false, false, false, false] rfl rfl (any_of HT_.out (by kernel_rfl)) (fun _ _ _ h => h) (Or.inl ⟨by rfl, ?_⟩) ?_ ?_
                   rotate_left
                   ·intro w'
                    go_simp
                    with_reducible rfl
                   rotate_left
                   ·simp only [Act.put, List.setIfInBounds_toArray, List.set_cons_zero, List.set_cons_succ, i64_w, i32_w]
                    rfl
                   refine pure_ (i := 9) (N := some 95) (v := ?_) (a' := ?_) #[true, true, true, true, true, true, false, true, true, true, false, false, false, false, false, false, false, false, false, false, false, false, false, false, false, false] rfl rfl (any_of HT_.out (by kernel_rfl)) (fun _ _ _ h => h) (Or.inl ⟨by rfl, ?_⟩) ?_ ?_
                   rotate_left
                   ·intro w'
                    go_simp
                    with_reducible rfl
                   rotate_left
                   ·simp only [Act.put, List.setIfInBounds_toArray, List.set_cons_zero, List.set_cons_succ, i64_w, i32_w]
                    rfl
                   refine pure_ (i := 10) (N := some 96) (v := ?_) (a' := ?_) #[true, true, true, true, true, true, false, true, true, true, true, false, false, false, false, false, false, false, false, false, false, false, false, false, false, false] rfl rfl (any_of HT_.out (by kernel_rfl)) (fun _ _ _ h => h) (Or.inl ⟨by rfl, ?_⟩) ?_ ?_
                   rotate_left
                   ·intro w'
                    go_simp
                    with_reducible rfl
                   rotate_left
                   ·simp only [Act.put, List.setIfInBounds_toArray, List.set_cons_zero, List.set_cons_succ, i64_w, i32_w]
                    rfl
                   refine take_ (i := 6) (N := some 92) (v := ?_) (a' := ?_) #[true, true, true, true, true, true, true, true, true, true, true, false, false, false, false, false, false, false, false, false, false, false, false, false, false, false] rfl rfl (take_ofW HT_.out HW_.out (by kernel_rfl)) (fun _ _ _ h => h) (Or.inl ⟨by rfl, ?_⟩) hHeld ?_ ?_
                   rotate_left
                   ·rintro w' ⟨s0, s1, s2, s3, s4, s5, s6, s7, s8, s9, s10, s11, s12⟩
                    go_simp
                    with_reducible rfl
                   rotate_left
                   ·simp only [Act.put, List.setIfInBounds_toArray, List.set_cons_zero, List.set_cons_succ, i64_w, i32_w]
                    rfl
                   refine take_ (i := 11) (N := some 97) (v := ?_) (a' := ?_) #[true, true, true, true, true, true, true, true, true, true, true, true, false, false, false, false, false, false, false, false, false, false, false, false, false, false] rfl rfl (take_ofW HT_.out HW_.out (by kernel_rfl)) (fun _ _ _ h => h) (Or.inl ⟨by rfl, ?_⟩) hHeld ?_ ?_
                   rotate_left
                   ·rintro w' ⟨s0, s1, s2, s3, s4, s5, s6, s7, s8, s9, s10, s11, s12⟩
                    go_simp
                    with_reducible rfl
                   rotate_left
                   ·simp only [Act.put, List.setIfInBounds_toArray, List.set_cons_zero, List.set_cons_succ, i64_w, i32_w]
                    rfl
                   refine pure_ (i := 12) (N := some 98) (v := ?_) (a' := ?_) #[true, true, true, true, true, true, true, true, true, true, true, true, true, false, false, false, false, false, false, false, false, false, false, false, false, false] rfl rfl (any_of HT_.out (by kernel_rfl)) (fun _ _ _ h => h) (Or.inl ⟨by rfl, ?_⟩) ?_ ?_
                   rotate_left
                   ·intro w'
                    go_simp
                    with_reducible rfl
                   rotate_left
                   ·simp only [Act.put, List.setIfInBounds_toArray, List.set_cons_zero, List.set_cons_succ, i64_w, i32_w]
                    rfl
                   refine pure_ (i := 13) (N := some 99) (v := ?_) (a' := ?_) #[true, true, true, true, true, true, true, true, true, true, true, true, true, true, false, false, false, false, false, false, false, false, false, false, false, false] rfl rfl (any_of HT_.out (by kernel_rfl)) (fun _ _ _ h => h) (Or.inl ⟨by rfl, ?_⟩) ?_ ?_
                   rotate_left
                   ·intro w'
                    go_simp
                    with_reducible rfl
                   rotate_left
                   ·simp only [Act.put, List.setIfInBounds_toArray, List.set_cons_zero, List.set_cons_succ, i64_w, i32_w]
                    rfl
                   refine pure_ (i := 14) (N := some 100) (v := ?_) (a' := ?_) #[true, true, true, true, true, true, true, true, true, true, true, true, true, true, true, false, false, false, false, false, false, false, false, false, false, false] rfl rfl (any_of HT_.out (by kernel_rfl)) (fun _ _ _ h => h) (Or.inl ⟨by rfl, ?_⟩) ?_ ?_
                   rotate_left
                   ·intro w'
                    go_simp
                    with_reducible rfl
                   rotate_left
                   ·simp only [Act.put, List.setIfInBounds_toArray, List.set_cons_zero, List.set_cons_succ, i64_w, i32_w]
                    rfl
                   refine pure_ (i := 15) (N := some 101) (v := undef) (a' := ?_) #[true, true, true, true, true, true, true, true, true, true, true, true, true, true, true, true, false, false, false, false, false, false, false, false, false, false] rfl rfl (any_of HT_.out (by kernel_rfl)) (fun _ _ _ h => h) (Or.inr ⟨by rfl, rfl⟩) ?_ ?_
                   rotate_left
                   ·simp only [Act.put, List.setIfInBounds_toArray, List.set_cons_zero, List.set_cons_succ, i64_w, i32_w]
                    rfl
                   refine pure_ (i := 16) (N := some 102) (v := undef) (a' := ?_) #[true, true, true, true, true, true, true, true, true, true, true, true, true, true, true, true, true, false, false, false, false, false, false, false, false, false] rfl rfl (any_of HT_.out (by kernel_rfl)) (fun _ _ _ h => h) (Or.inr ⟨by rfl, rfl⟩) ?_ ?_
                   rotate_left
                   ·simp only [Act.put, List.setIfInBounds_toArray, List.set_cons_zero, List.set_cons_succ, i64_w, i32_w]
                    rfl
                   refine pure_ (i := 17) (N := some 103) (v := undef) (a' := ?_) #[true, true, true, true, true, true, true, true, true, true, true, true, true, true, true, true, true, true, false, false, false, false, false, false, false, false] rfl rfl (any_of HT_.out (by kernel_rfl)) (fun _ _ _ h => h) (Or.inr ⟨by rfl, rfl⟩) ?_ ?_
                   rotate_left
                   ·simp only [Act.put, List.setIfInBounds_toArray, List.set_cons_zero, List.set_cons_succ, i64_w, i32_w]
                    rfl
                   refine pure_ (i := 18) (N := some 104) (v := undef) (a' := ?_) #[true, true, true, true, true, true, true, true, true, true, true, true, true, true, true, true, true, true, true, false, false, false, false, false, false, false] rfl rfl (any_of HT_.out (by kernel_rfl)) (fun _ _ _ h => h) (Or.inr ⟨by rfl, rfl⟩) ?_ ?_
                   rotate_left
                   ·simp only [Act.put, List.setIfInBounds_toArray, List.set_cons_zero, List.set_cons_succ, i64_w, i32_w]
                    rfl
                   refine pure_ (i := 19) (N := some 105) (v := undef) (a' := ?_) #[true, true, true, true, true, true, true, true, true, true, true, true, true, true, true, true, true, true, true, true, false, false, false, false, false, false] rfl rfl (any_of HT_.out (by kernel_rfl)) (fun _ _ _ h => h) (Or.inr ⟨by rfl, rfl⟩) ?_ ?_
                   rotate_left
                   ·simp only [Act.put, List.setIfInBounds_toArray, List.set_cons_zero, List.set_cons_succ, i64_w, i32_w]
                    rfl
                   refine pure_ (i := 20) (N := some 106) (v := undef) (a' := ?_) #[true, true, true, true, true, true, true, true, true, true, true, true, true, true, true, true, true, true, true, true, true, false, false, false, false, false] rfl rfl (any_of HT_.out (by kernel_rfl)) (fun _ _ _ h => h) (Or.inr ⟨by rfl, rfl⟩) ?_ ?_
                   rotate_left
                   ·simp only [Act.put, List.setIfInBounds_toArray, List.set_cons_zero, List.set_cons_succ, i64_w, i32_w]
                    rfl
                   refine pure_ (i := 21) (N := some 107) (v := undef) (a' := ?_) #[true, true, true, true, true, true, true, true, true, true, true, true, true, true, true, true, true, true, true, true, true, true, false, false, false, false] rfl rfl (any_of HT_.out (by kernel_rfl)) (fun _ _ _ h => h) (Or.inr ⟨by rfl, rfl⟩) ?_ ?_
                   rotate_left
                   ·simp only [Act.put, List.setIfInBounds_toArray, List.set_cons_zero, List.set_cons_succ, i64_w, i32_w]
                    rfl
                   refine pure_ (i := 22) (N := some 108) (v := undef) (a' := ?_) #[true, true, true, true, true, true, true, true, true, true, true, true, true, true, true, true, true, true, true, true, true, true, true, false, false, false] rfl rfl (any_of HT_.out (by kernel_rfl)) (fun _ _ _ h => h) (Or.inr ⟨by rfl, rfl⟩) ?_ ?_
                   rotate_left
                   ·simp only [Act.put, List.setIfInBounds_toArray, List.set_cons_zero, List.set_cons_succ, i64_w, i32_w]
                    rfl
                   refine pure_ (i := 23) (N := some 109) (v := undef) (a' := ?_) #[true, true, true, true, true, true, true, true, true, true, true, true, true, true, true, true, true, true, true, true, true, true, true, true, false, false] rfl rfl (any_of HT_.out (by kernel_rfl)) (fun _ _ _ h => h) (Or.inr ⟨by rfl, rfl⟩) ?_ ?_
                   rotate_left
                   ·simp only [Act.put, List.setIfInBounds_toArray, List.set_cons_zero, List.set_cons_succ, i64_w, i32_w]
                    rfl
                   refine pure_ (i := 24) (N := some 110) (v := undef) (a' := ?_) #[true, true, true, true, true, true, true, true, true, true, true, true, true, true, true, true, true, true, true, true, true, true, true, true, true, false] rfl rfl (any_of HT_.out (by kernel_rfl)) (fun _ _ _ h => h) (Or.inr ⟨by rfl, rfl⟩) ?_ ?_
                   rotate_left
                   ·simp only [Act.put, List.setIfInBounds_toArray, List.set_cons_zero, List.set_cons_succ, i64_w, i32_w]
                    rfl
                   refine pure_ (i := 25) (N := some 111) (v := ?_) (a' := ?_) #[true, true, true, true, true, true, true, true, true, true, true, true, true, true, true, true, true, true, true, true, true, true, true, true, true, true] rfl rfl (any_of HT_.out (by kernel_rfl)) (fun _ _ _ h => h) (Or.inl ⟨by rfl, ?_⟩) ?_ ?_
                   rotate_left
                   ·intro w'
                    go_simp
                    with_reducible rfl
                   rotate_left
                   ·simp only [Act.put, List.setIfInBounds_toArray, List.set_cons_zero, List.set_cons_succ, i64_w, i32_w]
                    rfl
                   refine done_ (done_of HT_.out (by kernel_rfl)) ?_
                   try go_wp2
                   go_ret
                   exact ⟨by first|rfl|(simp [errW_none, errW_some] <;> rfl)|(simp [*, errW_none, errW_some] <;> rfl), by repeat (first|(with_reducible first|exact HB.out|apply below_alloc|apply pw_below_drewN|apply below_drew1|refine below_set ?_ GE6.out|refine below_set ?_ GE7.out)|exact HB.out)⟩
                 ·rw [if_neg c64] at H
                  exact absurd H (by simp)
                ·rw [if_neg c63] at H
                 exact absurd H (by simp)
               ·rw [if_neg c62] at H
                exact absurd H (by simp)
          ·rw [if_neg c31] at H
           exact absurd H (by simp)
         ·rw [if_neg c30] at H
          exact absurd H (by simp)
      ·rw [if_neg c14] at H
       exact absurd H (by simp)
     ·rw [if_neg c13] at H
      have c13b0 : decide (x6_1 < (t2.length : Int)) = false := decide_eq_false c13
      clear c13
      by_cases c76 : (x7000_1 == x8000_1 && (x7001_1 == x8001_1 && (x7002_1 == x8002_1))) = true
      ·rw [if_pos c76] at H
       have c76b0 : (x7000_1 == x8000_1 && (x7001_1 == x8001_1 && (x7002_1 == x8002_1))) = true := c76
       (try (have c76b1 : decide (x7000_1 = x8000_1 && (x7001_1 == x8001_1 && (x7002_1 == x8002_1))) = true := by simpa using c76))
       (try (have c76b2 : (x7000_1 == x8000_1 && (x7001_1 == x8001_1 && (x7002_1 == x8002_1))) = true := by simpa using c76))
       clear c76
       replace H := Option.bind_eq_some_iff.mp H
       obtain ⟨t8, A770, H⟩ := H
       replace H : (some t8) = some r := H
       have A77 := Aside0.mk A770
       clear A770
       obtain rfl := Option.some.inj H
       have hnb78 := NB6_7.out
       have hnc78 := NB7_6.out
       have hcz79_0 : wr.cell? ⟨gb6, 0, none⟩ = some (.int .i64 x7000_1) := (blk_cell BK6.out 0).trans rfl
       have hcz79_1 : wr.cell? ⟨gb6, 1, none⟩ = some (.int .i64 x7001_1) := (blk_cell BK6.out 1).trans rfl
       have hcz79_2 : wr.cell? ⟨gb6, 2, none⟩ = some (.int .i64 x7002_1) := (blk_cell BK6.out 2).trans rfl
       have hfz79_0 := blk_frozen BK6.out 0
       have hfz79_1 := blk_frozen BK6.out 1
       have hfz79_2 := blk_frozen BK6.out 2
       have hcz80_0 : wr.cell? ⟨gb7, 0, none⟩ = some (.int .i64 x8000_1) := (blk_cell BK7.out 0).trans rfl
       have hcz80_1 : wr.cell? ⟨gb7, 1, none⟩ = some (.int .i64 x8001_1) := (blk_cell BK7.out 1).trans rfl
       have hcz80_2 : wr.cell? ⟨gb7, 2, none⟩ = some (.int .i64 x8002_1) := (blk_cell BK7.out 2).trans rfl
       have hfz80_0 := blk_frozen BK7.out 0
       have hfz80_1 := blk_frozen BK7.out 1
       have hfz80_2 := blk_frozen BK7.out 2
       go_wp2_with (first|(go_at_call 67;(with_reducible refine (law12_awake.calls k1  t8 _ A77.out).mono ?_);rintro e w81 ⟨rfl, hb⟩;have n0_ := Aside0.mk (Kd.R_below (by (with_reducible repeat (first|apply Kd.R_alloc|apply Kd.R_drewN|apply Kd.R_drew));exact HO_3.out) hb);have n1_ := Aside0.mk (blk_below (g := gb6) (o := .cells #[.int .i64 x7000_1, .int .i64 x7001_1, .int .i64 x7002_1] 27 (0, 0)) (by (with_reducible repeat (first|refine blk_drewN ?_ _|refine blk_drew ?_|refine blk_alloc ?_ _));exact BK6.out) hb);have n2_ := Aside0.mk (blk_below (g := gb7) (o := .cells #[.int .i64 x8000_1, .int .i64 x8001_1, .int .i64 x8002_1] 27 (0, 0)) (by (with_reducible repeat (first|refine blk_drewN ?_ _|refine blk_drew ?_|refine blk_alloc ?_ _));exact BK7.out) hb);have n3_ := Aside0.mk (below_step (by repeat (first|(with_reducible first|exact HB.out|apply below_alloc|apply pw_below_drewN|apply below_drew1|refine below_set ?_ GE6.out|refine below_set ?_ GE7.out)|exact HB.out)) hb);clear HO_3;clear BK6;clear BK7;clear HB;have HO_3 := n0_;have BK6 := n1_;have BK7 := n2_;have HB := n3_;clear n0_ n1_ n2_ n3_;(try clear hb);(try clear hb2);(try clear hk);(try clear hi)))
       go_ret
       exact ⟨by first|rfl|(simp [errW_none, errW_some] <;> rfl)|(simp [*, errW_none, errW_some] <;> rfl), by repeat (first|(with_reducible first|exact HB.out|apply below_alloc|apply pw_below_drewN|apply below_drew1|refine below_set ?_ GE6.out|refine below_set ?_ GE7.out)|exact HB.out)⟩
      ·rw [if_neg c76] at H
       have c76b0 : (x7000_1 == x8000_1 && (x7001_1 == x8001_1 && (x7002_1 == x8002_1))) = false := by simpa using c76
       (try (have c76b1 : decide (x7000_1 = x8000_1 && (x7001_1 == x8001_1 && (x7002_1 == x8002_1))) = false := by simpa using c76))
       (try (have c76b2 : (x7000_1 == x8000_1 && (x7001_1 == x8001_1 && (x7002_1 == x8002_1))) = false := by simpa using c76))
       (try (have c76b3 : ¬ (x7000_1 = x8000_1 && (x7001_1 == x8001_1 && (x7002_1 == x8002_1))) := by simpa using c76))
       clear c76
       obtain rfl := Option.some.inj H
       have hnb82 := NB6_7.out
       have hnc82 := NB7_6.out
       have hcz83_0 : wr.cell? ⟨gb6, 0, none⟩ = some (.int .i64 x7000_1) := (blk_cell BK6.out 0).trans rfl
       have hcz83_1 : wr.cell? ⟨gb6, 1, none⟩ = some (.int .i64 x7001_1) := (blk_cell BK6.out 1).trans rfl
       have hcz83_2 : wr.cell? ⟨gb6, 2, none⟩ = some (.int .i64 x7002_1) := (blk_cell BK6.out 2).trans rfl
       have hfz83_0 := blk_frozen BK6.out 0
       have hfz83_1 := blk_frozen BK6.out 1
       have hfz83_2 := blk_frozen BK6.out 2
       have hcz84_0 : wr.cell? ⟨gb7, 0, none⟩ = some (.int .i64 x8000_1) := (blk_cell BK7.out 0).trans rfl
       have hcz84_1 : wr.cell? ⟨gb7, 1, none⟩ = some (.int .i64 x8001_1) := (blk_cell BK7.out 1).trans rfl
       have hcz84_2 : wr.cell? ⟨gb7, 2, none⟩ = some (.int .i64 x8002_1) := (blk_cell BK7.out 2).trans rfl
       have hfz84_0 := blk_frozen BK7.out 0
       have hfz84_1 := blk_frozen BK7.out 1
       have hfz84_2 := blk_frozen BK7.out 2
       go_wp2
       go_ret
       exact ⟨by first|rfl|(simp [errW_none, errW_some] <;> rfl)|(simp [*, errW_none, errW_some] <;> rfl), by repeat (first|(with_reducible first|exact HB.out|apply below_alloc|apply pw_below_drewN|apply below_drew1|refine below_set ?_ GE6.out|refine below_set ?_ GE7.out)|exact HB.out)⟩
  ·replace c7 := Bool.eq_false_iff.mpr c7
   subst c7
   have H1 : (some false) = some r := by rw [if_neg (show ¬ (false = true) by decide)] at H; exact H
   clear H
   have H := H1
   clear H1
   obtain rfl := Option.some.inj H
   go_enter Try.func13, Try.ntmps13
   go_wp2_with (first|((with_reducible refine gate_callee (f := 32) rfl ?_);refine goesL_ (some 15) rfl rfl Try.func32 (by kernel_rfl) rfl #[.slice A0 l0.length c0] rfl (by (try simp only [List.map_toArray, List.map_cons, List.map_nil]);first|done|rfl|(simp only [List.length_drop, List.length_take];rfl)) ?_;(with_reducible refine (law12_Make.calls k _ _ l0 t2 _ ?side1 ?side2 A5.out).mono ?_);(case side1 => repeat (first|exact HR0.out|(with_reducible refine Kd.C_alloc ?_ _)|(with_reducible refine Kd.C_drewN ?_ _)|(with_reducible refine Kd.C_drew ?_)));(case side2 => exact HC0.out);rintro e w85 ⟨v3, rfl, ho0, hb⟩;refine ⟨_, rfl, ?_⟩;have n0_ := Aside0.mk (Kd.R_lower ho0 (below_size (by repeat (first|(with_reducible first|exact HB.out|apply below_alloc|apply pw_below_drewN|apply below_drew1)|exact HB.out))));have n1_ := Aside0.mk (below_step (by repeat (first|(with_reducible first|exact HB.out|apply below_alloc|apply pw_below_drewN|apply below_drew1)|exact HB.out)) hb);clear HB;have HO4 := n0_;have HB := n1_;clear n0_ n1_;(try clear hb);(try clear hb2);(try clear hk);(try clear hi);(try clear ho0);obtain ⟨Ao86, co86, eo86⟩ := Kd.R_slice HO4.out;subst eo86)|((with_reducible refine gate_callee (f := 68) rfl ?_);refine goesL_ (some 17) rfl rfl Try.func68 (by kernel_rfl) rfl #[.slice Ao86 t2.length co86] rfl (by (try simp only [List.map_toArray, List.map_cons, List.map_nil]);first|done|rfl|(simp only [List.length_drop, List.length_take];rfl)) ?_;(with_reducible refine (tree_Right.calls k _ _ t2 false _ ?side1 ?side2 A6.out).mono ?_);(case side1 => repeat (first|exact (Kd.R_reads' HO4.out).2.2|(with_reducible refine Kd.C_alloc ?_ _)|(with_reducible refine Kd.C_drewN ?_ _)|(with_reducible refine Kd.C_drew ?_)));(case side2 => exact (Kd.R_reads' HO4.out).2.1);rintro e w87 ⟨rfl, hb⟩;refine ⟨_, rfl, ?_⟩;have n0_ := Aside0.mk (Kd.R_below (by (with_reducible repeat (first|apply Kd.R_alloc|apply Kd.R_drewN|apply Kd.R_drew));exact HO4.out) hb);have n1_ := Aside0.mk (below_step (by repeat (first|(with_reducible first|exact HB.out|apply below_alloc|apply pw_below_drewN|apply below_drew1)|exact HB.out)) hb);clear HO4;clear HB;have HO4 := n0_;have HB := n1_;clear n0_ n1_;(try clear hb);(try clear hb2);(try clear hk);(try clear hi)))
   go_ret
   exact ⟨by first|rfl|(simp [errW_none, errW_some] <;> rfl)|(simp [*, errW_none, errW_some] <;> rfl), by repeat (first|(with_reducible first|exact HB.out|apply below_alloc|apply pw_below_drewN|apply below_drew1)|exact HB.out)⟩
/-- THE ONE PURE STATEMENT of law12_TreeSums: yours. -/
def law12_TreeSums.Pure : Prop := ∀ (l0 : List Int), l0.length ≤ maxLen → l0.length * 1 ≤ 140737488351232 → (∀ x ∈ l0, (Lit.int .u8 x).wf = true) → ∃ k, law12_TreeSums.f k l0 = some true
theorem law12_TreeSums.walk (P : law12_TreeSums.Pure) (a0 : Option Addr) (len0 cap0 : Nat) (z0 : List Int) (w : World) (w0 : (a0 = none ∧ len0 = 0 ∧ cap0 = 0 ∧ z0 = []) ∨ ∃ x, a0 = some x ∧ len0 ≤ cap0 ∧ cap0 ≤ maxLen ∧ z0.length = cap0 ∧ (∀ i, i < z0.length → w.cell? (x.add i) = some (.int .u8 (z0.getD i 0))) ∧ ∀ n ∈ z0, (Lit.int .u8 n).wf = true) (y0 : len0 * 1 ≤ 140737488351232) :
  Calls Try.prog 13 #[.slice a0 len0 cap0] w fun e w' => e = .returned (.bool true) ∧ Below w.heap.size w w' := by
 obtain ⟨l0, rfl, hr0, hm0, hw0, hc0⟩ := ReadsInt.ofRowC w0
 obtain ⟨k, h⟩ := P l0 hm0 y0 hw0
 refine (law12_TreeSums.calls k _ _ l0 true w (Kd.C_of_reads (d := (0 : Int)) (h1 := fun _ => rfl) hr0) hc0 h).mono ?_
 rintro e w' ⟨rfl, hd⟩
 exact ⟨rfl, hd⟩
end Go.Proofs.Ytcgefpklljclgaa.Print
