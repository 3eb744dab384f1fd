/- A part of the proof of AdmitMade: the machine's side by the kit's print, contracts and lemmas by this session. -/
import Derived.Test.YtcgefpklljclgaaBAdmitMade1
import Derived.Test.YtcgefpklljclgaaBAdmitMade2
import Derived.Test.YtcgefpklljclgaaBAdmitMade3
namespace Go.Proofs.Ytcgefpklljclgaa.Print
open Go.RowKit Go.Proofs.YtcgefpklljclgaaW.PrintWords Go.Proofs.YtcgefpklljclgaaW.PrintLast Go.Proofs.YtcgefpklljclgaaW.PrintMore
attribute [local go_sem] max2_int min2_int max_two min_two max_three min_three max_four min_four   -- for this text's walks alone
set_option linter.unusedVariables false
set_option linter.unusedSimpArgs false
/-! ### r10_Release: function 77 -/
def r10_Release.l0 : Nat → ByteArray → List ByteArray → List (S31) → Int → Int → Int → Int → Option ((List (S31)) × Int)
 | 0, _, _, _, _, _, _, _ => none
 | k + 1, x1, x7, x8, x9, x2000, x2001, x2002 => if x9 < (x7.length : Int) then (if 0 ≤ x9 then ((r10_Find.f k x8 (rdOf ByteArray.empty x7 x9)).bind fun t26 => (if 0 ≤ t26 then (if t26 < (x8.length : Int) then ((r10_Sub.f ((rd_T31 x8 t26).f4.f0) ((rd_T31 x8 t26).f4.f1) ((rd_T31 x8 t26).f4.f2) x2000 x2001 x2002).bind fun bt28 => (r10_Release.l0 k x1 x7 (x8.set (t26 : Int).toNat (⟨(rd_T31 x8 t26).f0, (rd_T31 x8 t26).f1, (⟨(rd_T31 x8 t26).f2.f0, (rd_T31 x8 t26).f2.f1, (rd_T31 x8 t26).f2.f2⟩ : S27), (⟨(rd_T31 x8 t26).f3.f0, (rd_T31 x8 t26).f3.f1, (rd_T31 x8 t26).f3.f2⟩ : S27), (⟨bt28.1, bt28.2.1, bt28.2.2⟩ : S27), (rd_T31 x8 t26).f5⟩ : S31)) (wrap64 (x9 + 1)) x2000 x2001 x2002)) else (none)) else (none))) else (none)) else ((r10_Find.f k x8 x1).bind fun t32 => (if 0 ≤ t32 then (if t32 < (x8.length : Int) then ((r10_Sub.f ((rd_T31 x8 t32).f3.f0) ((rd_T31 x8 t32).f3.f1) ((rd_T31 x8 t32).f3.f2) x2000 x2001 x2002).bind fun bt34 => (some ((x8.set (t32 : Int).toNat (⟨(rd_T31 x8 t32).f0, (rd_T31 x8 t32).f1, (⟨(rd_T31 x8 t32).f2.f0, (rd_T31 x8 t32).f2.f1, (rd_T31 x8 t32).f2.f2⟩ : S27), (⟨bt34.1, bt34.2.1, bt34.2.2⟩ : S27), (⟨(rd_T31 x8 t32).f4.f0, (rd_T31 x8 t32).f4.f1, (rd_T31 x8 t32).f4.f2⟩ : S27), (rd_T31 x8 t32).f5⟩ : S31)), 0))) else (none)) else (none)))
def r10_Release.f (k : Nat) (l0 : List (S31)) (a1 : ByteArray) (a2_0 : Int) (a2_1 : Int) (a2_2 : Int) : Option ((List (S31)) × Int) := (r10_Up.f k l0 a1).bind fun t3 => ((r10_MayVec.f a2_0 a2_1 a2_2).bind fun t6 => (if t6 = true then (if (t3.length : Int) = 0 then ((r10_no.f 2).bind fun bt7 => (some (bt7.1, bt7.2))) else ((r10_Find.f k l0 a1).bind fun t11 => (if 0 ≤ t11 then (if t11 < (l0.length : Int) then ((r10_Le.f a2_0 a2_1 a2_2 ((rd_T31 l0 t11).f3.f0) ((rd_T31 l0 t11).f3.f1) ((rd_T31 l0 t11).f3.f2)).bind fun t13 => (if t13 = true then ((r10_copied.f l0).bind fun t22 => (r10_Release.l0 k a1 t3 t22 0 a2_0 a2_1 a2_2)) else ((r10_no.f 1).bind fun bt14 => (some (bt14.1, bt14.2))))) else (none)) else (none)))) else ((r10_no.f 1).bind fun bt18 => (some (bt18.1, bt18.2)))))
theorem r10_Release.mono_l : ∀ k, (∀ y0 y1 y2 y3 y4 y5 y6, LeO (r10_Release.l0 k y0 y1 y2 y3 y4 y5 y6) (r10_Release.l0 (k + 1) y0 y1 y2 y3 y4 y5 y6))
 | 0 => fun _ _ _ _ _ _ _ r h => by simp [r10_Release.l0] at h
 | k + 1 => by
  have ih0 := r10_Release.mono_l k
  ·intro y0 y1 y2 y3 y4 y5 y6
   unfold r10_Release.l0
   repeat' first
   | (with_reducible exact ih0 _ _ _ _ _ _ _)
   | (with_reducible exact r10_Find.mono _ _ _)
   | (with_reducible exact r10_Up.mono _ _ _)
   | (with_reducible exact LeO.refl _)
   | (with_reducible exact LeO.none _)
   | (with_reducible refine LeO.ite ?_ ?_)
   | (with_reducible refine LeO.bind ?_ (fun _ => ?_))
   | exact ih0 _ _ _ _ _ _ _
   | exact r10_Find.mono _ _ _
   | exact r10_Up.mono _ _ _
   | exact LeO.none _
   | refine LeO.ite ?_ ?_
   | refine LeO.bind ?_ (fun _ => ?_)
theorem r10_Release.mono : ∀ a0 a1 a2 a3 a4 k, LeO (r10_Release.f k a0 a1 a2 a3 a4) (r10_Release.f (k + 1) a0 a1 a2 a3 a4) := by
 intro a0 a1 a2 a3 a4 k
 have ih0 := r10_Release.mono_l k
 unfold r10_Release.f
 repeat' first
   | (with_reducible exact ih0 _ _ _ _ _ _ _)
   | (with_reducible exact r10_Find.mono _ _ _)
   | (with_reducible exact r10_Up.mono _ _ _)
   | (with_reducible exact LeO.refl _)
   | (with_reducible exact LeO.none _)
   | (with_reducible refine LeO.ite ?_ ?_)
   | (with_reducible refine LeO.bind ?_ (fun _ => ?_))
   | exact ih0 _ _ _ _ _ _ _
   | exact r10_Find.mono _ _ _
   | exact r10_Up.mono _ _ _
   | exact LeO.none _
   | refine LeO.ite ?_ ?_
   | refine LeO.bind ?_ (fun _ => ?_)
def r10_Release.T6 : Bool × List (List Nat × List Nat) := (true, [([], []), ([], []), ([], []), ([], []), ([2, 3], [2, 3]), ([1, 4], [1, 4]), ([5], [5]), ([6], [6]), ([0, 7, 4], [0, 7]), ([8], [8]), ([9, 8], [9])])
def r10_Release.B6 : List Nat := [0, 0, 0, 0, 12, 30, 62, 126, 255, 511, 1023]
theorem r10_Release.tab6 : rtab .any (opsOf Try.f77 6) = r10_Release.T6 := by kernel_rfl
theorem r10_Release.bits6 : waitsOk r10_Release.T6.2 r10_Release.B6 = true := by kernel_rfl
def r10_Release.T13 : Bool × List (List Nat × List Nat) := (true, [([], []), ([], []), ([], []), ([], []), ([2, 3], [2, 3]), ([4], [4]), ([5], [5]), ([], []), ([6, 7], [6, 7]), ([0, 1, 0, 1, 2, 3, 4, 5, 6, 7, 8], [0, 1]), ([9, 0, 1, 2, 3, 4, 5, 6, 7, 8], [9]), ([10, 8, 8, 0, 1, 2, 3, 4, 5, 6, 7, 8], [8, 10])])
def r10_Release.B13 : List Nat := [0, 0, 0, 0, 12, 28, 60, 0, 252, 511, 1023, 2047]
theorem r10_Release.tab13 : rtab .any (opsOf Try.f77 13) = r10_Release.T13 := by kernel_rfl
theorem r10_Release.bits13 : waitsOk r10_Release.T13.2 r10_Release.B13 = true := by kernel_rfl
def r10_Release.T15 : Bool × List (List Nat × List Nat) := (true, [([], []), ([], []), ([], []), ([], []), ([2, 3], [2, 3]), ([4], [4]), ([5], [5]), ([], []), ([6, 7], [6, 7]), ([0, 1, 0, 1, 2, 3, 4, 5, 6, 7, 8], [0, 1]), ([9, 0, 1, 2, 3, 4, 5, 6, 7, 8], [9]), ([10, 8, 8, 0, 1, 2, 3, 4, 5, 6, 7, 8], [8, 10])])
def r10_Release.B15 : List Nat := [0, 0, 0, 0, 12, 28, 60, 0, 252, 511, 1023, 2047]
theorem r10_Release.tab15 : rtab .any (opsOf Try.f77 15) = r10_Release.T15 := by kernel_rfl
theorem r10_Release.bits15 : waitsOk r10_Release.T15.2 r10_Release.B15 = true := by kernel_rfl
set_option maxHeartbeats 8000000 in
set_option maxRecDepth 100000 in
theorem r10_Release.calls (k : Nat) (A0 : Option Addr) (c0 : Nat) (l0 : List (S31)) (a1 : ByteArray) (a2_0 : Int) (a2_1 : Int) (a2_2 : Int) (r1 : List (S31)) (r2 : Int) (w : World) (hr0 : Kd.C k31 w A0 l0.length l0) (hc0 : l0.length ≤ c0) (h : r10_Release.f k l0 a1 a2_0 a2_1 a2_2 = some (r1, r2)) :
  Calls Try.prog 77 #[.slice A0 l0.length c0, .string a1, .agg #[.int .i64 a2_0, .int .i64 a2_1, .int .i64 a2_2]] w fun e w' => ∃ v0_ : Value, e = .returned (.agg #[v0_, .int .i64 r2]) ∧ Kd.R k31 31 w' w.heap.size (fun _ => True) v0_ r1 ∧ Below w.heap.size w w' := by
 have hu27 := Try.underlying27
 have hu67 := Try.underlying67
 have HR0 := Aside0.mk hr0
 have HC0 := Aside0.mk hc0
 clear hr0 hc0
 have HB := Aside0.mk (Below.refl w.heap.size w)
 have H : ((r10_Up.f k l0 a1).bind fun t3 => ((r10_MayVec.f a2_0 a2_1 a2_2).bind fun t6 => (if t6 = true then (if (t3.length : Int) = 0 then ((r10_no.f 2).bind fun bt7 => (some (bt7.1, bt7.2))) else ((r10_Find.f k l0 a1).bind fun t11 => (if 0 ≤ t11 then (if t11 < (l0.length : Int) then ((r10_Le.f a2_0 a2_1 a2_2 ((rd_T31 l0 t11).f3.f0) ((rd_T31 l0 t11).f3.f1) ((rd_T31 l0 t11).f3.f2)).bind fun t13 => (if t13 = true then ((r10_copied.f l0).bind fun t22 => (r10_Release.l0 k a1 t3 t22 0 a2_0 a2_1 a2_2)) else ((r10_no.f 1).bind fun bt14 => (some (bt14.1, bt14.2))))) else (none)) else (none)))) else ((r10_no.f 1).bind fun bt18 => (some (bt18.1, bt18.2)))))) = some (r1, r2) := h
 clear h
 replace H := Option.bind_eq_some_iff.mp H
 obtain ⟨t3, A40, H⟩ := H
 replace H : ((r10_MayVec.f a2_0 a2_1 a2_2).bind fun t6 => (if t6 = true then (if (t3.length : Int) = 0 then ((r10_no.f 2).bind fun bt7 => (some (bt7.1, bt7.2))) else ((r10_Find.f k l0 a1).bind fun t11 => (if 0 ≤ t11 then (if t11 < (l0.length : Int) then ((r10_Le.f a2_0 a2_1 a2_2 ((rd_T31 l0 t11).f3.f0) ((rd_T31 l0 t11).f3.f1) ((rd_T31 l0 t11).f3.f2)).bind fun t13 => (if t13 = true then ((r10_copied.f l0).bind fun t22 => (r10_Release.l0 k a1 t3 t22 0 a2_0 a2_1 a2_2)) else ((r10_no.f 1).bind fun bt14 => (some (bt14.1, bt14.2))))) else (none)) else (none)))) else ((r10_no.f 1).bind fun bt18 => (some (bt18.1, bt18.2))))) = some (r1, r2) := H
 have A4 := Aside0.mk A40
 clear A40
 replace H := Option.bind_eq_some_iff.mp H
 obtain ⟨t6, A50, H⟩ := H
 replace H : (if t6 = true then (if (t3.length : Int) = 0 then ((r10_no.f 2).bind fun bt7 => (some (bt7.1, bt7.2))) else ((r10_Find.f k l0 a1).bind fun t11 => (if 0 ≤ t11 then (if t11 < (l0.length : Int) then ((r10_Le.f a2_0 a2_1 a2_2 ((rd_T31 l0 t11).f3.f0) ((rd_T31 l0 t11).f3.f1) ((rd_T31 l0 t11).f3.f2)).bind fun t13 => (if t13 = true then ((r10_copied.f l0).bind fun t22 => (r10_Release.l0 k a1 t3 t22 0 a2_0 a2_1 a2_2)) else ((r10_no.f 1).bind fun bt14 => (some (bt14.1, bt14.2))))) else (none)) else (none)))) else ((r10_no.f 1).bind fun bt18 => (some (bt18.1, bt18.2)))) = some (r1, r2) := H
 have A5 := Aside0.mk A50
 clear A50
 by_cases c6 : t6 = true
 ·subst c6
  have H1 : (if (t3.length : Int) = 0 then ((r10_no.f 2).bind fun bt7 => (some (bt7.1, bt7.2))) else ((r10_Find.f k l0 a1).bind fun t11 => (if 0 ≤ t11 then (if t11 < (l0.length : Int) then ((r10_Le.f a2_0 a2_1 a2_2 ((rd_T31 l0 t11).f3.f0) ((rd_T31 l0 t11).f3.f1) ((rd_T31 l0 t11).f3.f2)).bind fun t13 => (if t13 = true then ((r10_copied.f l0).bind fun t22 => (r10_Release.l0 k a1 t3 t22 0 a2_0 a2_1 a2_2)) else ((r10_no.f 1).bind fun bt14 => (some (bt14.1, bt14.2))))) else (none)) else (none)))) = some (r1, r2) := by rw [if_pos rfl] at H; exact H
  clear H
  have H := H1
  clear H1
  by_cases c7 : (t3.length : Int) = 0
  ·rw [if_pos c7] at H
   have c7b0 : ((t3.length : Int) == 0) = true := beq_iff_eq.mpr c7
   have c7b1 : ((t3.length : Int) != 0) = false := bne_eq_false_iff_eq.mpr c7
   clear c7
   replace H := Option.bind_eq_some_iff.mp H
   obtain ⟨⟨t7, t10⟩, A80, H⟩ := H
   replace H : (some (t7, t10)) = some (r1, r2) := H
   have A8 := Aside0.mk A80
   clear A80
   simp only [Option.some.injEq, Prod.mk.injEq] at H
   obtain ⟨rfl, rfl⟩ := H
   go_enter Try.func77, Try.ntmps77
   go_wp2_with (first|((with_reducible refine gate_dst (N := 5) rfl ?_);refine box_event ?hg (N := 5) ?hd (cs := #[.int .i64 a2_0, .int .i64 a2_1, .int .i64 a2_2]) (t := 27) ?hr ?_;(case hd => rfl);(case hg => rfl);(case hr => first|(go_simp;done)|(go_simp;rfl));intro gb1 hg w9 hbox hb;have n0_ := Aside0.mk (below_step (by repeat (first|(with_reducible first|exact HB.out|apply below_alloc|apply pw_below_drewN|apply below_drew1)|exact HB.out)) hb);have n1_ := Aside0.mk (hbox);have n2_ := Aside0.mk ((by rw [hg];exact (below_size (by repeat (first|(with_reducible first|exact HB.out|apply below_alloc|apply pw_below_drewN|apply below_drew1)|exact HB.out))) : w.heap.size ≤ gb1));have n3_ := Aside0.mk ((by rw [hg];exact (below_size (by repeat (first|(with_reducible first|exact HB.out|apply below_alloc|apply pw_below_drewN|apply below_drew1)|exact HB.out))) : w.heap.size ≤ gb1));clear HB;have HB := n0_;have BK1 := n1_;have GW1 := n2_;have GE1 := n3_;clear n0_ n1_ n2_ n3_;clear hb hbox hg)|((with_reducible refine gate_dst (N := 6) rfl ?_);refine box_event ?hg (N := 6) ?hd (cs := #[.slice none 0 0, .int .i64 0]) (t := 67) ?hr ?_;(case hd => rfl);(case hg => rfl);(case hr => first|(go_simp;done)|(go_simp;rfl));intro gb2 hg w10 hbox hb;have n0_ := Aside0.mk (blk_below (g := gb1) (o := .cells #[.int .i64 a2_0, .int .i64 a2_1, .int .i64 a2_2] 27 (0, 0)) (by (with_reducible repeat (first|refine blk_drewN ?_ _|refine blk_drew ?_|refine blk_alloc ?_ _));exact BK1.out) hb);have n1_ := Aside0.mk (below_step (by repeat (first|(with_reducible first|exact HB.out|apply below_alloc|apply pw_below_drewN|apply below_drew1|refine below_set ?_ GE1.out)|exact HB.out)) hb);have n2_ := Aside0.mk (hbox);have n3_ := Aside0.mk ((by rw [hg];exact (below_size (by repeat (first|(with_reducible first|exact HB.out|apply below_alloc|apply pw_below_drewN|apply below_drew1|refine below_set ?_ GE1.out)|exact HB.out))) : w.heap.size ≤ gb2));have n4_ := Aside0.mk ((by rw [hg];exact (below_size (by repeat (first|(with_reducible first|exact HB.out|apply below_alloc|apply pw_below_drewN|apply below_drew1|refine below_set ?_ GE1.out)|exact HB.out))) : w.heap.size ≤ gb2));have n5_ := Aside0.mk ((by rw [hg];exact Nat.ne_of_lt (blk_lt (g := gb1) (o := .cells #[.int .i64 a2_0, .int .i64 a2_1, .int .i64 a2_2] 27 (0, 0)) (by (with_reducible repeat (first|refine blk_drewN ?_ _|refine blk_drew ?_|refine blk_alloc ?_ _));exact BK1.out)) : gb1 ≠ gb2));have n6_ := Aside0.mk ((by rw [hg];exact Nat.ne_of_gt (blk_lt (g := gb1) (o := .cells #[.int .i64 a2_0, .int .i64 a2_1, .int .i64 a2_2] 27 (0, 0)) (by (with_reducible repeat (first|refine blk_drewN ?_ _|refine blk_drew ?_|refine blk_alloc ?_ _));exact BK1.out)) : gb2 ≠ gb1));clear BK1;clear HB;have BK1 := n0_;have HB := n1_;have BK2 := n2_;have GW2 := n3_;have GE2 := n4_;have NB1_2 := n5_;have NB2_1 := n6_;clear n0_ n1_ n2_ n3_ n4_ n5_ n6_;clear hb hbox hg)|((with_reducible refine gate_callee (f := 106) rfl ?_);refine goesL_ (some 14) rfl rfl Try.func106 (by kernel_rfl) rfl #[.slice A0 l0.length c0, .string a1] rfl (by (try simp only [List.map_toArray, List.map_cons, List.map_nil]);first|done|rfl|(simp only [List.length_drop, List.length_take];rfl)) ?_;(with_reducible refine (r10_Up.calls k _ _ l0 a1 t3 _ ?side1 ?side2 A4.out).mono ?_);(case side1 => repeat (first|exact (Kd.C_below HR0.out HB.out)|(with_reducible refine Kd.C_alloc ?_ _)|(with_reducible refine Kd.C_drewN ?_ _)|(with_reducible refine Kd.C_drew ?_)));(case side2 => exact HC0.out);rintro e w11 ⟨v4, rfl, ho0, hb⟩;refine ⟨_, rfl, ?_⟩;have n0_ := Aside0.mk (Kd.R_lower ho0 (below_size (by repeat (first|(with_reducible first|exact HB.out|apply below_alloc|apply pw_below_drewN|apply below_drew1|refine below_set ?_ GE1.out|refine below_set ?_ GE2.out)|exact HB.out))));have n1_ := Aside0.mk (blk_below (g := gb1) (o := .cells #[.int .i64 a2_0, .int .i64 a2_1, .int .i64 a2_2] 27 (0, 0)) (by (with_reducible repeat (first|refine blk_drewN ?_ _|refine blk_drew ?_|refine blk_alloc ?_ _));exact BK1.out) hb);have n2_ := Aside0.mk (blk_below (g := gb2) (o := .cells #[.slice none 0 0, .int .i64 0] 67 (0, 0)) (by (with_reducible repeat (first|refine blk_drewN ?_ _|refine blk_drew ?_|refine blk_alloc ?_ _));exact BK2.out) hb);have n3_ := Aside0.mk (below_step (by repeat (first|(with_reducible first|exact HB.out|apply below_alloc|apply pw_below_drewN|apply below_drew1|refine below_set ?_ GE1.out|refine below_set ?_ GE2.out)|exact HB.out)) hb);clear BK1;clear BK2;clear HB;have HO5 := n0_;have BK1 := n1_;have BK2 := n2_;have HB := n3_;clear n0_ n1_ n2_ n3_;(try clear hb);(try clear hb2);(try clear hk);(try clear hi);(try clear ho0);have hnb12 := NB1_2.out;have hnc12 := NB2_1.out;have hcz13_0 : w11.cell? ⟨gb1, 0, none⟩ = some (.int .i64 a2_0) := (blk_cell BK1.out 0).trans rfl;have hcz13_1 : w11.cell? ⟨gb1, 1, none⟩ = some (.int .i64 a2_1) := (blk_cell BK1.out 1).trans rfl;have hcz13_2 : w11.cell? ⟨gb1, 2, none⟩ = some (.int .i64 a2_2) := (blk_cell BK1.out 2).trans rfl;have hfz13_0 := blk_frozen BK1.out 0;have hfz13_1 := blk_frozen BK1.out 1;have hfz13_2 := blk_frozen BK1.out 2)|((with_reducible refine gate_callee (f := 65) rfl ?_);refine goesL_ (some 17) rfl rfl Try.func65 (by kernel_rfl) rfl #[.agg #[.int .i64 a2_0, .int .i64 a2_1, .int .i64 a2_2]] rfl (by (try simp only [List.map_toArray, List.map_cons, List.map_nil]);first|done|rfl|(simp only [List.length_drop, List.length_take];rfl)) ?_;(with_reducible refine (r10_MayVec.calls a2_0 a2_1 a2_2 true _ A5.out).mono ?_);rintro e w14 ⟨rfl, hb⟩;refine ⟨_, rfl, ?_⟩;have n0_ := Aside0.mk (Kd.R_below (by (with_reducible repeat (first|apply Kd.R_alloc|apply Kd.R_drewN|apply Kd.R_drew));exact HO5.out) hb);have n1_ := Aside0.mk (blk_below (g := gb1) (o := .cells #[.int .i64 a2_0, .int .i64 a2_1, .int .i64 a2_2] 27 (0, 0)) (by (with_reducible repeat (first|refine blk_drewN ?_ _|refine blk_drew ?_|refine blk_alloc ?_ _));exact BK1.out) hb);have n2_ := Aside0.mk (blk_below (g := gb2) (o := .cells #[.slice none 0 0, .int .i64 0] 67 (0, 0)) (by (with_reducible repeat (first|refine blk_drewN ?_ _|refine blk_drew ?_|refine blk_alloc ?_ _));exact BK2.out) hb);have n3_ := Aside0.mk (below_step (by repeat (first|(with_reducible first|exact HB.out|apply below_alloc|apply pw_below_drewN|apply below_drew1|refine below_set ?_ GE1.out|refine below_set ?_ GE2.out)|exact HB.out)) hb);clear HO5;clear BK1;clear BK2;clear HB;have HO5 := n0_;have BK1 := n1_;have BK2 := n2_;have HB := n3_;clear n0_ n1_ n2_ n3_;(try clear hb);(try clear hb2);(try clear hk);(try clear hi);obtain ⟨Ao15, co15, eo15⟩ := Kd.R_slice HO5.out;subst eo15)|((with_reducible refine gate_callee (f := 113) rfl ?_);refine goesL_ (some 24) rfl rfl Try.func113 (by kernel_rfl) rfl #[.int .i64 2] rfl (by (try simp only [List.map_toArray, List.map_cons, List.map_nil]);first|done|rfl|(simp only [List.length_drop, List.length_take];rfl)) ?_;(with_reducible refine (r10_no.calls 2 t7 t10 _ A8.out).mono ?_);rintro e w16 ⟨v8, rfl, ho0, hb⟩;refine ⟨_, rfl, ?_⟩;have n0_ := Aside0.mk (Kd.R_below (by (with_reducible repeat (first|apply Kd.R_alloc|apply Kd.R_drewN|apply Kd.R_drew));exact HO5.out) hb);have n1_ := Aside0.mk (Kd.R_lower ho0 (below_size (by repeat (first|(with_reducible first|exact HB.out|apply below_alloc|apply pw_below_drewN|apply below_drew1|refine below_set ?_ GE1.out|refine below_set ?_ GE2.out)|exact HB.out))));have n2_ := Aside0.mk (blk_below (g := gb1) (o := .cells #[.int .i64 a2_0, .int .i64 a2_1, .int .i64 a2_2] 27 (0, 0)) (by (with_reducible repeat (first|refine blk_drewN ?_ _|refine blk_drew ?_|refine blk_alloc ?_ _));exact BK1.out) hb);have n3_ := Aside0.mk (blk_below (g := gb2) (o := .cells #[.slice none 0 0, .int .i64 0] 67 (0, 0)) (by (with_reducible repeat (first|refine blk_drewN ?_ _|refine blk_drew ?_|refine blk_alloc ?_ _));exact BK2.out) hb);have n4_ := Aside0.mk (below_step (by repeat (first|(with_reducible first|exact HB.out|apply below_alloc|apply pw_below_drewN|apply below_drew1|refine below_set ?_ GE1.out|refine below_set ?_ GE2.out)|exact HB.out)) hb);clear HO5;clear BK1;clear BK2;clear HB;have HO5 := n0_;have HO9 := n1_;have BK1 := n2_;have BK2 := n3_;have HB := n4_;clear n0_ n1_ n2_ n3_ n4_;(try clear hb);(try clear hb2);(try clear hk);(try clear hi);(try clear ho0);obtain ⟨Ao17, co17, eo17⟩ := Kd.R_slice HO9.out;subst eo17;have hcz18_0 : w16.cell? ⟨gb2, 0, none⟩ = some (.slice none 0 0) := (blk_cell BK2.out 0).trans rfl;have hcz18_1 : w16.cell? ⟨gb2, 1, none⟩ = some (.int .i64 0) := (blk_cell BK2.out 1).trans rfl;have hfz18_0 := blk_frozen BK2.out 0;have hfz18_1 := blk_frozen BK2.out 1))
   refine bodyPost_ret (results_cell_row rfl _ _ gb2 67 #[.slice Ao17 t7.length co17, .int .i64 t10] (0, 0) _ rfl (by (with_reducible repeat (first|refine blk_drewN ?_ _|refine blk_drew ?_|refine blk_alloc ?_ _));refine blk_put (cs := #[.slice Ao17 t7.length co17, .int .i64 0]) ?_ 1 _ rfl;(with_reducible repeat (first|refine blk_drewN ?_ _|refine blk_drew ?_|refine blk_alloc ?_ _));refine blk_put (cs := #[.slice none 0 0, .int .i64 0]) ?_ 0 _ rfl;(with_reducible repeat (first|refine blk_drewN ?_ _|refine blk_drew ?_|refine blk_alloc ?_ _));exact BK2.out) Try.underlying67 rfl (by kernel_rfl)) rfl ?_
   exact ⟨_, by first|rfl|(simp [errW_none, errW_some] <;> rfl)|(simp [*, errW_none, errW_some] <;> rfl), by (with_reducible repeat (first|apply Kd.R_alloc|apply Kd.R_drewN|apply Kd.R_drew));exact Kd.R_mono (Kd.R_far (p := ⟨gb2, 1, none⟩) (Kd.R_far (p := ⟨gb2, 0, none⟩) (Kd.R_types HO9.out BK2.out (by decide)) (fun _ hk => hk.2) (.slice Ao17 t7.length co17)) (fun _ hk => hk.2) (.int .i64 t10)) (fun _ hk => trivial), by repeat (first|(with_reducible first|exact HB.out|apply below_alloc|apply pw_below_drewN|apply below_drew1|refine below_set ?_ GE1.out|refine below_set ?_ GE2.out)|exact HB.out)⟩
  ·rw [if_neg c7] at H
   have c7b0 : ((t3.length : Int) == 0) = false := beq_eq_false_iff_ne.mpr c7
   have c7b1 : ((t3.length : Int) != 0) = true := bne_iff_ne.mpr c7
   have c7b2 : ¬ (t3 = []) := fun h_ => c7 (by rw [h_]; rfl)
   replace H := Option.bind_eq_some_iff.mp H
   obtain ⟨t11, A190, H⟩ := H
   replace H : (if 0 ≤ t11 then (if t11 < (l0.length : Int) then ((r10_Le.f a2_0 a2_1 a2_2 ((rd_T31 l0 t11).f3.f0) ((rd_T31 l0 t11).f3.f1) ((rd_T31 l0 t11).f3.f2)).bind fun t13 => (if t13 = true then ((r10_copied.f l0).bind fun t22 => (r10_Release.l0 k a1 t3 t22 0 a2_0 a2_1 a2_2)) else ((r10_no.f 1).bind fun bt14 => (some (bt14.1, bt14.2))))) else (none)) else (none)) = some (r1, r2) := H
   have A19 := Aside0.mk A190
   clear A190
   by_cases c20 : 0 ≤ t11
   ·rw [if_pos c20] at H
    have c20b0 : decide (0 ≤ t11) = true := decide_eq_true c20
    clear c20
    by_cases c21 : t11 < (l0.length : Int)
    ·rw [if_pos c21] at H
     have c21b0 : decide (t11 < (l0.length : Int)) = true := decide_eq_true c21
     clear c21
     replace H := Option.bind_eq_some_iff.mp H
     obtain ⟨t13, A220, H⟩ := H
     replace H : (if t13 = true then ((r10_copied.f l0).bind fun t22 => (r10_Release.l0 k a1 t3 t22 0 a2_0 a2_1 a2_2)) else ((r10_no.f 1).bind fun bt14 => (some (bt14.1, bt14.2)))) = some (r1, r2) := H
     have A22 := Aside0.mk A220
     clear A220
     by_cases c23 : t13 = true
     ·subst c23
      have H1 : ((r10_copied.f l0).bind fun t22 => (r10_Release.l0 k a1 t3 t22 0 a2_0 a2_1 a2_2)) = some (r1, r2) := by rw [if_pos rfl] at H; exact H
      clear H
      have H := H1
      clear H1
      replace H := Option.bind_eq_some_iff.mp H
      obtain ⟨t22, A240, H⟩ := H
      replace H : (r10_Release.l0 k a1 t3 t22 0 a2_0 a2_1 a2_2) = some (r1, r2) := H
      have A24 := Aside0.mk A240
      clear A240
      have H' := Aside0.mk H
      clear H
      go_enter Try.func77, Try.ntmps77
      try go_wp2_with (first|((with_reducible refine gate_dst (N := 5) rfl ?_);refine box_event ?hg (N := 5) ?hd (cs := #[.int .i64 a2_0, .int .i64 a2_1, .int .i64 a2_2]) (t := 27) ?hr ?_;(case hd => rfl);(case hg => rfl);(case hr => first|(go_simp;done)|(go_simp;rfl));intro gb1 hg w25 hbox hb;have n0_ := Aside0.mk (below_step (by repeat (first|(with_reducible first|exact HB.out|apply below_alloc|apply pw_below_drewN|apply below_drew1)|exact HB.out)) hb);have n1_ := Aside0.mk (hbox);have n2_ := Aside0.mk ((by rw [hg];exact (below_size (by repeat (first|(with_reducible first|exact HB.out|apply below_alloc|apply pw_below_drewN|apply below_drew1)|exact HB.out))) : w.heap.size ≤ gb1));have n3_ := Aside0.mk ((by rw [hg];exact (below_size (by repeat (first|(with_reducible first|exact HB.out|apply below_alloc|apply pw_below_drewN|apply below_drew1)|exact HB.out))) : w.heap.size ≤ gb1));clear HB;have HB := n0_;have BK1 := n1_;have GW1 := n2_;have GE1 := n3_;clear n0_ n1_ n2_ n3_;clear hb hbox hg)|((with_reducible refine gate_dst (N := 6) rfl ?_);refine box_event ?hg (N := 6) ?hd (cs := #[.slice none 0 0, .int .i64 0]) (t := 67) ?hr ?_;(case hd => rfl);(case hg => rfl);(case hr => first|(go_simp;done)|(go_simp;rfl));intro gb2 hg w26 hbox hb;have n0_ := Aside0.mk (blk_below (g := gb1) (o := .cells #[.int .i64 a2_0, .int .i64 a2_1, .int .i64 a2_2] 27 (0, 0)) (by (with_reducible repeat (first|refine blk_drewN ?_ _|refine blk_drew ?_|refine blk_alloc ?_ _));exact BK1.out) hb);have n1_ := Aside0.mk (below_step (by repeat (first|(with_reducible first|exact HB.out|apply below_alloc|apply pw_below_drewN|apply below_drew1|refine below_set ?_ GE1.out)|exact HB.out)) hb);have n2_ := Aside0.mk (hbox);have n3_ := Aside0.mk ((by rw [hg];exact (below_size (by repeat (first|(with_reducible first|exact HB.out|apply below_alloc|apply pw_below_drewN|apply below_drew1|refine below_set ?_ GE1.out)|exact HB.out))) : w.heap.size ≤ gb2));have n4_ := Aside0.mk ((by rw [hg];exact (below_size (by repeat (first|(with_reducible first|exact HB.out|apply below_alloc|apply pw_below_drewN|apply below_drew1|refine below_set ?_ GE1.out)|exact HB.out))) : w.heap.size ≤ gb2));have n5_ := Aside0.mk ((by rw [hg];exact Nat.ne_of_lt (blk_lt (g := gb1) (o := .cells #[.int .i64 a2_0, .int .i64 a2_1, .int .i64 a2_2] 27 (0, 0)) (by (with_reducible repeat (first|refine blk_drewN ?_ _|refine blk_drew ?_|refine blk_alloc ?_ _));exact BK1.out)) : gb1 ≠ gb2));have n6_ := Aside0.mk ((by rw [hg];exact Nat.ne_of_gt (blk_lt (g := gb1) (o := .cells #[.int .i64 a2_0, .int .i64 a2_1, .int .i64 a2_2] 27 (0, 0)) (by (with_reducible repeat (first|refine blk_drewN ?_ _|refine blk_drew ?_|refine blk_alloc ?_ _));exact BK1.out)) : gb2 ≠ gb1));clear BK1;clear HB;have BK1 := n0_;have HB := n1_;have BK2 := n2_;have GW2 := n3_;have GE2 := n4_;have NB1_2 := n5_;have NB2_1 := n6_;clear n0_ n1_ n2_ n3_ n4_ n5_ n6_;clear hb hbox hg)|((with_reducible refine gate_callee (f := 106) rfl ?_);refine goesL_ (some 14) rfl rfl Try.func106 (by kernel_rfl) rfl #[.slice A0 l0.length c0, .string a1] rfl (by (try simp only [List.map_toArray, List.map_cons, List.map_nil]);first|done|rfl|(simp only [List.length_drop, List.length_take];rfl)) ?_;(with_reducible refine (r10_Up.calls k _ _ l0 a1 t3 _ ?side1 ?side2 A4.out).mono ?_);(case side1 => repeat (first|exact (Kd.C_below HR0.out HB.out)|(with_reducible refine Kd.C_alloc ?_ _)|(with_reducible refine Kd.C_drewN ?_ _)|(with_reducible refine Kd.C_drew ?_)));(case side2 => exact HC0.out);rintro e w27 ⟨v4, rfl, ho0, hb⟩;refine ⟨_, rfl, ?_⟩;have n0_ := Aside0.mk (Kd.R_lower ho0 (below_size (by repeat (first|(with_reducible first|exact HB.out|apply below_alloc|apply pw_below_drewN|apply below_drew1|refine below_set ?_ GE1.out|refine below_set ?_ GE2.out)|exact HB.out))));have n1_ := Aside0.mk (blk_below (g := gb1) (o := .cells #[.int .i64 a2_0, .int .i64 a2_1, .int .i64 a2_2] 27 (0, 0)) (by (with_reducible repeat (first|refine blk_drewN ?_ _|refine blk_drew ?_|refine blk_alloc ?_ _));exact BK1.out) hb);have n2_ := Aside0.mk (blk_below (g := gb2) (o := .cells #[.slice none 0 0, .int .i64 0] 67 (0, 0)) (by (with_reducible repeat (first|refine blk_drewN ?_ _|refine blk_drew ?_|refine blk_alloc ?_ _));exact BK2.out) hb);have n3_ := Aside0.mk (below_step (by repeat (first|(with_reducible first|exact HB.out|apply below_alloc|apply pw_below_drewN|apply below_drew1|refine below_set ?_ GE1.out|refine below_set ?_ GE2.out)|exact HB.out)) hb);clear BK1;clear BK2;clear HB;have HO5 := n0_;have BK1 := n1_;have BK2 := n2_;have HB := n3_;clear n0_ n1_ n2_ n3_;(try clear hb);(try clear hb2);(try clear hk);(try clear hi);(try clear ho0);have hnb28 := NB1_2.out;have hnc28 := NB2_1.out;have hcz29_0 : w27.cell? ⟨gb1, 0, none⟩ = some (.int .i64 a2_0) := (blk_cell BK1.out 0).trans rfl;have hcz29_1 : w27.cell? ⟨gb1, 1, none⟩ = some (.int .i64 a2_1) := (blk_cell BK1.out 1).trans rfl;have hcz29_2 : w27.cell? ⟨gb1, 2, none⟩ = some (.int .i64 a2_2) := (blk_cell BK1.out 2).trans rfl;have hfz29_0 := blk_frozen BK1.out 0;have hfz29_1 := blk_frozen BK1.out 1;have hfz29_2 := blk_frozen BK1.out 2)|((with_reducible refine gate_callee (f := 65) rfl ?_);refine goesL_ (some 17) rfl rfl Try.func65 (by kernel_rfl) rfl #[.agg #[.int .i64 a2_0, .int .i64 a2_1, .int .i64 a2_2]] rfl (by (try simp only [List.map_toArray, List.map_cons, List.map_nil]);first|done|rfl|(simp only [List.length_drop, List.length_take];rfl)) ?_;(with_reducible refine (r10_MayVec.calls a2_0 a2_1 a2_2 true _ A5.out).mono ?_);rintro e w30 ⟨rfl, hb⟩;refine ⟨_, rfl, ?_⟩;have n0_ := Aside0.mk (Kd.R_below (by (with_reducible repeat (first|apply Kd.R_alloc|apply Kd.R_drewN|apply Kd.R_drew));exact HO5.out) hb);have n1_ := Aside0.mk (blk_below (g := gb1) (o := .cells #[.int .i64 a2_0, .int .i64 a2_1, .int .i64 a2_2] 27 (0, 0)) (by (with_reducible repeat (first|refine blk_drewN ?_ _|refine blk_drew ?_|refine blk_alloc ?_ _));exact BK1.out) hb);have n2_ := Aside0.mk (blk_below (g := gb2) (o := .cells #[.slice none 0 0, .int .i64 0] 67 (0, 0)) (by (with_reducible repeat (first|refine blk_drewN ?_ _|refine blk_drew ?_|refine blk_alloc ?_ _));exact BK2.out) hb);have n3_ := Aside0.mk (below_step (by repeat (first|(with_reducible first|exact HB.out|apply below_alloc|apply pw_below_drewN|apply below_drew1|refine below_set ?_ GE1.out|refine below_set ?_ GE2.out)|exact HB.out)) hb);clear HO5;clear BK1;clear BK2;clear HB;have HO5 := n0_;have BK1 := n1_;have BK2 := n2_;have HB := n3_;clear n0_ n1_ n2_ n3_;(try clear hb);(try clear hb2);(try clear hk);(try clear hi);obtain ⟨Ao31, co31, eo31⟩ := Kd.R_slice HO5.out;subst eo31))
      have n0_ := Aside0.mk (Kd.R_drew HO5.out)
      have n1_ := Aside0.mk (blk_drew BK1.out)
      have n2_ := Aside0.mk (blk_drew BK2.out)
      have n3_ := Aside0.mk (below_drew1 HB.out)
      clear HO5
      clear BK1
      clear BK2
      clear HB
      have HO5 := n0_
      have BK1 := n1_
      have BK2 := n2_
      have HB := n3_
      clear n0_ n1_ n2_ n3_
      have p12 : 0 ≤ (t11 : Int) := of_decide_eq_true (by first|(with_reducible assumption)|assumption)
      have q12 : t11 < (l0.length : Int) := of_decide_eq_true (by first|(with_reducible assumption)|assumption)
      obtain ⟨ad12, e12, hx12_0, hx12_1, hx12_2, hx12_3, hx12_4, hx12_5, hx12_6, hx12_7, hx12_8, hx12_9, hx12_10, hx12_11⟩ := at_T31 HR0.out t11 p12 q12
      have hw12_11 := hx12_11
      have hw12_10 := hx12_10
      have hw12_9 := hx12_9
      have hw12_8 := hx12_8
      have hw12_7 := hx12_7
      have hw12_6 := hx12_6
      have hw12_5 := hx12_5
      have hw12_4 := hx12_4
      have hw12_3 := hx12_3
      have hw12_2 := hx12_2
      have hw12_1 := hx12_1
      have hw12_0 := hx12_0
      cases e12
      replace hx12_0 := (HB.out.cell (World.block_lt_of_cell? w _ hx12_0)).trans hx12_0
      replace hx12_1 := (HB.out.cell (World.block_lt_of_cell? w _ hx12_1)).trans hx12_1
      replace hx12_2 := (HB.out.cell (World.block_lt_of_cell? w _ hx12_2)).trans hx12_2
      replace hx12_3 := (HB.out.cell (World.block_lt_of_cell? w _ hx12_3)).trans hx12_3
      replace hx12_4 := (HB.out.cell (World.block_lt_of_cell? w _ hx12_4)).trans hx12_4
      replace hx12_5 := (HB.out.cell (World.block_lt_of_cell? w _ hx12_5)).trans hx12_5
      replace hx12_6 := (HB.out.cell (World.block_lt_of_cell? w _ hx12_6)).trans hx12_6
      replace hx12_7 := (HB.out.cell (World.block_lt_of_cell? w _ hx12_7)).trans hx12_7
      replace hx12_8 := (HB.out.cell (World.block_lt_of_cell? w _ hx12_8)).trans hx12_8
      replace hx12_9 := (HB.out.cell (World.block_lt_of_cell? w _ hx12_9)).trans hx12_9
      replace hx12_10 := (HB.out.cell (World.block_lt_of_cell? w _ hx12_10)).trans hx12_10
      replace hx12_11 := (HB.out.cell (World.block_lt_of_cell? w _ hx12_11)).trans hx12_11
      replace p12 := eq_true p12
      replace q12 := eq_true q12
      refine start_ (n := 11) (S := fun w' => w'.cell? ⟨gb1, 0, none⟩ = some (.int .i64 a2_0) ∧ w'.cell? ⟨gb1, 1, none⟩ = some (.int .i64 a2_1) ∧ w'.cell? ⟨gb1, 2, none⟩ = some (.int .i64 a2_2) ∧ w'.cell? (ad12.add ((t11).toNat * 12)) = some (.string ((rd_T31 l0 t11).f0)) ∧ w'.cell? ⟨(ad12.add ((t11).toNat * 12)).block, (ad12.add ((t11).toNat * 12)).off + 1, none⟩ = some (.string ((rd_T31 l0 t11).f1)) ∧ w'.cell? ⟨(ad12.add ((t11).toNat * 12)).block, (ad12.add ((t11).toNat * 12)).off + 2, none⟩ = some (.int .i64 ((rd_T31 l0 t11).f2.f0)) ∧ w'.cell? ⟨(ad12.add ((t11).toNat * 12)).block, (ad12.add ((t11).toNat * 12)).off + 3, none⟩ = some (.int .i64 ((rd_T31 l0 t11).f2.f1)) ∧ w'.cell? ⟨(ad12.add ((t11).toNat * 12)).block, (ad12.add ((t11).toNat * 12)).off + 4, none⟩ = some (.int .i64 ((rd_T31 l0 t11).f2.f2)) ∧ w'.cell? ⟨(ad12.add ((t11).toNat * 12)).block, (ad12.add ((t11).toNat * 12)).off + 5, none⟩ = some (.int .i64 ((rd_T31 l0 t11).f3.f0)) ∧ w'.cell? ⟨(ad12.add ((t11).toNat * 12)).block, (ad12.add ((t11).toNat * 12)).off + 6, none⟩ = some (.int .i64 ((rd_T31 l0 t11).f3.f1)) ∧ w'.cell? ⟨(ad12.add ((t11).toNat * 12)).block, (ad12.add ((t11).toNat * 12)).off + 7, none⟩ = some (.int .i64 ((rd_T31 l0 t11).f3.f2)) ∧ w'.cell? ⟨(ad12.add ((t11).toNat * 12)).block, (ad12.add ((t11).toNat * 12)).off + 8, none⟩ = some (.int .i64 ((rd_T31 l0 t11).f4.f0)) ∧ w'.cell? ⟨(ad12.add ((t11).toNat * 12)).block, (ad12.add ((t11).toNat * 12)).off + 9, none⟩ = some (.int .i64 ((rd_T31 l0 t11).f4.f1)) ∧ w'.cell? ⟨(ad12.add ((t11).toNat * 12)).block, (ad12.add ((t11).toNat * 12)).off + 10, none⟩ = some (.int .i64 ((rd_T31 l0 t11).f4.f2)) ∧ w'.cell? ⟨(ad12.add ((t11).toNat * 12)).block, (ad12.add ((t11).toNat * 12)).off + 11, none⟩ = some (.int .i64 ((rd_T31 l0 t11).f5))) (ds := []) #[false, false, false, false, false, false, false, false, false, false, false] (by kernel_rfl) rfl rfl ⟨(blk_cell BK1.out 0).trans rfl, (blk_cell BK1.out 1).trans rfl, (blk_cell BK1.out 2).trans rfl, ((HB.out.cell (World.block_lt_of_cell? w _ hw12_0)).trans hw12_0), ((HB.out.cell (World.block_lt_of_cell? w _ hw12_1)).trans hw12_1), ((HB.out.cell (World.block_lt_of_cell? w _ hw12_2)).trans hw12_2), ((HB.out.cell (World.block_lt_of_cell? w _ hw12_3)).trans hw12_3), ((HB.out.cell (World.block_lt_of_cell? w _ hw12_4)).trans hw12_4), ((HB.out.cell (World.block_lt_of_cell? w _ hw12_5)).trans hw12_5), ((HB.out.cell (World.block_lt_of_cell? w _ hw12_6)).trans hw12_6), ((HB.out.cell (World.block_lt_of_cell? w _ hw12_7)).trans hw12_7), ((HB.out.cell (World.block_lt_of_cell? w _ hw12_8)).trans hw12_8), ((HB.out.cell (World.block_lt_of_cell? w _ hw12_9)).trans hw12_9), ((HB.out.cell (World.block_lt_of_cell? w _ hw12_10)).trans hw12_10), ((HB.out.cell (World.block_lt_of_cell? w _ hw12_11)).trans hw12_11)⟩ (fun hHeld => ?_); refine with_tabW r10_Release.tab6 r10_Release.bits6 (fun HT_ HW_ => ?_)
      generalize w30.drew = w32 at HO5 BK1 BK2 HB hx12_0 hx12_1 hx12_10 hx12_11 hx12_2 hx12_3 hx12_4 hx12_5 hx12_6 hx12_7 hx12_8 hx12_9 hHeld ⊢
      refine pure_ (i := 1) (N := some 27) (v := ?_) (a' := ?_) #[false, true, false, false, false, false, false, false, false, false, false] rfl rfl (any_of HT_.out (by kernel_rfl)) (fun _ _ _ h => h) (Or.inl ⟨by rfl, ?_⟩) ?_ ?_
      rotate_left
      ·intro w'
       go_simp
       with_reducible rfl
      rotate_left
      ·simp only [Act.put, List.setIfInBounds_toArray, List.set_cons_zero, List.set_cons_succ, i64_w, i32_w]
       rfl
      refine pure_ (i := 2) (N := some 28) (v := ?_) (a' := ?_) #[false, true, true, false, false, false, false, false, false, false, false] rfl rfl (any_of HT_.out (by kernel_rfl)) (fun _ _ _ h => h) (Or.inl ⟨by rfl, ?_⟩) ?_ ?_
      rotate_left
      ·intro w'
       go_simp
       with_reducible rfl
      rotate_left
      ·simp only [Act.put, List.setIfInBounds_toArray, List.set_cons_zero, List.set_cons_succ, i64_w, i32_w]
       rfl
      refine pure_ (i := 3) (N := some 29) (v := ?_) (a' := ?_) #[false, true, true, true, false, false, false, false, false, false, false] rfl rfl (any_of HT_.out (by kernel_rfl)) (fun _ _ _ h => h) (Or.inl ⟨by rfl, ?_⟩) ?_ ?_
      rotate_left
      ·intro w'
       go_simp
       with_reducible rfl
      rotate_left
      ·simp only [Act.put, List.setIfInBounds_toArray, List.set_cons_zero, List.set_cons_succ, i64_w, i32_w]
       rfl
      refine take_ (i := 0) (N := some 26) (v := ?_) (a' := ?_) #[true, true, true, true, false, false, false, false, false, false, false] rfl rfl (take_ofW HT_.out HW_.out (by kernel_rfl)) (fun _ _ _ h => h) (Or.inl ⟨by rfl, ?_⟩) hHeld ?_ ?_
      rotate_left
      ·rintro w' ⟨s0, s1, s2, s3, s4, s5, s6, s7, s8, s9, s10, s11, s12, s13, s14⟩
       go_simp
       with_reducible rfl
      rotate_left
      ·simp only [Act.put, List.setIfInBounds_toArray, List.set_cons_zero, List.set_cons_succ, i64_w, i32_w]
       rfl
      refine one_ (i := 4) (N := some 30) #[true, true, true, true, true, false, false, false, false, false, false] rfl rfl (one_of HT_.out (by kernel_rfl)) (by decide) (fun K hK => ?_)
      refine goes_ Try.func50 (by kernel_rfl) rfl #[.slice (some ad12) l0.length c0, .string a1] (by rfl) rfl rfl (by (try simp only [List.map_toArray, List.map_cons, List.map_nil]); first | done | rfl | (simp only [List.length_drop, List.length_take]; rfl)) ?_
      with_reducible refine (r10_Find.calls k _ _ l0 a1 t11 _ ?side1 ?side2 A19.out).mono ?_
      (case side1 => repeat (first|exact (Kd.C_below HR0.out HB.out)|(with_reducible refine Kd.C_alloc ?_ _)|(with_reducible refine Kd.C_drewN ?_ _)|(with_reducible refine Kd.C_drew ?_)))
      (case side2 => exact HC0.out)
      rintro e w' ⟨rfl, ⟨nd, rfl⟩⟩
      refine ⟨_, rfl, ?_⟩
      refine hK.out _ _ ⟨(blk_cell BK1.out 0).trans rfl, (blk_cell BK1.out 1).trans rfl, (blk_cell BK1.out 2).trans rfl, ((HB.out.cell (World.block_lt_of_cell? w _ hw12_0)).trans hw12_0), ((HB.out.cell (World.block_lt_of_cell? w _ hw12_1)).trans hw12_1), ((HB.out.cell (World.block_lt_of_cell? w _ hw12_2)).trans hw12_2), ((HB.out.cell (World.block_lt_of_cell? w _ hw12_3)).trans hw12_3), ((HB.out.cell (World.block_lt_of_cell? w _ hw12_4)).trans hw12_4), ((HB.out.cell (World.block_lt_of_cell? w _ hw12_5)).trans hw12_5), ((HB.out.cell (World.block_lt_of_cell? w _ hw12_6)).trans hw12_6), ((HB.out.cell (World.block_lt_of_cell? w _ hw12_7)).trans hw12_7), ((HB.out.cell (World.block_lt_of_cell? w _ hw12_8)).trans hw12_8), ((HB.out.cell (World.block_lt_of_cell? w _ hw12_9)).trans hw12_9), ((HB.out.cell (World.block_lt_of_cell? w _ hw12_10)).trans hw12_10), ((HB.out.cell (World.block_lt_of_cell? w _ hw12_11)).trans hw12_11)⟩ (fun hHeld => ?_)
      clear hK K
      refine norm_ (a' := ?_) ?_ ?_
      rotate_left
      ·show Act.put _ (some 30) _ = _
       simp only [Act.put, List.setIfInBounds_toArray, List.set_cons_zero, List.set_cons_succ, i64_w, i32_w]
       rfl
      refine pure_ (i := 5) (N := some 31) (v := ?_) (a' := ?_) #[true, true, true, true, true, true, false, false, false, false, false] rfl rfl (any_of HT_.out (by kernel_rfl)) (fun _ _ _ h => h) (Or.inl ⟨by rfl, ?_⟩) ?_ ?_
      rotate_left
      ·intro w'
       go_simp
       with_reducible rfl
      rotate_left
      ·simp only [Act.put, List.setIfInBounds_toArray, List.set_cons_zero, List.set_cons_succ, i64_w, i32_w]
       rfl
      refine pure_ (i := 6) (N := some 32) (v := ?_) (a' := ?_) #[true, true, true, true, true, true, true, false, false, false, false] rfl rfl (any_of HT_.out (by kernel_rfl)) (fun _ _ _ h => h) (Or.inl ⟨by rfl, ?_⟩) ?_ ?_
      rotate_left
      ·intro w'
       go_simp
       with_reducible rfl
      rotate_left
      ·simp only [Act.put, List.setIfInBounds_toArray, List.set_cons_zero, List.set_cons_succ, i64_w, i32_w]
       rfl
      refine take_ (i := 7) (N := some 33) (v := ?_) (a' := ?_) #[true, true, true, true, true, true, true, true, false, false, false] rfl rfl (take_ofW HT_.out HW_.out (by kernel_rfl)) (fun _ _ _ h => h) (Or.inl ⟨by rfl, ?_⟩) hHeld ?_ ?_
      rotate_left
      ·rintro w' ⟨s0, s1, s2, s3, s4, s5, s6, s7, s8, s9, s10, s11, s12, s13, s14⟩
       go_simp
       with_reducible rfl
      rotate_left
      ·simp only [Act.put, List.setIfInBounds_toArray, List.set_cons_zero, List.set_cons_succ, i64_w, i32_w]
       rfl
      refine one_ (i := 8) (N := some 34) #[true, true, true, true, true, true, true, true, true, false, false] rfl rfl (one_of HT_.out (by kernel_rfl)) (by decide) (fun K hK => ?_)
      refine goes_ Try.func34 (by kernel_rfl) rfl #[.agg #[.int .i64 a2_0, .int .i64 a2_1, .int .i64 a2_2], .agg #[.int .i64 ((rd_T31 l0 t11).f3.f0), .int .i64 ((rd_T31 l0 t11).f3.f1), .int .i64 ((rd_T31 l0 t11).f3.f2)]] (by rfl) rfl rfl (by (try simp only [List.map_toArray, List.map_cons, List.map_nil]); first | done | rfl | (simp only [List.length_drop, List.length_take]; rfl)) ?_
      with_reducible refine (r10_Le.calls a2_0 a2_1 a2_2 ((rd_T31 l0 t11).f3.f0) ((rd_T31 l0 t11).f3.f1) ((rd_T31 l0 t11).f3.f2) true _ A22.out).mono ?_
      rintro e w33 ⟨rfl, hb⟩
      refine ⟨_, rfl, ?_⟩
      have n0_ := Aside0.mk (Kd.R_below (by (with_reducible repeat (first|apply Kd.R_alloc|apply Kd.R_drewN|apply Kd.R_drew));exact HO5.out) hb)
      have n1_ := Aside0.mk (blk_below (g := gb1) (o := .cells #[.int .i64 a2_0, .int .i64 a2_1, .int .i64 a2_2] 27 (0, 0)) (by (with_reducible repeat (first|refine blk_drewN ?_ _|refine blk_drew ?_|refine blk_alloc ?_ _));exact BK1.out) hb)
      have n2_ := Aside0.mk (blk_below (g := gb2) (o := .cells #[.slice none 0 0, .int .i64 0] 67 (0, 0)) (by (with_reducible repeat (first|refine blk_drewN ?_ _|refine blk_drew ?_|refine blk_alloc ?_ _));exact BK2.out) hb)
      have n3_ := Aside0.mk (below_step (by repeat (first|(with_reducible first|exact HB.out|apply below_alloc|apply pw_below_drewN|apply below_drew1|refine below_set ?_ GE1.out|refine below_set ?_ GE2.out)|exact HB.out)) hb)
      clear HO5
      clear BK1
      clear BK2
      clear HB
      have HO5 := n0_
      have BK1 := n1_
      have BK2 := n2_
      have HB := n3_
      clear n0_ n1_ n2_ n3_
      (try clear hb)
      (try clear hb2)
      (try clear hk)
      (try clear hi)
      refine hK.out _ _ ⟨(blk_cell BK1.out 0).trans rfl, (blk_cell BK1.out 1).trans rfl, (blk_cell BK1.out 2).trans rfl, ((HB.out.cell (World.block_lt_of_cell? w _ hw12_0)).trans hw12_0), ((HB.out.cell (World.block_lt_of_cell? w _ hw12_1)).trans hw12_1), ((HB.out.cell (World.block_lt_of_cell? w _ hw12_2)).trans hw12_2), ((HB.out.cell (World.block_lt_of_cell? w _ hw12_3)).trans hw12_3), ((HB.out.cell (World.block_lt_of_cell? w _ hw12_4)).trans hw12_4), ((HB.out.cell (World.block_lt_of_cell? w _ hw12_5)).trans hw12_5), ((HB.out.cell (World.block_lt_of_cell? w _ hw12_6)).trans hw12_6), ((HB.out.cell (World.block_lt_of_cell? w _ hw12_7)).trans hw12_7), ((HB.out.cell (World.block_lt_of_cell? w _ hw12_8)).trans hw12_8), ((HB.out.cell (World.block_lt_of_cell? w _ hw12_9)).trans hw12_9), ((HB.out.cell (World.block_lt_of_cell? w _ hw12_10)).trans hw12_10), ((HB.out.cell (World.block_lt_of_cell? w _ hw12_11)).trans hw12_11)⟩ (fun hHeld => ?_)
      clear hK K
      refine norm_ (a' := ?_) ?_ ?_
      rotate_left
      ·show Act.put _ (some 34) _ = _
       simp only [Act.put, List.setIfInBounds_toArray, List.set_cons_zero, List.set_cons_succ, i64_w, i32_w]
       rfl
      refine pure_ (i := 9) (N := some 35) (v := ?_) (a' := ?_) #[true, true, true, true, true, true, true, true, true, true, false] rfl rfl (any_of HT_.out (by kernel_rfl)) (fun _ _ _ h => h) (Or.inl ⟨by rfl, ?_⟩) ?_ ?_
      rotate_left
      ·intro w'
       go_simp
       with_reducible rfl
      rotate_left
      ·simp only [Act.put, List.setIfInBounds_toArray, List.set_cons_zero, List.set_cons_succ, i64_w, i32_w]
       rfl
      refine pure_ (i := 10) (N := some 25) (v := ?_) (a' := ?_) #[true, true, true, true, true, true, true, true, true, true, true] rfl rfl (any_of HT_.out (by kernel_rfl)) (fun _ _ _ h => h) (Or.inl ⟨by rfl, ?_⟩) ?_ ?_
      rotate_left
      ·intro w'
       go_simp
       with_reducible rfl
      rotate_left
      ·simp only [Act.put, List.setIfInBounds_toArray, List.set_cons_zero, List.set_cons_succ, i64_w, i32_w]
       rfl
      refine done_ (done_of HT_.out (by kernel_rfl)) ?_
      try go_wp2_with (first|((with_reducible refine gate_callee (f := 124) rfl ?_);refine goesL_ (some 38) rfl rfl Try.func124 (by kernel_rfl) rfl #[.slice (some ad12) l0.length c0] rfl (by (try simp only [List.map_toArray, List.map_cons, List.map_nil]);first|done|rfl|(simp only [List.length_drop, List.length_take];rfl)) ?_;(with_reducible refine (r10_copied.calls _ _ l0 t22 _ ?side1 ?side2 A24.out).mono ?_);(case side1 => repeat (first|exact (Kd.C_below HR0.out HB.out)|(with_reducible refine Kd.C_alloc ?_ _)|(with_reducible refine Kd.C_drewN ?_ _)|(with_reducible refine Kd.C_drew ?_)));(case side2 => exact HC0.out);rintro e w34 ⟨v23, rfl, ho0, hb⟩;refine ⟨_, rfl, ?_⟩;have n0_ := Aside0.mk (Kd.R_below (by (with_reducible repeat (first|apply Kd.R_alloc|apply Kd.R_drewN|apply Kd.R_drew));exact HO5.out) hb);have n1_ := Aside0.mk (Kd.R_lower ho0 (below_size (by repeat (first|(with_reducible first|exact HB.out|apply below_alloc|apply pw_below_drewN|apply below_drew1|refine below_set ?_ GE1.out|refine below_set ?_ GE2.out)|exact HB.out))));have n2_ := Aside0.mk (blk_below (g := gb1) (o := .cells #[.int .i64 a2_0, .int .i64 a2_1, .int .i64 a2_2] 27 (0, 0)) (by (with_reducible repeat (first|refine blk_drewN ?_ _|refine blk_drew ?_|refine blk_alloc ?_ _));exact BK1.out) hb);have n3_ := Aside0.mk (blk_below (g := gb2) (o := .cells #[.slice none 0 0, .int .i64 0] 67 (0, 0)) (by (with_reducible repeat (first|refine blk_drewN ?_ _|refine blk_drew ?_|refine blk_alloc ?_ _));exact BK2.out) hb);have n4_ := Aside0.mk (below_step (by repeat (first|(with_reducible first|exact HB.out|apply below_alloc|apply pw_below_drewN|apply below_drew1|refine below_set ?_ GE1.out|refine below_set ?_ GE2.out)|exact HB.out)) hb);clear HO5;clear BK1;clear BK2;clear HB;have HO5 := n0_;have HO24 := n1_;have BK1 := n2_;have BK2 := n3_;have HB := n4_;clear n0_ n1_ n2_ n3_ n4_;(try clear hb);(try clear hb2);(try clear hk);(try clear hi);(try clear ho0)))
      go_loopg [9] k (fun kq v9 w' => ∃ (x8_1 : List (S31)) (x9_1 : Int), v9 = .int .i64 x9_1 ∧ Aside0 (r10_Release.l0 kq a1 t3 x8_1 x9_1 a2_0 a2_1 a2_2 = some (r1, r2)) ∧ Aside0 (kq ≤ k) ∧ Aside0 (Kd.R Kd.string 9 w' w.heap.size (fun _ => True) (.slice Ao31 t3.length co31) t3) ∧ Aside0 (Kd.R k31 31 w' w.heap.size (fun _ => True) v23 x8_1) ∧ Aside0 (w'.heap[gb1]? = some (.cells #[.int .i64 a2_0, .int .i64 a2_1, .int .i64 a2_2] 27 (0, 0))) ∧ Aside0 (w'.heap[gb2]? = some (.cells #[(.slice none 0 0), .int .i64 0] 67 (0, 0))) ∧ Aside0 (Below w.heap.size w w'))
      case atStart => exact ⟨(t22), (0), (by first|rfl|(simp;done)|(simp [*];done)), H', ⟨Nat.le_refl _⟩, ⟨by (with_reducible repeat (first|apply Kd.R_alloc|apply Kd.R_drewN|apply Kd.R_drew));exact HO5.out⟩, ⟨by (with_reducible repeat (first|apply Kd.R_alloc|apply Kd.R_drewN|apply Kd.R_drew));exact HO24.out⟩, ⟨by (with_reducible repeat (first|refine blk_drewN ?_ _|refine blk_drew ?_|refine blk_alloc ?_ _));exact BK1.out⟩, ⟨by (with_reducible repeat (first|refine blk_drewN ?_ _|refine blk_drew ?_|refine blk_alloc ?_ _));exact BK2.out⟩, ⟨by repeat (first|(with_reducible first|exact HB.out|apply below_alloc|apply pw_below_drewN|apply below_drew1|refine below_set ?_ GE1.out|refine below_set ?_ GE2.out)|exact HB.out)⟩⟩
      case round =>
       clear H'
       try clear c1
       try clear p1
       try clear q1
       try clear hx1
       try clear c2
       try clear p2
       try clear c3
       try clear c5
       try clear c6
       try clear c7
       try clear c7b0
       try clear c7b1
       try clear c7b2
       try clear c10
       try clear c11
       try clear c12
       try clear p12
       try clear q12
       try clear hx12
       try clear c20
       try clear c20b0
       try clear c21
       try clear c21b0
       try clear c23
       try clear c28
       try clear c34
       try clear hcz13_0
       try clear hcz13_1
       try clear hcz13_2
       try clear hcz18_0
       try clear hcz18_1
       try clear hcz29_0
       try clear hcz29_1
       try clear hcz29_2
       try clear hfz13_0
       try clear hfz13_1
       try clear hfz13_2
       try clear hfz18_0
       try clear hfz18_1
       try clear hfz29_0
       try clear hfz29_1
       try clear hfz29_2
       try clear hx12_0
       try clear hx12_1
       try clear hx12_10
       try clear hx12_11
       try clear hx12_2
       try clear hx12_3
       try clear hx12_4
       try clear hx12_5
       try clear hx12_6
       try clear hx12_7
       try clear hx12_8
       try clear hx12_9
       try clear p12
       try clear q12
       obtain ⟨x8_1, x9_1, rfl, HA, HK1, HO_7, HO_8, BK1, BK2, HB⟩ := hrel
       cases gk with
       | zero => exact absurd HA.out (by simp [r10_Release.l0])
       | succ k1 =>
        have H := HA.out
        clear HA
        simp only [r10_Release.l0] at H
        by_cases c35 : x9_1 < (t3.length : Int)
        ·rw [if_pos c35] at H
         have c35b0 : decide (x9_1 < (t3.length : Int)) = true := decide_eq_true c35
         clear c35
         by_cases c36 : 0 ≤ x9_1
         ·rw [if_pos c36] at H
          have c36b0 : decide (0 ≤ x9_1) = true := decide_eq_true c36
          clear c36
          replace H := Option.bind_eq_some_iff.mp H
          obtain ⟨t26, A370, H⟩ := H
          replace H : (if 0 ≤ t26 then (if t26 < (x8_1.length : Int) then ((r10_Sub.f ((rd_T31 x8_1 t26).f4.f0) ((rd_T31 x8_1 t26).f4.f1) ((rd_T31 x8_1 t26).f4.f2) a2_0 a2_1 a2_2).bind fun bt28 => (r10_Release.l0 k1 a1 t3 (x8_1.set (t26 : Int).toNat (⟨(rd_T31 x8_1 t26).f0, (rd_T31 x8_1 t26).f1, (⟨(rd_T31 x8_1 t26).f2.f0, (rd_T31 x8_1 t26).f2.f1, (rd_T31 x8_1 t26).f2.f2⟩ : S27), (⟨(rd_T31 x8_1 t26).f3.f0, (rd_T31 x8_1 t26).f3.f1, (rd_T31 x8_1 t26).f3.f2⟩ : S27), (⟨bt28.1, bt28.2.1, bt28.2.2⟩ : S27), (rd_T31 x8_1 t26).f5⟩ : S31)) (wrap64 (x9_1 + 1)) a2_0 a2_1 a2_2)) else (none)) else (none)) = some (r1, r2) := H
          have A37 := Aside0.mk A370
          clear A370
          by_cases c38 : 0 ≤ t26
          ·rw [if_pos c38] at H
           have c38b0 : decide (0 ≤ t26) = true := decide_eq_true c38
           clear c38
           by_cases c39 : t26 < (x8_1.length : Int)
           ·rw [if_pos c39] at H
            have c39b0 : decide (t26 < (x8_1.length : Int)) = true := decide_eq_true c39
            clear c39
            replace H := Option.bind_eq_some_iff.mp H
            obtain ⟨⟨t28, t29, t30⟩, A400, H⟩ := H
            replace H : (r10_Release.l0 k1 a1 t3 (x8_1.set (t26 : Int).toNat (⟨(rd_T31 x8_1 t26).f0, (rd_T31 x8_1 t26).f1, (⟨(rd_T31 x8_1 t26).f2.f0, (rd_T31 x8_1 t26).f2.f1, (rd_T31 x8_1 t26).f2.f2⟩ : S27), (⟨(rd_T31 x8_1 t26).f3.f0, (rd_T31 x8_1 t26).f3.f1, (rd_T31 x8_1 t26).f3.f2⟩ : S27), (⟨t28, t29, t30⟩ : S27), (rd_T31 x8_1 t26).f5⟩ : S31)) (wrap64 (x9_1 + 1)) a2_0 a2_1 a2_2) = some (r1, r2) := H
            have A40 := Aside0.mk A400
            clear A400
            obtain ⟨y31, hy31⟩ : ∃ y_ : List (S31), y_ = (x8_1.set (t26 : Int).toNat (⟨(rd_T31 x8_1 t26).f0, (rd_T31 x8_1 t26).f1, (⟨(rd_T31 x8_1 t26).f2.f0, (rd_T31 x8_1 t26).f2.f1, (rd_T31 x8_1 t26).f2.f2⟩ : S27), (⟨(rd_T31 x8_1 t26).f3.f0, (rd_T31 x8_1 t26).f3.f1, (rd_T31 x8_1 t26).f3.f2⟩ : S27), (⟨t28, t29, t30⟩ : S27), (rd_T31 x8_1 t26).f5⟩ : S31)) := ⟨_, rfl⟩
            replace H : (r10_Release.l0 k1 a1 t3 y31 (wrap64 (x9_1 + 1)) a2_0 a2_1 a2_2) = some (r1, r2) := by first|(rw [hy31];with_reducible exact H)|(have H2_ := (Option.bind_some _ _).symm.trans H;rw [hy31];with_reducible exact H2_)|(have H2_ := (Option.bind_some _ _).symm.trans H;with_reducible exact H2_)|with_reducible exact H|(rw [hy31];exact H)|exact H
            have Ny31 := Aside0.mk hy31
            clear hy31
            have H' := Aside0.mk H
            clear H
            have p25 : 0 ≤ (x9_1 : Int) := of_decide_eq_true (by first|(with_reducible assumption)|assumption)
            have q25 : x9_1 < (t3.length : Int) := of_decide_eq_true (by first|(with_reducible assumption)|assumption)
            obtain ⟨ad25, e25, hx25_0⟩ := Kd.at_string (Kd.R_reads' HO_7.out).2.2 x9_1 p25 q25
            cases e25
            replace p25 := eq_true p25
            replace q25 := eq_true q25
            obtain ⟨Ao42, co42, eo42⟩ := Kd.R_slice HO_8.out
            subst eo42
            try go_wp2_with (first|((with_reducible refine gate_callee (f := 50) rfl ?_);refine goesL_ (some 50) rfl rfl Try.func50 (by kernel_rfl) rfl #[.slice Ao42 x8_1.length co42, .string (rdOf ByteArray.empty t3 x9_1)] rfl (by (try simp only [List.map_toArray, List.map_cons, List.map_nil]);first|done|rfl|(simp only [List.length_drop, List.length_take];rfl)) ?_;(with_reducible refine (r10_Find.calls k1 _ _ x8_1 (rdOf ByteArray.empty t3 x9_1) t26 _ ?side1 ?side2 A37.out).mono ?_);(case side1 => repeat (first|exact (Kd.R_reads' HO_8.out).2.2|(with_reducible refine Kd.C_alloc ?_ _)|(with_reducible refine Kd.C_drewN ?_ _)|(with_reducible refine Kd.C_drew ?_)));(case side2 => exact (Kd.R_reads' HO_8.out).2.1);rintro e w' ⟨rfl, ⟨nd, rfl⟩⟩;refine ⟨_, rfl, ?_⟩;(try (rw [drewN_self wr];generalize hq_ : World.drewN wr _ = wr;have n0_ : Aside0 (Kd.R Kd.string 9 wr w.heap.size (fun _ => True) (.slice (some ad25) t3.length co31) t3) := ⟨by rw [← hq_];exact (by (with_reducible repeat (first|apply Kd.R_alloc|apply Kd.R_drewN|apply Kd.R_drew));exact HO_7.out)⟩;have n1_ : Aside0 (Kd.R k31 31 wr w.heap.size (fun _ => True) (.slice Ao42 x8_1.length co42) x8_1) := ⟨by rw [← hq_];exact (by (with_reducible repeat (first|apply Kd.R_alloc|apply Kd.R_drewN|apply Kd.R_drew));exact HO_8.out)⟩;have n2_ : Aside0 (wr.heap[gb1]? = some (.cells #[.int .i64 a2_0, .int .i64 a2_1, .int .i64 a2_2] 27 (0, 0))) := ⟨by rw [← hq_];exact (by (with_reducible repeat (first|refine blk_drewN ?_ _|refine blk_drew ?_|refine blk_alloc ?_ _));exact BK1.out)⟩;have n3_ : Aside0 (wr.heap[gb2]? = some (.cells #[.slice none 0 0, .int .i64 0] 67 (0, 0))) := ⟨by rw [← hq_];exact (by (with_reducible repeat (first|refine blk_drewN ?_ _|refine blk_drew ?_|refine blk_alloc ?_ _));exact BK2.out)⟩;have n4_ : Aside0 (Below w.heap.size w wr) := ⟨by rw [← hq_];exact (by repeat (first|(with_reducible first|exact HB.out|apply below_alloc|apply pw_below_drewN|apply below_drew1|refine below_set ?_ GE1.out|refine below_set ?_ GE2.out)|exact HB.out))⟩;clear HO_7 HO_8 BK1 BK2 HB hq_;have HO_7 := n0_;have HO_8 := n1_;have BK1 := n2_;have BK2 := n3_;have HB := n4_;clear n0_ n1_ n2_ n3_ n4_))))
            have n0_ := Aside0.mk (Kd.R_drew HO_7.out)
            have n1_ := Aside0.mk (Kd.R_drew HO_8.out)
            have n2_ := Aside0.mk (blk_drew BK1.out)
            have n3_ := Aside0.mk (blk_drew BK2.out)
            have n4_ := Aside0.mk (below_drew1 HB.out)
            clear HO_7
            clear HO_8
            clear BK1
            clear BK2
            clear HB
            have HO_7 := n0_
            have HO_8 := n1_
            have BK1 := n2_
            have BK2 := n3_
            have HB := n4_
            clear n0_ n1_ n2_ n3_ n4_
            have p27 : 0 ≤ (t26 : Int) := of_decide_eq_true (by first|(with_reducible assumption)|assumption)
            have q27 : t26 < (x8_1.length : Int) := of_decide_eq_true (by first|(with_reducible assumption)|assumption)
            obtain ⟨ad27, e27, hx27_0, hx27_1, hx27_2, hx27_3, hx27_4, hx27_5, hx27_6, hx27_7, hx27_8, hx27_9, hx27_10, hx27_11⟩ := at_T31 (Kd.R_reads' HO_8.out).2.2 t26 p27 q27
            cases e27
            replace p27 := eq_true p27
            replace q27 := eq_true q27
            refine start_ (n := 12) (S := fun w' => w'.cell? ⟨gb1, 0, none⟩ = some (.int .i64 a2_0) ∧ w'.cell? ⟨gb1, 1, none⟩ = some (.int .i64 a2_1) ∧ w'.cell? ⟨gb1, 2, none⟩ = some (.int .i64 a2_2) ∧ w'.cell? (ad27.add ((t26).toNat * 12)) = some (.string ((rd_T31 x8_1 t26).f0)) ∧ w'.cell? ⟨(ad27.add ((t26).toNat * 12)).block, (ad27.add ((t26).toNat * 12)).off + 1, none⟩ = some (.string ((rd_T31 x8_1 t26).f1)) ∧ w'.cell? ⟨(ad27.add ((t26).toNat * 12)).block, (ad27.add ((t26).toNat * 12)).off + 2, none⟩ = some (.int .i64 ((rd_T31 x8_1 t26).f2.f0)) ∧ w'.cell? ⟨(ad27.add ((t26).toNat * 12)).block, (ad27.add ((t26).toNat * 12)).off + 3, none⟩ = some (.int .i64 ((rd_T31 x8_1 t26).f2.f1)) ∧ w'.cell? ⟨(ad27.add ((t26).toNat * 12)).block, (ad27.add ((t26).toNat * 12)).off + 4, none⟩ = some (.int .i64 ((rd_T31 x8_1 t26).f2.f2)) ∧ w'.cell? ⟨(ad27.add ((t26).toNat * 12)).block, (ad27.add ((t26).toNat * 12)).off + 5, none⟩ = some (.int .i64 ((rd_T31 x8_1 t26).f3.f0)) ∧ w'.cell? ⟨(ad27.add ((t26).toNat * 12)).block, (ad27.add ((t26).toNat * 12)).off + 6, none⟩ = some (.int .i64 ((rd_T31 x8_1 t26).f3.f1)) ∧ w'.cell? ⟨(ad27.add ((t26).toNat * 12)).block, (ad27.add ((t26).toNat * 12)).off + 7, none⟩ = some (.int .i64 ((rd_T31 x8_1 t26).f3.f2)) ∧ w'.cell? ⟨(ad27.add ((t26).toNat * 12)).block, (ad27.add ((t26).toNat * 12)).off + 8, none⟩ = some (.int .i64 ((rd_T31 x8_1 t26).f4.f0)) ∧ w'.cell? ⟨(ad27.add ((t26).toNat * 12)).block, (ad27.add ((t26).toNat * 12)).off + 9, none⟩ = some (.int .i64 ((rd_T31 x8_1 t26).f4.f1)) ∧ w'.cell? ⟨(ad27.add ((t26).toNat * 12)).block, (ad27.add ((t26).toNat * 12)).off + 10, none⟩ = some (.int .i64 ((rd_T31 x8_1 t26).f4.f2)) ∧ w'.cell? ⟨(ad27.add ((t26).toNat * 12)).block, (ad27.add ((t26).toNat * 12)).off + 11, none⟩ = some (.int .i64 ((rd_T31 x8_1 t26).f5))) (ds := [11]) #[false, false, false, false, false, false, false, false, false, false, false, false] (by kernel_rfl) rfl rfl ⟨(blk_cell BK1.out 0).trans rfl, (blk_cell BK1.out 1).trans rfl, (blk_cell BK1.out 2).trans rfl, hx27_0, hx27_1, hx27_2, hx27_3, hx27_4, hx27_5, hx27_6, hx27_7, hx27_8, hx27_9, hx27_10, hx27_11⟩ (fun hHeld => ?_); refine with_tabW r10_Release.tab13 r10_Release.bits13 (fun HT_ HW_ => ?_)
            generalize wr.drew = w43 at HO_7 HO_8 BK1 BK2 HB hx27_0 hx27_1 hx27_10 hx27_11 hx27_2 hx27_3 hx27_4 hx27_5 hx27_6 hx27_7 hx27_8 hx27_9 hHeld ⊢
            refine pure_ (i := 0) (N := some 51) (v := ?_) (a' := ?_) #[true, false, false, false, false, false, false, false, false, false, false, false] rfl rfl (any_of HT_.out (by kernel_rfl)) (fun _ _ _ h => h) (Or.inl ⟨by rfl, ?_⟩) ?_ ?_
            rotate_left
            ·intro w'
             go_simp
             with_reducible rfl
            rotate_left
            ·simp only [Act.put, List.setIfInBounds_toArray, List.set_cons_zero, List.set_cons_succ, i64_w, i32_w]
             rfl
            refine pure_ (i := 1) (N := some 52) (v := ?_) (a' := ?_) #[true, true, false, false, false, false, false, false, false, false, false, false] rfl rfl (any_of HT_.out (by kernel_rfl)) (fun _ _ _ h => h) (Or.inl ⟨by rfl, ?_⟩) ?_ ?_
            rotate_left
            ·intro w'
             go_simp
             with_reducible rfl
            rotate_left
            ·simp only [Act.put, List.setIfInBounds_toArray, List.set_cons_zero, List.set_cons_succ, i64_w, i32_w]
             rfl
            refine pure_ (i := 2) (N := some 53) (v := ?_) (a' := ?_) #[true, true, true, false, false, false, false, false, false, false, false, false] rfl rfl (any_of HT_.out (by kernel_rfl)) (fun _ _ _ h => h) (Or.inl ⟨by rfl, ?_⟩) ?_ ?_
            rotate_left
            ·intro w'
             go_simp
             with_reducible rfl
            rotate_left
            ·simp only [Act.put, List.setIfInBounds_toArray, List.set_cons_zero, List.set_cons_succ, i64_w, i32_w]
             rfl
            refine pure_ (i := 3) (N := some 54) (v := ?_) (a' := ?_) #[true, true, true, true, false, false, false, false, false, false, false, false] rfl rfl (any_of HT_.out (by kernel_rfl)) (fun _ _ _ h => h) (Or.inl ⟨by rfl, ?_⟩) ?_ ?_
            rotate_left
            ·intro w'
             go_simp
             with_reducible rfl
            rotate_left
            ·simp only [Act.put, List.setIfInBounds_toArray, List.set_cons_zero, List.set_cons_succ, i64_w, i32_w]
             rfl
            refine pure_ (i := 4) (N := some 55) (v := ?_) (a' := ?_) #[true, true, true, true, true, false, false, false, false, false, false, false] rfl rfl (any_of HT_.out (by kernel_rfl)) (fun _ _ _ h => h) (Or.inl ⟨by rfl, ?_⟩) ?_ ?_
            rotate_left
            ·intro w'
             go_simp
             with_reducible rfl
            rotate_left
            ·simp only [Act.put, List.setIfInBounds_toArray, List.set_cons_zero, List.set_cons_succ, i64_w, i32_w]
             rfl
            refine pure_ (i := 5) (N := some 56) (v := ?_) (a' := ?_) #[true, true, true, true, true, true, false, false, false, false, false, false] rfl rfl (any_of HT_.out (by kernel_rfl)) (fun _ _ _ h => h) (Or.inl ⟨by rfl, ?_⟩) ?_ ?_
            rotate_left
            ·intro w'
             go_simp
             with_reducible rfl
            rotate_left
            ·simp only [Act.put, List.setIfInBounds_toArray, List.set_cons_zero, List.set_cons_succ, i64_w, i32_w]
             rfl
            refine take_ (i := 6) (N := some 57) (v := ?_) (a' := ?_) #[true, true, true, true, true, true, true, false, false, false, false, false] rfl rfl (take_ofW HT_.out HW_.out (by kernel_rfl)) (fun _ _ _ h => h) (Or.inl ⟨by rfl, ?_⟩) hHeld ?_ ?_
            rotate_left
            ·rintro w' ⟨s0, s1, s2, s3, s4, s5, s6, s7, s8, s9, s10, s11, s12, s13, s14⟩
             go_simp
             with_reducible rfl
            rotate_left
            ·simp only [Act.put, List.setIfInBounds_toArray, List.set_cons_zero, List.set_cons_succ, i64_w, i32_w]
             rfl
            refine take_ (i := 7) (N := some 58) (v := ?_) (a' := ?_) #[true, true, true, true, true, true, true, true, false, false, false, false] rfl rfl (take_ofW HT_.out HW_.out (by kernel_rfl)) (fun _ _ _ h => h) (Or.inl ⟨by rfl, ?_⟩) hHeld ?_ ?_
            rotate_left
            ·rintro w' ⟨s0, s1, s2, s3, s4, s5, s6, s7, s8, s9, s10, s11, s12, s13, s14⟩
             go_simp
             with_reducible rfl
            rotate_left
            ·simp only [Act.put, List.setIfInBounds_toArray, List.set_cons_zero, List.set_cons_succ, i64_w, i32_w]
             rfl
            refine one_ (i := 8) (N := some 59) #[true, true, true, true, true, true, true, true, true, false, false, false] rfl rfl (one_of HT_.out (by kernel_rfl)) (by decide) (fun K hK => ?_)
            refine goes_ Try.func35 (by kernel_rfl) rfl #[.agg #[.int .i64 ((rd_T31 x8_1 t26).f4.f0), .int .i64 ((rd_T31 x8_1 t26).f4.f1), .int .i64 ((rd_T31 x8_1 t26).f4.f2)], .agg #[.int .i64 a2_0, .int .i64 a2_1, .int .i64 a2_2]] (by rfl) rfl rfl (by (try simp only [List.map_toArray, List.map_cons, List.map_nil]); first | done | rfl | (simp only [List.length_drop, List.length_take]; rfl)) ?_
            with_reducible refine (r10_Sub.calls ((rd_T31 x8_1 t26).f4.f0) ((rd_T31 x8_1 t26).f4.f1) ((rd_T31 x8_1 t26).f4.f2) a2_0 a2_1 a2_2 t28 t29 t30 _ A40.out).mono ?_
            rintro e w44 ⟨rfl, hb⟩
            have HS3_ := (hb.cell (World.block_lt_of_cell? _ _ (hHeld.2.2.2.1))).trans (hHeld.2.2.2.1)
            have HS4_ := (hb.cell (World.block_lt_of_cell? _ _ (hHeld.2.2.2.2.1))).trans (hHeld.2.2.2.2.1)
            have HS5_ := (hb.cell (World.block_lt_of_cell? _ _ (hHeld.2.2.2.2.2.1))).trans (hHeld.2.2.2.2.2.1)
            have HS6_ := (hb.cell (World.block_lt_of_cell? _ _ (hHeld.2.2.2.2.2.2.1))).trans (hHeld.2.2.2.2.2.2.1)
            have HS7_ := (hb.cell (World.block_lt_of_cell? _ _ (hHeld.2.2.2.2.2.2.2.1))).trans (hHeld.2.2.2.2.2.2.2.1)
            have HS8_ := (hb.cell (World.block_lt_of_cell? _ _ (hHeld.2.2.2.2.2.2.2.2.1))).trans (hHeld.2.2.2.2.2.2.2.2.1)
            have HS9_ := (hb.cell (World.block_lt_of_cell? _ _ (hHeld.2.2.2.2.2.2.2.2.2.1))).trans (hHeld.2.2.2.2.2.2.2.2.2.1)
            have HS10_ := (hb.cell (World.block_lt_of_cell? _ _ (hHeld.2.2.2.2.2.2.2.2.2.2.1))).trans (hHeld.2.2.2.2.2.2.2.2.2.2.1)
            have HS11_ := (hb.cell (World.block_lt_of_cell? _ _ (hHeld.2.2.2.2.2.2.2.2.2.2.2.1))).trans (hHeld.2.2.2.2.2.2.2.2.2.2.2.1)
            have HS12_ := (hb.cell (World.block_lt_of_cell? _ _ (hHeld.2.2.2.2.2.2.2.2.2.2.2.2.1))).trans (hHeld.2.2.2.2.2.2.2.2.2.2.2.2.1)
            have HS13_ := (hb.cell (World.block_lt_of_cell? _ _ (hHeld.2.2.2.2.2.2.2.2.2.2.2.2.2.1))).trans (hHeld.2.2.2.2.2.2.2.2.2.2.2.2.2.1)
            have HS14_ := (hb.cell (World.block_lt_of_cell? _ _ (hHeld.2.2.2.2.2.2.2.2.2.2.2.2.2.2))).trans (hHeld.2.2.2.2.2.2.2.2.2.2.2.2.2.2)
            refine ⟨_, rfl, ?_⟩
            have n0_ := Aside0.mk (Kd.R_below (by (with_reducible repeat (first|apply Kd.R_alloc|apply Kd.R_drewN|apply Kd.R_drew));exact HO_7.out) hb)
            have n1_ := Aside0.mk (Kd.R_below (by (with_reducible repeat (first|apply Kd.R_alloc|apply Kd.R_drewN|apply Kd.R_drew));exact HO_8.out) hb)
            have n2_ := Aside0.mk (blk_below (g := gb1) (o := .cells #[.int .i64 a2_0, .int .i64 a2_1, .int .i64 a2_2] 27 (0, 0)) (by (with_reducible repeat (first|refine blk_drewN ?_ _|refine blk_drew ?_|refine blk_alloc ?_ _));exact BK1.out) hb)
            have n3_ := Aside0.mk (blk_below (g := gb2) (o := .cells #[.slice none 0 0, .int .i64 0] 67 (0, 0)) (by (with_reducible repeat (first|refine blk_drewN ?_ _|refine blk_drew ?_|refine blk_alloc ?_ _));exact BK2.out) hb)
            have n4_ := Aside0.mk (below_step (by repeat (first|(with_reducible first|exact HB.out|apply below_alloc|apply pw_below_drewN|apply below_drew1|refine below_set ?_ GE1.out|refine below_set ?_ GE2.out)|exact HB.out)) hb)
            clear HO_7
            clear HO_8
            clear BK1
            clear BK2
            clear HB
            have HO_7 := n0_
            have HO_8 := n1_
            have BK1 := n2_
            have BK2 := n3_
            have HB := n4_
            clear n0_ n1_ n2_ n3_ n4_
            (try clear hb)
            (try clear hb2)
            (try clear hk)
            (try clear hi)
            have p41 : 0 ≤ (t26 : Int) := of_decide_eq_true (by first|(with_reducible assumption)|assumption)
            have q41 : (t26 : Int) < ((x8_1.length : Int) : Int) := of_decide_eq_true (by first|(with_reducible assumption)|assumption)
            obtain ⟨go41, co41, eo41, gb41, gl41, cl41, HG41⟩ := Kd.R_form HO_8.out (by omega)
            (first | cases eo41 | (injection eo41 with ea_ en_ ec_; (first | subst ea_ | (injection ea_ with ea_; subst ea_)); subst ec_; clear en_))
            have GB41 := Aside0.mk gb41
            have GG41 := Aside0.mk HG41
            clear gb41 gl41 HG41
            (first | simp only [add_plain] at hx27_0 | skip)
            (first | simp only [add_plain] at hx27_1 | skip)
            (first | simp only [add_plain] at hx27_2 | skip)
            (first | simp only [add_plain] at hx27_3 | skip)
            (first | simp only [add_plain] at hx27_4 | skip)
            (first | simp only [add_plain] at hx27_5 | skip)
            (first | simp only [add_plain] at hx27_6 | skip)
            (first | simp only [add_plain] at hx27_7 | skip)
            (first | simp only [add_plain] at hx27_8 | skip)
            (first | simp only [add_plain] at hx27_9 | skip)
            (first | simp only [add_plain] at hx27_10 | skip)
            (first | simp only [add_plain] at hx27_11 | skip)
            obtain ⟨ce41, hcl41, hM41, hcc41, hfr41⟩ := Kd.R_elem HO_8.out z31 (t26 : Int) p41 q41
            obtain rfl := k31_openM hM41
            have hx41_0 : World.cell? _ ⟨go41, (t26 : Int).toNat * 12, none⟩ = some (.string ((rd_T31 x8_1 t26).f0)) := hcc41 0 _ rfl
            have hx41_1 : World.cell? _ ⟨go41, (t26 : Int).toNat * 12 + 1, none⟩ = some (.string ((rd_T31 x8_1 t26).f1)) := hcc41 1 _ rfl
            have hx41_2 : World.cell? _ ⟨go41, (t26 : Int).toNat * 12 + 2, none⟩ = some (.int .i64 ((rd_T31 x8_1 t26).f2.f0)) := hcc41 2 _ rfl
            have hx41_3 : World.cell? _ ⟨go41, (t26 : Int).toNat * 12 + 3, none⟩ = some (.int .i64 ((rd_T31 x8_1 t26).f2.f1)) := hcc41 3 _ rfl
            have hx41_4 : World.cell? _ ⟨go41, (t26 : Int).toNat * 12 + 4, none⟩ = some (.int .i64 ((rd_T31 x8_1 t26).f2.f2)) := hcc41 4 _ rfl
            have hx41_5 : World.cell? _ ⟨go41, (t26 : Int).toNat * 12 + 5, none⟩ = some (.int .i64 ((rd_T31 x8_1 t26).f3.f0)) := hcc41 5 _ rfl
            have hx41_6 : World.cell? _ ⟨go41, (t26 : Int).toNat * 12 + 6, none⟩ = some (.int .i64 ((rd_T31 x8_1 t26).f3.f1)) := hcc41 6 _ rfl
            have hx41_7 : World.cell? _ ⟨go41, (t26 : Int).toNat * 12 + 7, none⟩ = some (.int .i64 ((rd_T31 x8_1 t26).f3.f2)) := hcc41 7 _ rfl
            have hx41_8 : World.cell? _ ⟨go41, (t26 : Int).toNat * 12 + 8, none⟩ = some (.int .i64 ((rd_T31 x8_1 t26).f4.f0)) := hcc41 8 _ rfl
            have hx41_9 : World.cell? _ ⟨go41, (t26 : Int).toNat * 12 + 9, none⟩ = some (.int .i64 ((rd_T31 x8_1 t26).f4.f1)) := hcc41 9 _ rfl
            have hx41_10 : World.cell? _ ⟨go41, (t26 : Int).toNat * 12 + 10, none⟩ = some (.int .i64 ((rd_T31 x8_1 t26).f4.f2)) := hcc41 10 _ rfl
            have hx41_11 : World.cell? _ ⟨go41, (t26 : Int).toNat * 12 + 11, none⟩ = some (.int .i64 ((rd_T31 x8_1 t26).f5)) := hcc41 11 _ rfl
            have hf41_0 : World.frozen? _ ⟨go41, (t26 : Int).toNat * 12, none⟩ = false := hfr41 0
            have hf41_1 : World.frozen? _ ⟨go41, (t26 : Int).toNat * 12 + 1, none⟩ = false := hfr41 1
            have hf41_2 : World.frozen? _ ⟨go41, (t26 : Int).toNat * 12 + 2, none⟩ = false := hfr41 2
            have hf41_3 : World.frozen? _ ⟨go41, (t26 : Int).toNat * 12 + 3, none⟩ = false := hfr41 3
            have hf41_4 : World.frozen? _ ⟨go41, (t26 : Int).toNat * 12 + 4, none⟩ = false := hfr41 4
            have hf41_5 : World.frozen? _ ⟨go41, (t26 : Int).toNat * 12 + 5, none⟩ = false := hfr41 5
            have hf41_6 : World.frozen? _ ⟨go41, (t26 : Int).toNat * 12 + 6, none⟩ = false := hfr41 6
            have hf41_7 : World.frozen? _ ⟨go41, (t26 : Int).toNat * 12 + 7, none⟩ = false := hfr41 7
            have hf41_8 : World.frozen? _ ⟨go41, (t26 : Int).toNat * 12 + 8, none⟩ = false := hfr41 8
            have hf41_9 : World.frozen? _ ⟨go41, (t26 : Int).toNat * 12 + 9, none⟩ = false := hfr41 9
            have hf41_10 : World.frozen? _ ⟨go41, (t26 : Int).toNat * 12 + 10, none⟩ = false := hfr41 10
            have hf41_11 : World.frozen? _ ⟨go41, (t26 : Int).toNat * 12 + 11, none⟩ = false := hfr41 11
            clear hcl41 hcc41 hfr41 hM41
            replace p41 := eq_true p41
            replace q41 := eq_true q41
            obtain ⟨ce45, hcl45, hM45, hcc45, hfr45⟩ := Kd.R_elem HO_8.out z31 (t26 : Int) (of_decide_eq_true (by first|(with_reducible assumption)|assumption)) (by have h_ : (t26 : Int) < ((x8_1.length : Int) : Int) := of_decide_eq_true (by first|(with_reducible assumption)|assumption);first|exact h_|(have e_ := (Kd.R_reads' HO_8.out).1;omega)|simpa using h_)
            obtain rfl := k31_openM hM45
            have HP45 := (Kd.R_seg HO_8.out (t26 : Int) (of_decide_eq_true (by first|(with_reducible assumption)|assumption)) (by have h_ : (t26 : Int) < ((x8_1.length : Int) : Int) := of_decide_eq_true (by first|(with_reducible assumption)|assumption);first|exact h_|(have e_ := (Kd.R_reads' HO_8.out).1;omega)|simpa using h_) (seg := [.int .i64 t28, .int .i64 t29, .int .i64 t30]) (j := 8) hcl45 hcc45 (show 11 ≤ 12 from by decide) (x' := (⟨(rd_T31 x8_1 t26).f0, (rd_T31 x8_1 t26).f1, (⟨(rd_T31 x8_1 t26).f2.f0, (rd_T31 x8_1 t26).f2.f1, (rd_T31 x8_1 t26).f2.f2⟩ : S27), (⟨(rd_T31 x8_1 t26).f3.f0, (rd_T31 x8_1 t26).f3.f1, (rd_T31 x8_1 t26).f3.f2⟩ : S27), (⟨t28, t29, t30⟩ : S27), (rd_T31 x8_1 t26).f5⟩ : S31)) (k31_mkM _ _ _ (⟨(rd_T31 x8_1 t26).f0, (rd_T31 x8_1 t26).f1, (⟨(rd_T31 x8_1 t26).f2.f0, (rd_T31 x8_1 t26).f2.f1, (rd_T31 x8_1 t26).f2.f2⟩ : S27), (⟨(rd_T31 x8_1 t26).f3.f0, (rd_T31 x8_1 t26).f3.f1, (rd_T31 x8_1 t26).f3.f2⟩ : S27), (⟨t28, t29, t30⟩ : S27), (rd_T31 x8_1 t26).f5⟩ : S31) ) (fun _ hk => hk)).1
            rw [← Ny31.out] at HP45
            have HQ45 := Aside0.mk HP45
            clear hcl45 hcc45 hfr45 hM45 HP45
            refine hK.out _ _ ⟨(blk_cell BK1.out 0).trans rfl, (blk_cell BK1.out 1).trans rfl, (blk_cell BK1.out 2).trans rfl, HS3_, HS4_, HS5_, HS6_, HS7_, HS8_, HS9_, HS10_, HS11_, HS12_, HS13_, HS14_⟩ (fun hHeld => ?_)
            clear hK K
            refine norm_ (a' := ?_) ?_ ?_
            rotate_left
            ·show Act.put _ (some 59) _ = _
             simp only [Act.put, List.setIfInBounds_toArray, List.set_cons_zero, List.set_cons_succ, i64_w, i32_w]
             rfl
            refine pure_ (i := 9) (N := some 60) (v := ?_) (a' := ?_) #[true, true, true, true, true, true, true, true, true, true, false, false] rfl rfl (any_of HT_.out (by kernel_rfl)) (fun _ _ _ h => h) (Or.inl ⟨by rfl, ?_⟩) ?_ ?_
            rotate_left
            ·intro w'
             go_simp
             with_reducible rfl
            rotate_left
            ·simp only [Act.put, List.setIfInBounds_toArray, List.set_cons_zero, List.set_cons_succ, i64_w, i32_w]
             rfl
            refine pure_ (i := 10) (N := some 61) (v := ?_) (a' := ?_) #[true, true, true, true, true, true, true, true, true, true, true, false] rfl rfl (any_of HT_.out (by kernel_rfl)) (fun _ _ _ h => h) (Or.inl ⟨by rfl, ?_⟩) ?_ ?_
            rotate_left
            ·intro w'
             go_simp
             with_reducible rfl
            rotate_left
            ·simp only [Act.put, List.setIfInBounds_toArray, List.set_cons_zero, List.set_cons_succ, i64_w, i32_w]
             rfl
            refine last_ (i := 11) (N := none) #[true, true, true, true, true, true, true, true, true, true, true, true] rfl rfl (one_of HT_.out (by kernel_rfl)) (by decide) (fun K hK => ?_)
            refine skip_ (w1 := ?_) (by rfl) rfl ?_ ?_
            rotate_left
            ·go_simp
             rfl
            refine hK.out _ _ ?_
            clear hK K
            refine done_ (done_of HT_.out (by kernel_rfl)) ?_
            try go_wp2
            go_roundg k1
            case measure => have := HK1.out; omega
            case rel => exact ⟨(y31), (wrap64 (x9_1 + 1)), (by first|rfl|(simp;done)|(simp [*];done)), H', ⟨by have := HK1.out;omega⟩, ⟨by (with_reducible repeat (first|apply Kd.R_alloc|apply Kd.R_drewN|apply Kd.R_drew));exact Kd.R_mono (Kd.R_far (p := ⟨go41, (t26 : Int).toNat * 12 + 10, none⟩) (Kd.R_far (p := ⟨go41, (t26 : Int).toNat * 12 + 9, none⟩) (Kd.R_far (p := ⟨go41, (t26 : Int).toNat * 12 + 8, none⟩) (Kd.R_types HO_7.out GG41.out (by decide)) (fun _ hk => hk.2) (.int .i64 t28)) (fun _ hk => hk.2) (.int .i64 t29)) (fun _ hk => hk.2) (.int .i64 t30)) (fun _ hk => trivial)⟩, ⟨by (with_reducible repeat (first|apply Kd.R_alloc|apply Kd.R_drewN|apply Kd.R_drew));exact HQ45.out⟩, ⟨by (with_reducible repeat (first|refine blk_drewN ?_ _|refine blk_drew ?_|refine blk_alloc ?_ _));refine blk_far ?_ (by have h_ := Kd.R_ne HO_8.out BK1.out (by decide);intro e_;exact h_ (by rw [e_];rfl)) _;(with_reducible repeat (first|refine blk_drewN ?_ _|refine blk_drew ?_|refine blk_alloc ?_ _));refine blk_far ?_ (by have h_ := Kd.R_ne HO_8.out BK1.out (by decide);intro e_;exact h_ (by rw [e_];rfl)) _;(with_reducible repeat (first|refine blk_drewN ?_ _|refine blk_drew ?_|refine blk_alloc ?_ _));refine blk_far ?_ (by have h_ := Kd.R_ne HO_8.out BK1.out (by decide);intro e_;exact h_ (by rw [e_];rfl)) _;(with_reducible repeat (first|refine blk_drewN ?_ _|refine blk_drew ?_|refine blk_alloc ?_ _));exact BK1.out⟩, ⟨by (with_reducible repeat (first|refine blk_drewN ?_ _|refine blk_drew ?_|refine blk_alloc ?_ _));refine blk_far ?_ (by have h_ := Kd.R_ne HO_8.out BK2.out (by decide);intro e_;exact h_ (by rw [e_];rfl)) _;(with_reducible repeat (first|refine blk_drewN ?_ _|refine blk_drew ?_|refine blk_alloc ?_ _));refine blk_far ?_ (by have h_ := Kd.R_ne HO_8.out BK2.out (by decide);intro e_;exact h_ (by rw [e_];rfl)) _;(with_reducible repeat (first|refine blk_drewN ?_ _|refine blk_drew ?_|refine blk_alloc ?_ _));refine blk_far ?_ (by have h_ := Kd.R_ne HO_8.out BK2.out (by decide);intro e_;exact h_ (by rw [e_];rfl)) _;(with_reducible repeat (first|refine blk_drewN ?_ _|refine blk_drew ?_|refine blk_alloc ?_ _));exact BK2.out⟩, ⟨by repeat (first|(with_reducible first|exact HB.out|apply below_alloc|apply pw_below_drewN|apply below_drew1|refine below_set ?_ GB41.out|refine below_set ?_ GB41.out|refine below_set ?_ GB41.out|refine below_set ?_ GE1.out|refine below_set ?_ GE2.out)|exact HB.out)⟩⟩
           ·rw [if_neg c39] at H
            exact absurd H (by simp)
          ·rw [if_neg c38] at H
           exact absurd H (by simp)
         ·rw [if_neg c36] at H
          exact absurd H (by simp)
        ·rw [if_neg c35] at H
         have c35b0 : decide (x9_1 < (t3.length : Int)) = false := decide_eq_false c35
         clear c35
         replace H := Option.bind_eq_some_iff.mp H
         obtain ⟨t32, A460, H⟩ := H
         replace H : (if 0 ≤ t32 then (if t32 < (x8_1.length : Int) then ((r10_Sub.f ((rd_T31 x8_1 t32).f3.f0) ((rd_T31 x8_1 t32).f3.f1) ((rd_T31 x8_1 t32).f3.f2) a2_0 a2_1 a2_2).bind fun bt34 => (some ((x8_1.set (t32 : Int).toNat (⟨(rd_T31 x8_1 t32).f0, (rd_T31 x8_1 t32).f1, (⟨(rd_T31 x8_1 t32).f2.f0, (rd_T31 x8_1 t32).f2.f1, (rd_T31 x8_1 t32).f2.f2⟩ : S27), (⟨bt34.1, bt34.2.1, bt34.2.2⟩ : S27), (⟨(rd_T31 x8_1 t32).f4.f0, (rd_T31 x8_1 t32).f4.f1, (rd_T31 x8_1 t32).f4.f2⟩ : S27), (rd_T31 x8_1 t32).f5⟩ : S31)), 0))) else (none)) else (none)) = some (r1, r2) := H
         have A46 := Aside0.mk A460
         clear A460
         by_cases c47 : 0 ≤ t32
         ·rw [if_pos c47] at H
          have c47b0 : decide (0 ≤ t32) = true := decide_eq_true c47
          clear c47
          by_cases c48 : t32 < (x8_1.length : Int)
          ·rw [if_pos c48] at H
           have c48b0 : decide (t32 < (x8_1.length : Int)) = true := decide_eq_true c48
           clear c48
           replace H := Option.bind_eq_some_iff.mp H
           obtain ⟨⟨t34, t35, t36⟩, A490, H⟩ := H
           replace H : (some ((x8_1.set (t32 : Int).toNat (⟨(rd_T31 x8_1 t32).f0, (rd_T31 x8_1 t32).f1, (⟨(rd_T31 x8_1 t32).f2.f0, (rd_T31 x8_1 t32).f2.f1, (rd_T31 x8_1 t32).f2.f2⟩ : S27), (⟨t34, t35, t36⟩ : S27), (⟨(rd_T31 x8_1 t32).f4.f0, (rd_T31 x8_1 t32).f4.f1, (rd_T31 x8_1 t32).f4.f2⟩ : S27), (rd_T31 x8_1 t32).f5⟩ : S31)), 0)) = some (r1, r2) := H
           have A49 := Aside0.mk A490
           clear A490
           obtain ⟨y37, hy37⟩ : ∃ y_ : List (S31), y_ = (x8_1.set (t32 : Int).toNat (⟨(rd_T31 x8_1 t32).f0, (rd_T31 x8_1 t32).f1, (⟨(rd_T31 x8_1 t32).f2.f0, (rd_T31 x8_1 t32).f2.f1, (rd_T31 x8_1 t32).f2.f2⟩ : S27), (⟨t34, t35, t36⟩ : S27), (⟨(rd_T31 x8_1 t32).f4.f0, (rd_T31 x8_1 t32).f4.f1, (rd_T31 x8_1 t32).f4.f2⟩ : S27), (rd_T31 x8_1 t32).f5⟩ : S31)) := ⟨_, rfl⟩
           replace H : (some (y37, 0)) = some (r1, r2) := by first|(rw [hy37];with_reducible exact H)|(have H2_ := (Option.bind_some _ _).symm.trans H;rw [hy37];with_reducible exact H2_)|(have H2_ := (Option.bind_some _ _).symm.trans H;with_reducible exact H2_)|with_reducible exact H|(rw [hy37];exact H)|exact H
           have Ny37 := Aside0.mk hy37
           clear hy37
           simp only [Option.some.injEq, Prod.mk.injEq] at H
           obtain ⟨rfl, rfl⟩ := H
           obtain ⟨Ao51, co51, eo51⟩ := Kd.R_slice HO_8.out
           subst eo51
           try go_wp2_with (first|((with_reducible refine gate_callee (f := 50) rfl ?_);refine goesL_ (some 64) rfl rfl Try.func50 (by kernel_rfl) rfl #[.slice Ao51 x8_1.length co51, .string a1] rfl (by (try simp only [List.map_toArray, List.map_cons, List.map_nil]);first|done|rfl|(simp only [List.length_drop, List.length_take];rfl)) ?_;(with_reducible refine (r10_Find.calls k1 _ _ x8_1 a1 t32 _ ?side1 ?side2 A46.out).mono ?_);(case side1 => repeat (first|exact (Kd.R_reads' HO_8.out).2.2|(with_reducible refine Kd.C_alloc ?_ _)|(with_reducible refine Kd.C_drewN ?_ _)|(with_reducible refine Kd.C_drew ?_)));(case side2 => exact (Kd.R_reads' HO_8.out).2.1);rintro e w' ⟨rfl, ⟨nd, rfl⟩⟩;refine ⟨_, rfl, ?_⟩;(try (rw [drewN_self wr];generalize hq_ : World.drewN wr _ = wr;have n0_ : Aside0 (Kd.R Kd.string 9 wr w.heap.size (fun _ => True) (.slice Ao31 t3.length co31) t3) := ⟨by rw [← hq_];exact (by (with_reducible repeat (first|apply Kd.R_alloc|apply Kd.R_drewN|apply Kd.R_drew));exact HO_7.out)⟩;have n1_ : Aside0 (Kd.R k31 31 wr w.heap.size (fun _ => True) (.slice Ao51 x8_1.length co51) x8_1) := ⟨by rw [← hq_];exact (by (with_reducible repeat (first|apply Kd.R_alloc|apply Kd.R_drewN|apply Kd.R_drew));exact HO_8.out)⟩;have n2_ : Aside0 (wr.heap[gb1]? = some (.cells #[.int .i64 a2_0, .int .i64 a2_1, .int .i64 a2_2] 27 (0, 0))) := ⟨by rw [← hq_];exact (by (with_reducible repeat (first|refine blk_drewN ?_ _|refine blk_drew ?_|refine blk_alloc ?_ _));exact BK1.out)⟩;have n3_ : Aside0 (wr.heap[gb2]? = some (.cells #[.slice none 0 0, .int .i64 0] 67 (0, 0))) := ⟨by rw [← hq_];exact (by (with_reducible repeat (first|refine blk_drewN ?_ _|refine blk_drew ?_|refine blk_alloc ?_ _));exact BK2.out)⟩;have n4_ : Aside0 (Below w.heap.size w wr) := ⟨by rw [← hq_];exact (by repeat (first|(with_reducible first|exact HB.out|apply below_alloc|apply pw_below_drewN|apply below_drew1|refine below_set ?_ GE1.out|refine below_set ?_ GE2.out)|exact HB.out))⟩;clear HO_7 HO_8 BK1 BK2 HB hq_;have HO_7 := n0_;have HO_8 := n1_;have BK1 := n2_;have BK2 := n3_;have HB := n4_;clear n0_ n1_ n2_ n3_ n4_))))
           have n0_ := Aside0.mk (Kd.R_drew HO_7.out)
           have n1_ := Aside0.mk (Kd.R_drew HO_8.out)
           have n2_ := Aside0.mk (blk_drew BK1.out)
           have n3_ := Aside0.mk (blk_drew BK2.out)
           have n4_ := Aside0.mk (below_drew1 HB.out)
           clear HO_7
           clear HO_8
           clear BK1
           clear BK2
           clear HB
           have HO_7 := n0_
           have HO_8 := n1_
           have BK1 := n2_
           have BK2 := n3_
           have HB := n4_
           clear n0_ n1_ n2_ n3_ n4_
           have p33 : 0 ≤ (t32 : Int) := of_decide_eq_true (by first|(with_reducible assumption)|assumption)
           have q33 : t32 < (x8_1.length : Int) := of_decide_eq_true (by first|(with_reducible assumption)|assumption)
           obtain ⟨ad33, e33, hx33_0, hx33_1, hx33_2, hx33_3, hx33_4, hx33_5, hx33_6, hx33_7, hx33_8, hx33_9, hx33_10, hx33_11⟩ := at_T31 (Kd.R_reads' HO_8.out).2.2 t32 p33 q33
           cases e33
           replace p33 := eq_true p33
           replace q33 := eq_true q33
           refine start_ (n := 12) (S := fun w' => w'.cell? ⟨gb1, 0, none⟩ = some (.int .i64 a2_0) ∧ w'.cell? ⟨gb1, 1, none⟩ = some (.int .i64 a2_1) ∧ w'.cell? ⟨gb1, 2, none⟩ = some (.int .i64 a2_2) ∧ w'.cell? (ad33.add ((t32).toNat * 12)) = some (.string ((rd_T31 x8_1 t32).f0)) ∧ w'.cell? ⟨(ad33.add ((t32).toNat * 12)).block, (ad33.add ((t32).toNat * 12)).off + 1, none⟩ = some (.string ((rd_T31 x8_1 t32).f1)) ∧ w'.cell? ⟨(ad33.add ((t32).toNat * 12)).block, (ad33.add ((t32).toNat * 12)).off + 2, none⟩ = some (.int .i64 ((rd_T31 x8_1 t32).f2.f0)) ∧ w'.cell? ⟨(ad33.add ((t32).toNat * 12)).block, (ad33.add ((t32).toNat * 12)).off + 3, none⟩ = some (.int .i64 ((rd_T31 x8_1 t32).f2.f1)) ∧ w'.cell? ⟨(ad33.add ((t32).toNat * 12)).block, (ad33.add ((t32).toNat * 12)).off + 4, none⟩ = some (.int .i64 ((rd_T31 x8_1 t32).f2.f2)) ∧ w'.cell? ⟨(ad33.add ((t32).toNat * 12)).block, (ad33.add ((t32).toNat * 12)).off + 5, none⟩ = some (.int .i64 ((rd_T31 x8_1 t32).f3.f0)) ∧ w'.cell? ⟨(ad33.add ((t32).toNat * 12)).block, (ad33.add ((t32).toNat * 12)).off + 6, none⟩ = some (.int .i64 ((rd_T31 x8_1 t32).f3.f1)) ∧ w'.cell? ⟨(ad33.add ((t32).toNat * 12)).block, (ad33.add ((t32).toNat * 12)).off + 7, none⟩ = some (.int .i64 ((rd_T31 x8_1 t32).f3.f2)) ∧ w'.cell? ⟨(ad33.add ((t32).toNat * 12)).block, (ad33.add ((t32).toNat * 12)).off + 8, none⟩ = some (.int .i64 ((rd_T31 x8_1 t32).f4.f0)) ∧ w'.cell? ⟨(ad33.add ((t32).toNat * 12)).block, (ad33.add ((t32).toNat * 12)).off + 9, none⟩ = some (.int .i64 ((rd_T31 x8_1 t32).f4.f1)) ∧ w'.cell? ⟨(ad33.add ((t32).toNat * 12)).block, (ad33.add ((t32).toNat * 12)).off + 10, none⟩ = some (.int .i64 ((rd_T31 x8_1 t32).f4.f2)) ∧ w'.cell? ⟨(ad33.add ((t32).toNat * 12)).block, (ad33.add ((t32).toNat * 12)).off + 11, none⟩ = some (.int .i64 ((rd_T31 x8_1 t32).f5))) (ds := [11]) #[false, false, false, false, false, false, false, false, false, false, false, false] (by kernel_rfl) rfl rfl ⟨(blk_cell BK1.out 0).trans rfl, (blk_cell BK1.out 1).trans rfl, (blk_cell BK1.out 2).trans rfl, hx33_0, hx33_1, hx33_2, hx33_3, hx33_4, hx33_5, hx33_6, hx33_7, hx33_8, hx33_9, hx33_10, hx33_11⟩ (fun hHeld => ?_); refine with_tabW r10_Release.tab15 r10_Release.bits15 (fun HT_ HW_ => ?_)
           generalize wr.drew = w52 at HO_7 HO_8 BK1 BK2 HB hx33_0 hx33_1 hx33_10 hx33_11 hx33_2 hx33_3 hx33_4 hx33_5 hx33_6 hx33_7 hx33_8 hx33_9 hHeld ⊢
           refine pure_ (i := 0) (N := some 65) (v := ?_) (a' := ?_) #[true, false, false, false, false, false, false, false, false, false, false, false] rfl rfl (any_of HT_.out (by kernel_rfl)) (fun _ _ _ h => h) (Or.inl ⟨by rfl, ?_⟩) ?_ ?_
           rotate_left
           ·intro w'
            go_simp
            with_reducible rfl
           rotate_left
           ·simp only [Act.put, List.setIfInBounds_toArray, List.set_cons_zero, List.set_cons_succ, i64_w, i32_w]
            rfl
           refine pure_ (i := 1) (N := some 66) (v := ?_) (a' := ?_) #[true, true, false, false, false, false, false, false, false, false, false, false] rfl rfl (any_of HT_.out (by kernel_rfl)) (fun _ _ _ h => h) (Or.inl ⟨by rfl, ?_⟩) ?_ ?_
           rotate_left
           ·intro w'
            go_simp
            with_reducible rfl
           rotate_left
           ·simp only [Act.put, List.setIfInBounds_toArray, List.set_cons_zero, List.set_cons_succ, i64_w, i32_w]
            rfl
           refine pure_ (i := 2) (N := some 67) (v := ?_) (a' := ?_) #[true, true, true, false, false, false, false, false, false, false, false, false] rfl rfl (any_of HT_.out (by kernel_rfl)) (fun _ _ _ h => h) (Or.inl ⟨by rfl, ?_⟩) ?_ ?_
           rotate_left
           ·intro w'
            go_simp
            with_reducible rfl
           rotate_left
           ·simp only [Act.put, List.setIfInBounds_toArray, List.set_cons_zero, List.set_cons_succ, i64_w, i32_w]
            rfl
           refine pure_ (i := 3) (N := some 68) (v := ?_) (a' := ?_) #[true, true, true, true, false, false, false, false, false, false, false, false] rfl rfl (any_of HT_.out (by kernel_rfl)) (fun _ _ _ h => h) (Or.inl ⟨by rfl, ?_⟩) ?_ ?_
           rotate_left
           ·intro w'
            go_simp
            with_reducible rfl
           rotate_left
           ·simp only [Act.put, List.setIfInBounds_toArray, List.set_cons_zero, List.set_cons_succ, i64_w, i32_w]
            rfl
           refine pure_ (i := 4) (N := some 69) (v := ?_) (a' := ?_) #[true, true, true, true, true, false, false, false, false, false, false, false] rfl rfl (any_of HT_.out (by kernel_rfl)) (fun _ _ _ h => h) (Or.inl ⟨by rfl, ?_⟩) ?_ ?_
           rotate_left
           ·intro w'
            go_simp
            with_reducible rfl
           rotate_left
           ·simp only [Act.put, List.setIfInBounds_toArray, List.set_cons_zero, List.set_cons_succ, i64_w, i32_w]
            rfl
           refine pure_ (i := 5) (N := some 70) (v := ?_) (a' := ?_) #[true, true, true, true, true, true, false, false, false, false, false, false] rfl rfl (any_of HT_.out (by kernel_rfl)) (fun _ _ _ h => h) (Or.inl ⟨by rfl, ?_⟩) ?_ ?_
           rotate_left
           ·intro w'
            go_simp
            with_reducible rfl
           rotate_left
           ·simp only [Act.put, List.setIfInBounds_toArray, List.set_cons_zero, List.set_cons_succ, i64_w, i32_w]
            rfl
           refine take_ (i := 6) (N := some 71) (v := ?_) (a' := ?_) #[true, true, true, true, true, true, true, false, false, false, false, false] rfl rfl (take_ofW HT_.out HW_.out (by kernel_rfl)) (fun _ _ _ h => h) (Or.inl ⟨by rfl, ?_⟩) hHeld ?_ ?_
           rotate_left
           ·rintro w' ⟨s0, s1, s2, s3, s4, s5, s6, s7, s8, s9, s10, s11, s12, s13, s14⟩
            go_simp
            with_reducible rfl
           rotate_left
           ·simp only [Act.put, List.setIfInBounds_toArray, List.set_cons_zero, List.set_cons_succ, i64_w, i32_w]
            rfl
           refine take_ (i := 7) (N := some 72) (v := ?_) (a' := ?_) #[true, true, true, true, true, true, true, true, false, false, false, false] rfl rfl (take_ofW HT_.out HW_.out (by kernel_rfl)) (fun _ _ _ h => h) (Or.inl ⟨by rfl, ?_⟩) hHeld ?_ ?_
           rotate_left
           ·rintro w' ⟨s0, s1, s2, s3, s4, s5, s6, s7, s8, s9, s10, s11, s12, s13, s14⟩
            go_simp
            with_reducible rfl
           rotate_left
           ·simp only [Act.put, List.setIfInBounds_toArray, List.set_cons_zero, List.set_cons_succ, i64_w, i32_w]
            rfl
           refine one_ (i := 8) (N := some 73) #[true, true, true, true, true, true, true, true, true, false, false, false] rfl rfl (one_of HT_.out (by kernel_rfl)) (by decide) (fun K hK => ?_)
           refine goes_ Try.func35 (by kernel_rfl) rfl #[.agg #[.int .i64 ((rd_T31 x8_1 t32).f3.f0), .int .i64 ((rd_T31 x8_1 t32).f3.f1), .int .i64 ((rd_T31 x8_1 t32).f3.f2)], .agg #[.int .i64 a2_0, .int .i64 a2_1, .int .i64 a2_2]] (by rfl) rfl rfl (by (try simp only [List.map_toArray, List.map_cons, List.map_nil]); first | done | rfl | (simp only [List.length_drop, List.length_take]; rfl)) ?_
           with_reducible refine (r10_Sub.calls ((rd_T31 x8_1 t32).f3.f0) ((rd_T31 x8_1 t32).f3.f1) ((rd_T31 x8_1 t32).f3.f2) a2_0 a2_1 a2_2 t34 t35 t36 _ A49.out).mono ?_
           rintro e w53 ⟨rfl, hb⟩
           have HS3_ := (hb.cell (World.block_lt_of_cell? _ _ (hHeld.2.2.2.1))).trans (hHeld.2.2.2.1)
           have HS4_ := (hb.cell (World.block_lt_of_cell? _ _ (hHeld.2.2.2.2.1))).trans (hHeld.2.2.2.2.1)
           have HS5_ := (hb.cell (World.block_lt_of_cell? _ _ (hHeld.2.2.2.2.2.1))).trans (hHeld.2.2.2.2.2.1)
           have HS6_ := (hb.cell (World.block_lt_of_cell? _ _ (hHeld.2.2.2.2.2.2.1))).trans (hHeld.2.2.2.2.2.2.1)
           have HS7_ := (hb.cell (World.block_lt_of_cell? _ _ (hHeld.2.2.2.2.2.2.2.1))).trans (hHeld.2.2.2.2.2.2.2.1)
           have HS8_ := (hb.cell (World.block_lt_of_cell? _ _ (hHeld.2.2.2.2.2.2.2.2.1))).trans (hHeld.2.2.2.2.2.2.2.2.1)
           have HS9_ := (hb.cell (World.block_lt_of_cell? _ _ (hHeld.2.2.2.2.2.2.2.2.2.1))).trans (hHeld.2.2.2.2.2.2.2.2.2.1)
           have HS10_ := (hb.cell (World.block_lt_of_cell? _ _ (hHeld.2.2.2.2.2.2.2.2.2.2.1))).trans (hHeld.2.2.2.2.2.2.2.2.2.2.1)
           have HS11_ := (hb.cell (World.block_lt_of_cell? _ _ (hHeld.2.2.2.2.2.2.2.2.2.2.2.1))).trans (hHeld.2.2.2.2.2.2.2.2.2.2.2.1)
           have HS12_ := (hb.cell (World.block_lt_of_cell? _ _ (hHeld.2.2.2.2.2.2.2.2.2.2.2.2.1))).trans (hHeld.2.2.2.2.2.2.2.2.2.2.2.2.1)
           have HS13_ := (hb.cell (World.block_lt_of_cell? _ _ (hHeld.2.2.2.2.2.2.2.2.2.2.2.2.2.1))).trans (hHeld.2.2.2.2.2.2.2.2.2.2.2.2.2.1)
           have HS14_ := (hb.cell (World.block_lt_of_cell? _ _ (hHeld.2.2.2.2.2.2.2.2.2.2.2.2.2.2))).trans (hHeld.2.2.2.2.2.2.2.2.2.2.2.2.2.2)
           refine ⟨_, rfl, ?_⟩
           have n0_ := Aside0.mk (Kd.R_below (by (with_reducible repeat (first|apply Kd.R_alloc|apply Kd.R_drewN|apply Kd.R_drew));exact HO_7.out) hb)
           have n1_ := Aside0.mk (Kd.R_below (by (with_reducible repeat (first|apply Kd.R_alloc|apply Kd.R_drewN|apply Kd.R_drew));exact HO_8.out) hb)
           have n2_ := Aside0.mk (blk_below (g := gb1) (o := .cells #[.int .i64 a2_0, .int .i64 a2_1, .int .i64 a2_2] 27 (0, 0)) (by (with_reducible repeat (first|refine blk_drewN ?_ _|refine blk_drew ?_|refine blk_alloc ?_ _));exact BK1.out) hb)
           have n3_ := Aside0.mk (blk_below (g := gb2) (o := .cells #[.slice none 0 0, .int .i64 0] 67 (0, 0)) (by (with_reducible repeat (first|refine blk_drewN ?_ _|refine blk_drew ?_|refine blk_alloc ?_ _));exact BK2.out) hb)
           have n4_ := Aside0.mk (below_step (by repeat (first|(with_reducible first|exact HB.out|apply below_alloc|apply pw_below_drewN|apply below_drew1|refine below_set ?_ GE1.out|refine below_set ?_ GE2.out)|exact HB.out)) hb)
           clear HO_7
           clear HO_8
           clear BK1
           clear BK2
           clear HB
           have HO_7 := n0_
           have HO_8 := n1_
           have BK1 := n2_
           have BK2 := n3_
           have HB := n4_
           clear n0_ n1_ n2_ n3_ n4_
           (try clear hb)
           (try clear hb2)
           (try clear hk)
           (try clear hi)
           have p50 : 0 ≤ (t32 : Int) := of_decide_eq_true (by first|(with_reducible assumption)|assumption)
           have q50 : (t32 : Int) < ((x8_1.length : Int) : Int) := of_decide_eq_true (by first|(with_reducible assumption)|assumption)
           obtain ⟨go50, co50, eo50, gb50, gl50, cl50, HG50⟩ := Kd.R_form HO_8.out (by omega)
           (first | cases eo50 | (injection eo50 with ea_ en_ ec_; (first | subst ea_ | (injection ea_ with ea_; subst ea_)); subst ec_; clear en_))
           have GB50 := Aside0.mk gb50
           have GG50 := Aside0.mk HG50
           clear gb50 gl50 HG50
           (first | simp only [add_plain] at hx33_0 | skip)
           (first | simp only [add_plain] at hx33_1 | skip)
           (first | simp only [add_plain] at hx33_2 | skip)
           (first | simp only [add_plain] at hx33_3 | skip)
           (first | simp only [add_plain] at hx33_4 | skip)
           (first | simp only [add_plain] at hx33_5 | skip)
           (first | simp only [add_plain] at hx33_6 | skip)
           (first | simp only [add_plain] at hx33_7 | skip)
           (first | simp only [add_plain] at hx33_8 | skip)
           (first | simp only [add_plain] at hx33_9 | skip)
           (first | simp only [add_plain] at hx33_10 | skip)
           (first | simp only [add_plain] at hx33_11 | skip)
           obtain ⟨ce50, hcl50, hM50, hcc50, hfr50⟩ := Kd.R_elem HO_8.out z31 (t32 : Int) p50 q50
           obtain rfl := k31_openM hM50
           have hx50_0 : World.cell? _ ⟨go50, (t32 : Int).toNat * 12, none⟩ = some (.string ((rd_T31 x8_1 t32).f0)) := hcc50 0 _ rfl
           have hx50_1 : World.cell? _ ⟨go50, (t32 : Int).toNat * 12 + 1, none⟩ = some (.string ((rd_T31 x8_1 t32).f1)) := hcc50 1 _ rfl
           have hx50_2 : World.cell? _ ⟨go50, (t32 : Int).toNat * 12 + 2, none⟩ = some (.int .i64 ((rd_T31 x8_1 t32).f2.f0)) := hcc50 2 _ rfl
           have hx50_3 : World.cell? _ ⟨go50, (t32 : Int).toNat * 12 + 3, none⟩ = some (.int .i64 ((rd_T31 x8_1 t32).f2.f1)) := hcc50 3 _ rfl
           have hx50_4 : World.cell? _ ⟨go50, (t32 : Int).toNat * 12 + 4, none⟩ = some (.int .i64 ((rd_T31 x8_1 t32).f2.f2)) := hcc50 4 _ rfl
           have hx50_5 : World.cell? _ ⟨go50, (t32 : Int).toNat * 12 + 5, none⟩ = some (.int .i64 ((rd_T31 x8_1 t32).f3.f0)) := hcc50 5 _ rfl
           have hx50_6 : World.cell? _ ⟨go50, (t32 : Int).toNat * 12 + 6, none⟩ = some (.int .i64 ((rd_T31 x8_1 t32).f3.f1)) := hcc50 6 _ rfl
           have hx50_7 : World.cell? _ ⟨go50, (t32 : Int).toNat * 12 + 7, none⟩ = some (.int .i64 ((rd_T31 x8_1 t32).f3.f2)) := hcc50 7 _ rfl
           have hx50_8 : World.cell? _ ⟨go50, (t32 : Int).toNat * 12 + 8, none⟩ = some (.int .i64 ((rd_T31 x8_1 t32).f4.f0)) := hcc50 8 _ rfl
           have hx50_9 : World.cell? _ ⟨go50, (t32 : Int).toNat * 12 + 9, none⟩ = some (.int .i64 ((rd_T31 x8_1 t32).f4.f1)) := hcc50 9 _ rfl
           have hx50_10 : World.cell? _ ⟨go50, (t32 : Int).toNat * 12 + 10, none⟩ = some (.int .i64 ((rd_T31 x8_1 t32).f4.f2)) := hcc50 10 _ rfl
           have hx50_11 : World.cell? _ ⟨go50, (t32 : Int).toNat * 12 + 11, none⟩ = some (.int .i64 ((rd_T31 x8_1 t32).f5)) := hcc50 11 _ rfl
           have hf50_0 : World.frozen? _ ⟨go50, (t32 : Int).toNat * 12, none⟩ = false := hfr50 0
           have hf50_1 : World.frozen? _ ⟨go50, (t32 : Int).toNat * 12 + 1, none⟩ = false := hfr50 1
           have hf50_2 : World.frozen? _ ⟨go50, (t32 : Int).toNat * 12 + 2, none⟩ = false := hfr50 2
           have hf50_3 : World.frozen? _ ⟨go50, (t32 : Int).toNat * 12 + 3, none⟩ = false := hfr50 3
           have hf50_4 : World.frozen? _ ⟨go50, (t32 : Int).toNat * 12 + 4, none⟩ = false := hfr50 4
           have hf50_5 : World.frozen? _ ⟨go50, (t32 : Int).toNat * 12 + 5, none⟩ = false := hfr50 5
           have hf50_6 : World.frozen? _ ⟨go50, (t32 : Int).toNat * 12 + 6, none⟩ = false := hfr50 6
           have hf50_7 : World.frozen? _ ⟨go50, (t32 : Int).toNat * 12 + 7, none⟩ = false := hfr50 7
           have hf50_8 : World.frozen? _ ⟨go50, (t32 : Int).toNat * 12 + 8, none⟩ = false := hfr50 8
           have hf50_9 : World.frozen? _ ⟨go50, (t32 : Int).toNat * 12 + 9, none⟩ = false := hfr50 9
           have hf50_10 : World.frozen? _ ⟨go50, (t32 : Int).toNat * 12 + 10, none⟩ = false := hfr50 10
           have hf50_11 : World.frozen? _ ⟨go50, (t32 : Int).toNat * 12 + 11, none⟩ = false := hfr50 11
           clear hcl50 hcc50 hfr50 hM50
           replace p50 := eq_true p50
           replace q50 := eq_true q50
           obtain ⟨ce54, hcl54, hM54, hcc54, hfr54⟩ := Kd.R_elem HO_8.out z31 (t32 : Int) (of_decide_eq_true (by first|(with_reducible assumption)|assumption)) (by have h_ : (t32 : Int) < ((x8_1.length : Int) : Int) := of_decide_eq_true (by first|(with_reducible assumption)|assumption);first|exact h_|(have e_ := (Kd.R_reads' HO_8.out).1;omega)|simpa using h_)
           obtain rfl := k31_openM hM54
           have HP54 := (Kd.R_seg HO_8.out (t32 : Int) (of_decide_eq_true (by first|(with_reducible assumption)|assumption)) (by have h_ : (t32 : Int) < ((x8_1.length : Int) : Int) := of_decide_eq_true (by first|(with_reducible assumption)|assumption);first|exact h_|(have e_ := (Kd.R_reads' HO_8.out).1;omega)|simpa using h_) (seg := [.int .i64 t34, .int .i64 t35, .int .i64 t36]) (j := 5) hcl54 hcc54 (show 8 ≤ 12 from by decide) (x' := (⟨(rd_T31 x8_1 t32).f0, (rd_T31 x8_1 t32).f1, (⟨(rd_T31 x8_1 t32).f2.f0, (rd_T31 x8_1 t32).f2.f1, (rd_T31 x8_1 t32).f2.f2⟩ : S27), (⟨t34, t35, t36⟩ : S27), (⟨(rd_T31 x8_1 t32).f4.f0, (rd_T31 x8_1 t32).f4.f1, (rd_T31 x8_1 t32).f4.f2⟩ : S27), (rd_T31 x8_1 t32).f5⟩ : S31)) (k31_mkM _ _ _ (⟨(rd_T31 x8_1 t32).f0, (rd_T31 x8_1 t32).f1, (⟨(rd_T31 x8_1 t32).f2.f0, (rd_T31 x8_1 t32).f2.f1, (rd_T31 x8_1 t32).f2.f2⟩ : S27), (⟨t34, t35, t36⟩ : S27), (⟨(rd_T31 x8_1 t32).f4.f0, (rd_T31 x8_1 t32).f4.f1, (rd_T31 x8_1 t32).f4.f2⟩ : S27), (rd_T31 x8_1 t32).f5⟩ : S31) ) (fun _ hk => hk)).1
           rw [← Ny37.out] at HP54
           have HQ54 := Aside0.mk HP54
           clear hcl54 hcc54 hfr54 hM54 HP54
           refine hK.out _ _ ⟨(blk_cell BK1.out 0).trans rfl, (blk_cell BK1.out 1).trans rfl, (blk_cell BK1.out 2).trans rfl, HS3_, HS4_, HS5_, HS6_, HS7_, HS8_, HS9_, HS10_, HS11_, HS12_, HS13_, HS14_⟩ (fun hHeld => ?_)
           clear hK K
           refine norm_ (a' := ?_) ?_ ?_
           rotate_left
           ·show Act.put _ (some 73) _ = _
            simp only [Act.put, List.setIfInBounds_toArray, List.set_cons_zero, List.set_cons_succ, i64_w, i32_w]
            rfl
           refine pure_ (i := 9) (N := some 74) (v := ?_) (a' := ?_) #[true, true, true, true, true, true, true, true, true, true, false, false] rfl rfl (any_of HT_.out (by kernel_rfl)) (fun _ _ _ h => h) (Or.inl ⟨by rfl, ?_⟩) ?_ ?_
           rotate_left
           ·intro w'
            go_simp
            with_reducible rfl
           rotate_left
           ·simp only [Act.put, List.setIfInBounds_toArray, List.set_cons_zero, List.set_cons_succ, i64_w, i32_w]
            rfl
           refine pure_ (i := 10) (N := some 75) (v := ?_) (a' := ?_) #[true, true, true, true, true, true, true, true, true, true, true, false] rfl rfl (any_of HT_.out (by kernel_rfl)) (fun _ _ _ h => h) (Or.inl ⟨by rfl, ?_⟩) ?_ ?_
           rotate_left
           ·intro w'
            go_simp
            with_reducible rfl
           rotate_left
           ·simp only [Act.put, List.setIfInBounds_toArray, List.set_cons_zero, List.set_cons_succ, i64_w, i32_w]
            rfl
           refine last_ (i := 11) (N := none) #[true, true, true, true, true, true, true, true, true, true, true, true] rfl rfl (one_of HT_.out (by kernel_rfl)) (by decide) (fun K hK => ?_)
           refine skip_ (w1 := ?_) (by rfl) rfl ?_ ?_
           rotate_left
           ·go_simp
            rfl
           refine hK.out _ _ ?_
           clear hK K
           refine done_ (done_of HT_.out (by kernel_rfl)) ?_
           have n0_ : Aside0 (Kd.R Kd.string 9 (((w53.setCell ⟨go50, (t32 : Int).toNat * 12 + 5, none⟩ (.int .i64 t34)).setCell ⟨go50, (t32 : Int).toNat * 12 + 6, none⟩ (.int .i64 t35)).setCell ⟨go50, (t32 : Int).toNat * 12 + 7, none⟩ (.int .i64 t36)) w.heap.size (fun _ => True) (.slice Ao31 t3.length co31) t3) := ⟨by (with_reducible repeat (first|apply Kd.R_alloc|apply Kd.R_drewN|apply Kd.R_drew));exact Kd.R_mono (Kd.R_far (p := ⟨go50, (t32 : Int).toNat * 12 + 7, none⟩) (Kd.R_far (p := ⟨go50, (t32 : Int).toNat * 12 + 6, none⟩) (Kd.R_far (p := ⟨go50, (t32 : Int).toNat * 12 + 5, none⟩) (Kd.R_types HO_7.out GG50.out (by decide)) (fun _ hk => hk.2) (.int .i64 t34)) (fun _ hk => hk.2) (.int .i64 t35)) (fun _ hk => hk.2) (.int .i64 t36)) (fun _ hk => trivial)⟩
           have n1_ : Aside0 (Kd.R k31 31 (((w53.setCell ⟨go50, (t32 : Int).toNat * 12 + 5, none⟩ (.int .i64 t34)).setCell ⟨go50, (t32 : Int).toNat * 12 + 6, none⟩ (.int .i64 t35)).setCell ⟨go50, (t32 : Int).toNat * 12 + 7, none⟩ (.int .i64 t36)) w.heap.size (fun _ => True) (.slice (some ⟨go50, 0, none⟩) x8_1.length co51) y37) := ⟨by (with_reducible repeat (first|apply Kd.R_alloc|apply Kd.R_drewN|apply Kd.R_drew));exact HQ54.out⟩
           have n2_ : Aside0 ((((w53.setCell ⟨go50, (t32 : Int).toNat * 12 + 5, none⟩ (.int .i64 t34)).setCell ⟨go50, (t32 : Int).toNat * 12 + 6, none⟩ (.int .i64 t35)).setCell ⟨go50, (t32 : Int).toNat * 12 + 7, none⟩ (.int .i64 t36)).heap[gb1]? = some (.cells #[.int .i64 a2_0, .int .i64 a2_1, .int .i64 a2_2] 27 (0, 0))) := ⟨by (with_reducible repeat (first|refine blk_drewN ?_ _|refine blk_drew ?_|refine blk_alloc ?_ _));refine blk_far ?_ (by have h_ := Kd.R_ne HO_8.out BK1.out (by decide);intro e_;exact h_ (by rw [e_];rfl)) _;(with_reducible repeat (first|refine blk_drewN ?_ _|refine blk_drew ?_|refine blk_alloc ?_ _));refine blk_far ?_ (by have h_ := Kd.R_ne HO_8.out BK1.out (by decide);intro e_;exact h_ (by rw [e_];rfl)) _;(with_reducible repeat (first|refine blk_drewN ?_ _|refine blk_drew ?_|refine blk_alloc ?_ _));refine blk_far ?_ (by have h_ := Kd.R_ne HO_8.out BK1.out (by decide);intro e_;exact h_ (by rw [e_];rfl)) _;(with_reducible repeat (first|refine blk_drewN ?_ _|refine blk_drew ?_|refine blk_alloc ?_ _));exact BK1.out⟩
           have n3_ : Aside0 ((((w53.setCell ⟨go50, (t32 : Int).toNat * 12 + 5, none⟩ (.int .i64 t34)).setCell ⟨go50, (t32 : Int).toNat * 12 + 6, none⟩ (.int .i64 t35)).setCell ⟨go50, (t32 : Int).toNat * 12 + 7, none⟩ (.int .i64 t36)).heap[gb2]? = some (.cells #[.slice none 0 0, .int .i64 0] 67 (0, 0))) := ⟨by (with_reducible repeat (first|refine blk_drewN ?_ _|refine blk_drew ?_|refine blk_alloc ?_ _));refine blk_far ?_ (by have h_ := Kd.R_ne HO_8.out BK2.out (by decide);intro e_;exact h_ (by rw [e_];rfl)) _;(with_reducible repeat (first|refine blk_drewN ?_ _|refine blk_drew ?_|refine blk_alloc ?_ _));refine blk_far ?_ (by have h_ := Kd.R_ne HO_8.out BK2.out (by decide);intro e_;exact h_ (by rw [e_];rfl)) _;(with_reducible repeat (first|refine blk_drewN ?_ _|refine blk_drew ?_|refine blk_alloc ?_ _));refine blk_far ?_ (by have h_ := Kd.R_ne HO_8.out BK2.out (by decide);intro e_;exact h_ (by rw [e_];rfl)) _;(with_reducible repeat (first|refine blk_drewN ?_ _|refine blk_drew ?_|refine blk_alloc ?_ _));exact BK2.out⟩
           have n4_ : Aside0 (Below w.heap.size w (((w53.setCell ⟨go50, (t32 : Int).toNat * 12 + 5, none⟩ (.int .i64 t34)).setCell ⟨go50, (t32 : Int).toNat * 12 + 6, none⟩ (.int .i64 t35)).setCell ⟨go50, (t32 : Int).toNat * 12 + 7, none⟩ (.int .i64 t36))) := ⟨by repeat (first|(with_reducible first|exact HB.out|apply below_alloc|apply pw_below_drewN|apply below_drew1|refine below_set ?_ GB50.out|refine below_set ?_ GB50.out|refine below_set ?_ GB50.out|refine below_set ?_ GE1.out|refine below_set ?_ GE2.out)|exact HB.out)⟩
           (try clear HO_7)
           (try clear HO_8)
           (try clear BK1)
           (try clear BK2)
           (try clear HB)
           generalize (((w53.setCell ⟨go50, (t32 : Int).toNat * 12 + 5, none⟩ (.int .i64 t34)).setCell ⟨go50, (t32 : Int).toNat * 12 + 6, none⟩ (.int .i64 t35)).setCell ⟨go50, (t32 : Int).toNat * 12 + 7, none⟩ (.int .i64 t36)) = w55 at n0_ n1_ n2_ n3_ n4_ ⊢
           have HO_7 := n0_
           have HO_8 := n1_
           have BK1 := n2_
           have BK2 := n3_
           have HB := n4_
           clear n0_ n1_ n2_ n3_ n4_
           have hnb56 := NB2_1.out
           have hnc56 := NB1_2.out
           have hcz57_0 : w55.cell? ⟨gb2, 0, none⟩ = some (.slice none 0 0) := (blk_cell BK2.out 0).trans rfl
           have hcz57_1 : w55.cell? ⟨gb2, 1, none⟩ = some (.int .i64 0) := (blk_cell BK2.out 1).trans rfl
           have hfz57_0 := blk_frozen BK2.out 0
           have hfz57_1 := blk_frozen BK2.out 1
           try go_wp2
           refine bodyPost_ret (results_cell_row rfl _ _ gb2 67 #[.slice (some ⟨go50, 0, none⟩) x8_1.length co51, .int .i64 0] (0, 0) _ rfl (by (with_reducible repeat (first|refine blk_drewN ?_ _|refine blk_drew ?_|refine blk_alloc ?_ _));refine blk_put (cs := #[.slice (some ⟨go50, 0, none⟩) x8_1.length co51, .int .i64 0]) ?_ 1 _ rfl;(with_reducible repeat (first|refine blk_drewN ?_ _|refine blk_drew ?_|refine blk_alloc ?_ _));refine blk_put (cs := #[.slice none 0 0, .int .i64 0]) ?_ 0 _ rfl;(with_reducible repeat (first|refine blk_drewN ?_ _|refine blk_drew ?_|refine blk_alloc ?_ _));exact BK2.out) Try.underlying67 rfl (by kernel_rfl)) rfl ?_
           exact ⟨_, by first|rfl|(simp [errW_none, errW_some] <;> rfl)|(simp [*, errW_none, errW_some] <;> rfl), by (with_reducible repeat (first|apply Kd.R_alloc|apply Kd.R_drewN|apply Kd.R_drew));exact Kd.R_mono (Kd.R_far (p := ⟨gb2, 1, none⟩) (Kd.R_far (p := ⟨gb2, 0, none⟩) (Kd.R_types HO_8.out BK2.out (by decide)) (fun _ hk => hk.2) (.slice (some ⟨go50, 0, none⟩) x8_1.length co51)) (fun _ hk => hk.2) (.int .i64 0)) (fun _ hk => trivial), by repeat (first|(with_reducible first|exact HB.out|apply below_alloc|apply pw_below_drewN|apply below_drew1|refine below_set ?_ GE1.out|refine below_set ?_ GE2.out)|exact HB.out)⟩
          ·rw [if_neg c48] at H
           exact absurd H (by simp)
         ·rw [if_neg c47] at H
          exact absurd H (by simp)
     ·replace c23 := Bool.eq_false_iff.mpr c23
      subst c23
      have H1 : ((r10_no.f 1).bind fun bt14 => (some (bt14.1, bt14.2))) = some (r1, r2) := by rw [if_neg (show ¬ (false = true) by decide)] at H; exact H
      clear H
      have H := H1
      clear H1
      replace H := Option.bind_eq_some_iff.mp H
      obtain ⟨⟨t14, t17⟩, A580, H⟩ := H
      replace H : (some (t14, t17)) = some (r1, r2) := H
      have A58 := Aside0.mk A580
      clear A580
      simp only [Option.some.injEq, Prod.mk.injEq] at H
      obtain ⟨rfl, rfl⟩ := H
      go_enter Try.func77, Try.ntmps77
      try go_wp2_with (first|((with_reducible refine gate_dst (N := 5) rfl ?_);refine box_event ?hg (N := 5) ?hd (cs := #[.int .i64 a2_0, .int .i64 a2_1, .int .i64 a2_2]) (t := 27) ?hr ?_;(case hd => rfl);(case hg => rfl);(case hr => first|(go_simp;done)|(go_simp;rfl));intro gb1 hg w59 hbox hb;have n0_ := Aside0.mk (below_step (by repeat (first|(with_reducible first|exact HB.out|apply below_alloc|apply pw_below_drewN|apply below_drew1)|exact HB.out)) hb);have n1_ := Aside0.mk (hbox);have n2_ := Aside0.mk ((by rw [hg];exact (below_size (by repeat (first|(with_reducible first|exact HB.out|apply below_alloc|apply pw_below_drewN|apply below_drew1)|exact HB.out))) : w.heap.size ≤ gb1));have n3_ := Aside0.mk ((by rw [hg];exact (below_size (by repeat (first|(with_reducible first|exact HB.out|apply below_alloc|apply pw_below_drewN|apply below_drew1)|exact HB.out))) : w.heap.size ≤ gb1));clear HB;have HB := n0_;have BK1 := n1_;have GW1 := n2_;have GE1 := n3_;clear n0_ n1_ n2_ n3_;clear hb hbox hg)|((with_reducible refine gate_dst (N := 6) rfl ?_);refine box_event ?hg (N := 6) ?hd (cs := #[.slice none 0 0, .int .i64 0]) (t := 67) ?hr ?_;(case hd => rfl);(case hg => rfl);(case hr => first|(go_simp;done)|(go_simp;rfl));intro gb2 hg w60 hbox hb;have n0_ := Aside0.mk (blk_below (g := gb1) (o := .cells #[.int .i64 a2_0, .int .i64 a2_1, .int .i64 a2_2] 27 (0, 0)) (by (with_reducible repeat (first|refine blk_drewN ?_ _|refine blk_drew ?_|refine blk_alloc ?_ _));exact BK1.out) hb);have n1_ := Aside0.mk (below_step (by repeat (first|(with_reducible first|exact HB.out|apply below_alloc|apply pw_below_drewN|apply below_drew1|refine below_set ?_ GE1.out)|exact HB.out)) hb);have n2_ := Aside0.mk (hbox);have n3_ := Aside0.mk ((by rw [hg];exact (below_size (by repeat (first|(with_reducible first|exact HB.out|apply below_alloc|apply pw_below_drewN|apply below_drew1|refine below_set ?_ GE1.out)|exact HB.out))) : w.heap.size ≤ gb2));have n4_ := Aside0.mk ((by rw [hg];exact (below_size (by repeat (first|(with_reducible first|exact HB.out|apply below_alloc|apply pw_below_drewN|apply below_drew1|refine below_set ?_ GE1.out)|exact HB.out))) : w.heap.size ≤ gb2));have n5_ := Aside0.mk ((by rw [hg];exact Nat.ne_of_lt (blk_lt (g := gb1) (o := .cells #[.int .i64 a2_0, .int .i64 a2_1, .int .i64 a2_2] 27 (0, 0)) (by (with_reducible repeat (first|refine blk_drewN ?_ _|refine blk_drew ?_|refine blk_alloc ?_ _));exact BK1.out)) : gb1 ≠ gb2));have n6_ := Aside0.mk ((by rw [hg];exact Nat.ne_of_gt (blk_lt (g := gb1) (o := .cells #[.int .i64 a2_0, .int .i64 a2_1, .int .i64 a2_2] 27 (0, 0)) (by (with_reducible repeat (first|refine blk_drewN ?_ _|refine blk_drew ?_|refine blk_alloc ?_ _));exact BK1.out)) : gb2 ≠ gb1));clear BK1;clear HB;have BK1 := n0_;have HB := n1_;have BK2 := n2_;have GW2 := n3_;have GE2 := n4_;have NB1_2 := n5_;have NB2_1 := n6_;clear n0_ n1_ n2_ n3_ n4_ n5_ n6_;clear hb hbox hg)|((with_reducible refine gate_callee (f := 106) rfl ?_);refine goesL_ (some 14) rfl rfl Try.func106 (by kernel_rfl) rfl #[.slice A0 l0.length c0, .string a1] rfl (by (try simp only [List.map_toArray, List.map_cons, List.map_nil]);first|done|rfl|(simp only [List.length_drop, List.length_take];rfl)) ?_;(with_reducible refine (r10_Up.calls k _ _ l0 a1 t3 _ ?side1 ?side2 A4.out).mono ?_);(case side1 => repeat (first|exact (Kd.C_below HR0.out HB.out)|(with_reducible refine Kd.C_alloc ?_ _)|(with_reducible refine Kd.C_drewN ?_ _)|(with_reducible refine Kd.C_drew ?_)));(case side2 => exact HC0.out);rintro e w61 ⟨v4, rfl, ho0, hb⟩;refine ⟨_, rfl, ?_⟩;have n0_ := Aside0.mk (Kd.R_lower ho0 (below_size (by repeat (first|(with_reducible first|exact HB.out|apply below_alloc|apply pw_below_drewN|apply below_drew1|refine below_set ?_ GE1.out|refine below_set ?_ GE2.out)|exact HB.out))));have n1_ := Aside0.mk (blk_below (g := gb1) (o := .cells #[.int .i64 a2_0, .int .i64 a2_1, .int .i64 a2_2] 27 (0, 0)) (by (with_reducible repeat (first|refine blk_drewN ?_ _|refine blk_drew ?_|refine blk_alloc ?_ _));exact BK1.out) hb);have n2_ := Aside0.mk (blk_below (g := gb2) (o := .cells #[.slice none 0 0, .int .i64 0] 67 (0, 0)) (by (with_reducible repeat (first|refine blk_drewN ?_ _|refine blk_drew ?_|refine blk_alloc ?_ _));exact BK2.out) hb);have n3_ := Aside0.mk (below_step (by repeat (first|(with_reducible first|exact HB.out|apply below_alloc|apply pw_below_drewN|apply below_drew1|refine below_set ?_ GE1.out|refine below_set ?_ GE2.out)|exact HB.out)) hb);clear BK1;clear BK2;clear HB;have HO5 := n0_;have BK1 := n1_;have BK2 := n2_;have HB := n3_;clear n0_ n1_ n2_ n3_;(try clear hb);(try clear hb2);(try clear hk);(try clear hi);(try clear ho0);have hnb62 := NB1_2.out;have hnc62 := NB2_1.out;have hcz63_0 : w61.cell? ⟨gb1, 0, none⟩ = some (.int .i64 a2_0) := (blk_cell BK1.out 0).trans rfl;have hcz63_1 : w61.cell? ⟨gb1, 1, none⟩ = some (.int .i64 a2_1) := (blk_cell BK1.out 1).trans rfl;have hcz63_2 : w61.cell? ⟨gb1, 2, none⟩ = some (.int .i64 a2_2) := (blk_cell BK1.out 2).trans rfl;have hfz63_0 := blk_frozen BK1.out 0;have hfz63_1 := blk_frozen BK1.out 1;have hfz63_2 := blk_frozen BK1.out 2)|((with_reducible refine gate_callee (f := 65) rfl ?_);refine goesL_ (some 17) rfl rfl Try.func65 (by kernel_rfl) rfl #[.agg #[.int .i64 a2_0, .int .i64 a2_1, .int .i64 a2_2]] rfl (by (try simp only [List.map_toArray, List.map_cons, List.map_nil]);first|done|rfl|(simp only [List.length_drop, List.length_take];rfl)) ?_;(with_reducible refine (r10_MayVec.calls a2_0 a2_1 a2_2 true _ A5.out).mono ?_);rintro e w64 ⟨rfl, hb⟩;refine ⟨_, rfl, ?_⟩;have n0_ := Aside0.mk (Kd.R_below (by (with_reducible repeat (first|apply Kd.R_alloc|apply Kd.R_drewN|apply Kd.R_drew));exact HO5.out) hb);have n1_ := Aside0.mk (blk_below (g := gb1) (o := .cells #[.int .i64 a2_0, .int .i64 a2_1, .int .i64 a2_2] 27 (0, 0)) (by (with_reducible repeat (first|refine blk_drewN ?_ _|refine blk_drew ?_|refine blk_alloc ?_ _));exact BK1.out) hb);have n2_ := Aside0.mk (blk_below (g := gb2) (o := .cells #[.slice none 0 0, .int .i64 0] 67 (0, 0)) (by (with_reducible repeat (first|refine blk_drewN ?_ _|refine blk_drew ?_|refine blk_alloc ?_ _));exact BK2.out) hb);have n3_ := Aside0.mk (below_step (by repeat (first|(with_reducible first|exact HB.out|apply below_alloc|apply pw_below_drewN|apply below_drew1|refine below_set ?_ GE1.out|refine below_set ?_ GE2.out)|exact HB.out)) hb);clear HO5;clear BK1;clear BK2;clear HB;have HO5 := n0_;have BK1 := n1_;have BK2 := n2_;have HB := n3_;clear n0_ n1_ n2_ n3_;(try clear hb);(try clear hb2);(try clear hk);(try clear hi);obtain ⟨Ao65, co65, eo65⟩ := Kd.R_slice HO5.out;subst eo65))
      have n0_ := Aside0.mk (Kd.R_drew HO5.out)
      have n1_ := Aside0.mk (blk_drew BK1.out)
      have n2_ := Aside0.mk (blk_drew BK2.out)
      have n3_ := Aside0.mk (below_drew1 HB.out)
      clear HO5
      clear BK1
      clear BK2
      clear HB
      have HO5 := n0_
      have BK1 := n1_
      have BK2 := n2_
      have HB := n3_
      clear n0_ n1_ n2_ n3_
      have p12 : 0 ≤ (t11 : Int) := of_decide_eq_true (by first|(with_reducible assumption)|assumption)
      have q12 : t11 < (l0.length : Int) := of_decide_eq_true (by first|(with_reducible assumption)|assumption)
      obtain ⟨ad12, e12, hx12_0, hx12_1, hx12_2, hx12_3, hx12_4, hx12_5, hx12_6, hx12_7, hx12_8, hx12_9, hx12_10, hx12_11⟩ := at_T31 HR0.out t11 p12 q12
      have hw12_11 := hx12_11
      have hw12_10 := hx12_10
      have hw12_9 := hx12_9
      have hw12_8 := hx12_8
      have hw12_7 := hx12_7
      have hw12_6 := hx12_6
      have hw12_5 := hx12_5
      have hw12_4 := hx12_4
      have hw12_3 := hx12_3
      have hw12_2 := hx12_2
      have hw12_1 := hx12_1
      have hw12_0 := hx12_0
      cases e12
      replace hx12_0 := (HB.out.cell (World.block_lt_of_cell? w _ hx12_0)).trans hx12_0
      replace hx12_1 := (HB.out.cell (World.block_lt_of_cell? w _ hx12_1)).trans hx12_1
      replace hx12_2 := (HB.out.cell (World.block_lt_of_cell? w _ hx12_2)).trans hx12_2
      replace hx12_3 := (HB.out.cell (World.block_lt_of_cell? w _ hx12_3)).trans hx12_3
      replace hx12_4 := (HB.out.cell (World.block_lt_of_cell? w _ hx12_4)).trans hx12_4
      replace hx12_5 := (HB.out.cell (World.block_lt_of_cell? w _ hx12_5)).trans hx12_5
      replace hx12_6 := (HB.out.cell (World.block_lt_of_cell? w _ hx12_6)).trans hx12_6
      replace hx12_7 := (HB.out.cell (World.block_lt_of_cell? w _ hx12_7)).trans hx12_7
      replace hx12_8 := (HB.out.cell (World.block_lt_of_cell? w _ hx12_8)).trans hx12_8
      replace hx12_9 := (HB.out.cell (World.block_lt_of_cell? w _ hx12_9)).trans hx12_9
      replace hx12_10 := (HB.out.cell (World.block_lt_of_cell? w _ hx12_10)).trans hx12_10
      replace hx12_11 := (HB.out.cell (World.block_lt_of_cell? w _ hx12_11)).trans hx12_11
      replace p12 := eq_true p12
      replace q12 := eq_true q12
      refine start_ (n := 11) (S := fun w' => w'.cell? ⟨gb1, 0, none⟩ = some (.int .i64 a2_0) ∧ w'.cell? ⟨gb1, 1, none⟩ = some (.int .i64 a2_1) ∧ w'.cell? ⟨gb1, 2, none⟩ = some (.int .i64 a2_2) ∧ w'.cell? (ad12.add ((t11).toNat * 12)) = some (.string ((rd_T31 l0 t11).f0)) ∧ w'.cell? ⟨(ad12.add ((t11).toNat * 12)).block, (ad12.add ((t11).toNat * 12)).off + 1, none⟩ = some (.string ((rd_T31 l0 t11).f1)) ∧ w'.cell? ⟨(ad12.add ((t11).toNat * 12)).block, (ad12.add ((t11).toNat * 12)).off + 2, none⟩ = some (.int .i64 ((rd_T31 l0 t11).f2.f0)) ∧ w'.cell? ⟨(ad12.add ((t11).toNat * 12)).block, (ad12.add ((t11).toNat * 12)).off + 3, none⟩ = some (.int .i64 ((rd_T31 l0 t11).f2.f1)) ∧ w'.cell? ⟨(ad12.add ((t11).toNat * 12)).block, (ad12.add ((t11).toNat * 12)).off + 4, none⟩ = some (.int .i64 ((rd_T31 l0 t11).f2.f2)) ∧ w'.cell? ⟨(ad12.add ((t11).toNat * 12)).block, (ad12.add ((t11).toNat * 12)).off + 5, none⟩ = some (.int .i64 ((rd_T31 l0 t11).f3.f0)) ∧ w'.cell? ⟨(ad12.add ((t11).toNat * 12)).block, (ad12.add ((t11).toNat * 12)).off + 6, none⟩ = some (.int .i64 ((rd_T31 l0 t11).f3.f1)) ∧ w'.cell? ⟨(ad12.add ((t11).toNat * 12)).block, (ad12.add ((t11).toNat * 12)).off + 7, none⟩ = some (.int .i64 ((rd_T31 l0 t11).f3.f2)) ∧ w'.cell? ⟨(ad12.add ((t11).toNat * 12)).block, (ad12.add ((t11).toNat * 12)).off + 8, none⟩ = some (.int .i64 ((rd_T31 l0 t11).f4.f0)) ∧ w'.cell? ⟨(ad12.add ((t11).toNat * 12)).block, (ad12.add ((t11).toNat * 12)).off + 9, none⟩ = some (.int .i64 ((rd_T31 l0 t11).f4.f1)) ∧ w'.cell? ⟨(ad12.add ((t11).toNat * 12)).block, (ad12.add ((t11).toNat * 12)).off + 10, none⟩ = some (.int .i64 ((rd_T31 l0 t11).f4.f2)) ∧ w'.cell? ⟨(ad12.add ((t11).toNat * 12)).block, (ad12.add ((t11).toNat * 12)).off + 11, none⟩ = some (.int .i64 ((rd_T31 l0 t11).f5))) (ds := []) #[false, false, false, false, false, false, false, false, false, false, false] (by kernel_rfl) rfl rfl ⟨(blk_cell BK1.out 0).trans rfl, (blk_cell BK1.out 1).trans rfl, (blk_cell BK1.out 2).trans rfl, ((HB.out.cell (World.block_lt_of_cell? w _ hw12_0)).trans hw12_0), ((HB.out.cell (World.block_lt_of_cell? w _ hw12_1)).trans hw12_1), ((HB.out.cell (World.block_lt_of_cell? w _ hw12_2)).trans hw12_2), ((HB.out.cell (World.block_lt_of_cell? w _ hw12_3)).trans hw12_3), ((HB.out.cell (World.block_lt_of_cell? w _ hw12_4)).trans hw12_4), ((HB.out.cell (World.block_lt_of_cell? w _ hw12_5)).trans hw12_5), ((HB.out.cell (World.block_lt_of_cell? w _ hw12_6)).trans hw12_6), ((HB.out.cell (World.block_lt_of_cell? w _ hw12_7)).trans hw12_7), ((HB.out.cell (World.block_lt_of_cell? w _ hw12_8)).trans hw12_8), ((HB.out.cell (World.block_lt_of_cell? w _ hw12_9)).trans hw12_9), ((HB.out.cell (World.block_lt_of_cell? w _ hw12_10)).trans hw12_10), ((HB.out.cell (World.block_lt_of_cell? w _ hw12_11)).trans hw12_11)⟩ (fun hHeld => ?_); refine with_tabW r10_Release.tab6 r10_Release.bits6 (fun HT_ HW_ => ?_)
      generalize w64.drew = w66 at HO5 BK1 BK2 HB hx12_0 hx12_1 hx12_10 hx12_11 hx12_2 hx12_3 hx12_4 hx12_5 hx12_6 hx12_7 hx12_8 hx12_9 hHeld ⊢
      refine pure_ (i := 1) (N := some 27) (v := ?_) (a' := ?_) #[false, true, false, false, false, false, false, false, false, false, false] rfl rfl (any_of HT_.out (by kernel_rfl)) (fun _ _ _ h => h) (Or.inl ⟨by rfl, ?_⟩) ?_ ?_
      rotate_left
      ·intro w'
       go_simp
       with_reducible rfl
      rotate_left
      ·simp only [Act.put, List.setIfInBounds_toArray, List.set_cons_zero, List.set_cons_succ, i64_w, i32_w]
       rfl
      refine pure_ (i := 2) (N := some 28) (v := ?_) (a' := ?_) #[false, true, true, false, false, false, false, false, false, false, false] rfl rfl (any_of HT_.out (by kernel_rfl)) (fun _ _ _ h => h) (Or.inl ⟨by rfl, ?_⟩) ?_ ?_
      rotate_left
      ·intro w'
       go_simp
       with_reducible rfl
      rotate_left
      ·simp only [Act.put, List.setIfInBounds_toArray, List.set_cons_zero, List.set_cons_succ, i64_w, i32_w]
       rfl
      refine pure_ (i := 3) (N := some 29) (v := ?_) (a' := ?_) #[false, true, true, true, false, false, false, false, false, false, false] rfl rfl (any_of HT_.out (by kernel_rfl)) (fun _ _ _ h => h) (Or.inl ⟨by rfl, ?_⟩) ?_ ?_
      rotate_left
      ·intro w'
       go_simp
       with_reducible rfl
      rotate_left
      ·simp only [Act.put, List.setIfInBounds_toArray, List.set_cons_zero, List.set_cons_succ, i64_w, i32_w]
       rfl
      refine take_ (i := 0) (N := some 26) (v := ?_) (a' := ?_) #[true, true, true, true, false, false, false, false, false, false, false] rfl rfl (take_ofW HT_.out HW_.out (by kernel_rfl)) (fun _ _ _ h => h) (Or.inl ⟨by rfl, ?_⟩) hHeld ?_ ?_
      rotate_left
      ·rintro w' ⟨s0, s1, s2, s3, s4, s5, s6, s7, s8, s9, s10, s11, s12, s13, s14⟩
       go_simp
       with_reducible rfl
      rotate_left
      ·simp only [Act.put, List.setIfInBounds_toArray, List.set_cons_zero, List.set_cons_succ, i64_w, i32_w]
       rfl
      refine one_ (i := 4) (N := some 30) #[true, true, true, true, true, false, false, false, false, false, false] rfl rfl (one_of HT_.out (by kernel_rfl)) (by decide) (fun K hK => ?_)
      refine goes_ Try.func50 (by kernel_rfl) rfl #[.slice (some ad12) l0.length c0, .string a1] (by rfl) rfl rfl (by (try simp only [List.map_toArray, List.map_cons, List.map_nil]); first | done | rfl | (simp only [List.length_drop, List.length_take]; rfl)) ?_
      with_reducible refine (r10_Find.calls k _ _ l0 a1 t11 _ ?side1 ?side2 A19.out).mono ?_
      (case side1 => repeat (first|exact (Kd.C_below HR0.out HB.out)|(with_reducible refine Kd.C_alloc ?_ _)|(with_reducible refine Kd.C_drewN ?_ _)|(with_reducible refine Kd.C_drew ?_)))
      (case side2 => exact HC0.out)
      rintro e w' ⟨rfl, ⟨nd, rfl⟩⟩
      refine ⟨_, rfl, ?_⟩
      refine hK.out _ _ ⟨(blk_cell BK1.out 0).trans rfl, (blk_cell BK1.out 1).trans rfl, (blk_cell BK1.out 2).trans rfl, ((HB.out.cell (World.block_lt_of_cell? w _ hw12_0)).trans hw12_0), ((HB.out.cell (World.block_lt_of_cell? w _ hw12_1)).trans hw12_1), ((HB.out.cell (World.block_lt_of_cell? w _ hw12_2)).trans hw12_2), ((HB.out.cell (World.block_lt_of_cell? w _ hw12_3)).trans hw12_3), ((HB.out.cell (World.block_lt_of_cell? w _ hw12_4)).trans hw12_4), ((HB.out.cell (World.block_lt_of_cell? w _ hw12_5)).trans hw12_5), ((HB.out.cell (World.block_lt_of_cell? w _ hw12_6)).trans hw12_6), ((HB.out.cell (World.block_lt_of_cell? w _ hw12_7)).trans hw12_7), ((HB.out.cell (World.block_lt_of_cell? w _ hw12_8)).trans hw12_8), ((HB.out.cell (World.block_lt_of_cell? w _ hw12_9)).trans hw12_9), ((HB.out.cell (World.block_lt_of_cell? w _ hw12_10)).trans hw12_10), ((HB.out.cell (World.block_lt_of_cell? w _ hw12_11)).trans hw12_11)⟩ (fun hHeld => ?_)
      clear hK K
      refine norm_ (a' := ?_) ?_ ?_
      rotate_left
      ·show Act.put _ (some 30) _ = _
       simp only [Act.put, List.setIfInBounds_toArray, List.set_cons_zero, List.set_cons_succ, i64_w, i32_w]
       rfl
      refine pure_ (i := 5) (N := some 31) (v := ?_) (a' := ?_) #[true, true, true, true, true, true, false, false, false, false, false] rfl rfl (any_of HT_.out (by kernel_rfl)) (fun _ _ _ h => h) (Or.inl ⟨by rfl, ?_⟩) ?_ ?_
      rotate_left
      ·intro w'
       go_simp
       with_reducible rfl
      rotate_left
      ·simp only [Act.put, List.setIfInBounds_toArray, List.set_cons_zero, List.set_cons_succ, i64_w, i32_w]
       rfl
      refine pure_ (i := 6) (N := some 32) (v := ?_) (a' := ?_) #[true, true, true, true, true, true, true, false, false, false, false] rfl rfl (any_of HT_.out (by kernel_rfl)) (fun _ _ _ h => h) (Or.inl ⟨by rfl, ?_⟩) ?_ ?_
      rotate_left
      ·intro w'
       go_simp
       with_reducible rfl
      rotate_left
      ·simp only [Act.put, List.setIfInBounds_toArray, List.set_cons_zero, List.set_cons_succ, i64_w, i32_w]
       rfl
      refine take_ (i := 7) (N := some 33) (v := ?_) (a' := ?_) #[true, true, true, true, true, true, true, true, false, false, false] rfl rfl (take_ofW HT_.out HW_.out (by kernel_rfl)) (fun _ _ _ h => h) (Or.inl ⟨by rfl, ?_⟩) hHeld ?_ ?_
      rotate_left
      ·rintro w' ⟨s0, s1, s2, s3, s4, s5, s6, s7, s8, s9, s10, s11, s12, s13, s14⟩
       go_simp
       with_reducible rfl
      rotate_left
      ·simp only [Act.put, List.setIfInBounds_toArray, List.set_cons_zero, List.set_cons_succ, i64_w, i32_w]
       rfl
      refine one_ (i := 8) (N := some 34) #[true, true, true, true, true, true, true, true, true, false, false] rfl rfl (one_of HT_.out (by kernel_rfl)) (by decide) (fun K hK => ?_)
      refine goes_ Try.func34 (by kernel_rfl) rfl #[.agg #[.int .i64 a2_0, .int .i64 a2_1, .int .i64 a2_2], .agg #[.int .i64 ((rd_T31 l0 t11).f3.f0), .int .i64 ((rd_T31 l0 t11).f3.f1), .int .i64 ((rd_T31 l0 t11).f3.f2)]] (by rfl) rfl rfl (by (try simp only [List.map_toArray, List.map_cons, List.map_nil]); first | done | rfl | (simp only [List.length_drop, List.length_take]; rfl)) ?_
      with_reducible refine (r10_Le.calls a2_0 a2_1 a2_2 ((rd_T31 l0 t11).f3.f0) ((rd_T31 l0 t11).f3.f1) ((rd_T31 l0 t11).f3.f2) false _ A22.out).mono ?_
      rintro e w67 ⟨rfl, hb⟩
      refine ⟨_, rfl, ?_⟩
      have n0_ := Aside0.mk (Kd.R_below (by (with_reducible repeat (first|apply Kd.R_alloc|apply Kd.R_drewN|apply Kd.R_drew));exact HO5.out) hb)
      have n1_ := Aside0.mk (blk_below (g := gb1) (o := .cells #[.int .i64 a2_0, .int .i64 a2_1, .int .i64 a2_2] 27 (0, 0)) (by (with_reducible repeat (first|refine blk_drewN ?_ _|refine blk_drew ?_|refine blk_alloc ?_ _));exact BK1.out) hb)
      have n2_ := Aside0.mk (blk_below (g := gb2) (o := .cells #[.slice none 0 0, .int .i64 0] 67 (0, 0)) (by (with_reducible repeat (first|refine blk_drewN ?_ _|refine blk_drew ?_|refine blk_alloc ?_ _));exact BK2.out) hb)
      have n3_ := Aside0.mk (below_step (by repeat (first|(with_reducible first|exact HB.out|apply below_alloc|apply pw_below_drewN|apply below_drew1|refine below_set ?_ GE1.out|refine below_set ?_ GE2.out)|exact HB.out)) hb)
      clear HO5
      clear BK1
      clear BK2
      clear HB
      have HO5 := n0_
      have BK1 := n1_
      have BK2 := n2_
      have HB := n3_
      clear n0_ n1_ n2_ n3_
      (try clear hb)
      (try clear hb2)
      (try clear hk)
      (try clear hi)
      refine hK.out _ _ ⟨(blk_cell BK1.out 0).trans rfl, (blk_cell BK1.out 1).trans rfl, (blk_cell BK1.out 2).trans rfl, ((HB.out.cell (World.block_lt_of_cell? w _ hw12_0)).trans hw12_0), ((HB.out.cell (World.block_lt_of_cell? w _ hw12_1)).trans hw12_1), ((HB.out.cell (World.block_lt_of_cell? w _ hw12_2)).trans hw12_2), ((HB.out.cell (World.block_lt_of_cell? w _ hw12_3)).trans hw12_3), ((HB.out.cell (World.block_lt_of_cell? w _ hw12_4)).trans hw12_4), ((HB.out.cell (World.block_lt_of_cell? w _ hw12_5)).trans hw12_5), ((HB.out.cell (World.block_lt_of_cell? w _ hw12_6)).trans hw12_6), ((HB.out.cell (World.block_lt_of_cell? w _ hw12_7)).trans hw12_7), ((HB.out.cell (World.block_lt_of_cell? w _ hw12_8)).trans hw12_8), ((HB.out.cell (World.block_lt_of_cell? w _ hw12_9)).trans hw12_9), ((HB.out.cell (World.block_lt_of_cell? w _ hw12_10)).trans hw12_10), ((HB.out.cell (World.block_lt_of_cell? w _ hw12_11)).trans hw12_11)⟩ (fun hHeld => ?_)
      clear hK K
      refine norm_ (a' := ?_) ?_ ?_
      rotate_left
      ·show Act.put _ (some 34) _ = _
       simp only [Act.put, List.setIfInBounds_toArray, List.set_cons_zero, List.set_cons_succ, i64_w, i32_w]
       rfl
      refine pure_ (i := 9) (N := some 35) (v := ?_) (a' := ?_) #[true, true, true, true, true, true, true, true, true, true, false] rfl rfl (any_of HT_.out (by kernel_rfl)) (fun _ _ _ h => h) (Or.inl ⟨by rfl, ?_⟩) ?_ ?_
      rotate_left
      ·intro w'
       go_simp
       with_reducible rfl
      rotate_left
      ·simp only [Act.put, List.setIfInBounds_toArray, List.set_cons_zero, List.set_cons_succ, i64_w, i32_w]
       rfl
      refine pure_ (i := 10) (N := some 25) (v := ?_) (a' := ?_) #[true, true, true, true, true, true, true, true, true, true, true] rfl rfl (any_of HT_.out (by kernel_rfl)) (fun _ _ _ h => h) (Or.inl ⟨by rfl, ?_⟩) ?_ ?_
      rotate_left
      ·intro w'
       go_simp
       with_reducible rfl
      rotate_left
      ·simp only [Act.put, List.setIfInBounds_toArray, List.set_cons_zero, List.set_cons_succ, i64_w, i32_w]
       rfl
      refine done_ (done_of HT_.out (by kernel_rfl)) ?_
      try go_wp2_with (first|((with_reducible refine gate_callee (f := 113) rfl ?_);refine goesL_ (some 36) rfl rfl Try.func113 (by kernel_rfl) rfl #[.int .i64 1] rfl (by (try simp only [List.map_toArray, List.map_cons, List.map_nil]);first|done|rfl|(simp only [List.length_drop, List.length_take];rfl)) ?_;(with_reducible refine (r10_no.calls 1 t14 t17 _ A58.out).mono ?_);rintro e w68 ⟨v15, rfl, ho0, hb⟩;refine ⟨_, rfl, ?_⟩;have n0_ := Aside0.mk (Kd.R_below (by (with_reducible repeat (first|apply Kd.R_alloc|apply Kd.R_drewN|apply Kd.R_drew));exact HO5.out) hb);have n1_ := Aside0.mk (Kd.R_lower ho0 (below_size (by repeat (first|(with_reducible first|exact HB.out|apply below_alloc|apply pw_below_drewN|apply below_drew1|refine below_set ?_ GE1.out|refine below_set ?_ GE2.out)|exact HB.out))));have n2_ := Aside0.mk (blk_below (g := gb1) (o := .cells #[.int .i64 a2_0, .int .i64 a2_1, .int .i64 a2_2] 27 (0, 0)) (by (with_reducible repeat (first|refine blk_drewN ?_ _|refine blk_drew ?_|refine blk_alloc ?_ _));exact BK1.out) hb);have n3_ := Aside0.mk (blk_below (g := gb2) (o := .cells #[.slice none 0 0, .int .i64 0] 67 (0, 0)) (by (with_reducible repeat (first|refine blk_drewN ?_ _|refine blk_drew ?_|refine blk_alloc ?_ _));exact BK2.out) hb);have n4_ := Aside0.mk (below_step (by repeat (first|(with_reducible first|exact HB.out|apply below_alloc|apply pw_below_drewN|apply below_drew1|refine below_set ?_ GE1.out|refine below_set ?_ GE2.out)|exact HB.out)) hb);clear HO5;clear BK1;clear BK2;clear HB;have HO5 := n0_;have HO16 := n1_;have BK1 := n2_;have BK2 := n3_;have HB := n4_;clear n0_ n1_ n2_ n3_ n4_;(try clear hb);(try clear hb2);(try clear hk);(try clear hi);(try clear ho0);obtain ⟨Ao69, co69, eo69⟩ := Kd.R_slice HO16.out;subst eo69;have hcz70_0 : w68.cell? ⟨gb2, 0, none⟩ = some (.slice none 0 0) := (blk_cell BK2.out 0).trans rfl;have hcz70_1 : w68.cell? ⟨gb2, 1, none⟩ = some (.int .i64 0) := (blk_cell BK2.out 1).trans rfl;have hfz70_0 := blk_frozen BK2.out 0;have hfz70_1 := blk_frozen BK2.out 1))
      refine bodyPost_ret (results_cell_row rfl _ _ gb2 67 #[.slice Ao69 t14.length co69, .int .i64 t17] (0, 0) _ rfl (by (with_reducible repeat (first|refine blk_drewN ?_ _|refine blk_drew ?_|refine blk_alloc ?_ _));refine blk_put (cs := #[.slice Ao69 t14.length co69, .int .i64 0]) ?_ 1 _ rfl;(with_reducible repeat (first|refine blk_drewN ?_ _|refine blk_drew ?_|refine blk_alloc ?_ _));refine blk_put (cs := #[.slice none 0 0, .int .i64 0]) ?_ 0 _ rfl;(with_reducible repeat (first|refine blk_drewN ?_ _|refine blk_drew ?_|refine blk_alloc ?_ _));exact BK2.out) Try.underlying67 rfl (by kernel_rfl)) rfl ?_
      exact ⟨_, by first|rfl|(simp [errW_none, errW_some] <;> rfl)|(simp [*, errW_none, errW_some] <;> rfl), by (with_reducible repeat (first|apply Kd.R_alloc|apply Kd.R_drewN|apply Kd.R_drew));exact Kd.R_mono (Kd.R_far (p := ⟨gb2, 1, none⟩) (Kd.R_far (p := ⟨gb2, 0, none⟩) (Kd.R_types HO16.out BK2.out (by decide)) (fun _ hk => hk.2) (.slice Ao69 t14.length co69)) (fun _ hk => hk.2) (.int .i64 t17)) (fun _ hk => trivial), by repeat (first|(with_reducible first|exact HB.out|apply below_alloc|apply pw_below_drewN|apply below_drew1|refine below_set ?_ GE1.out|refine below_set ?_ GE2.out)|exact HB.out)⟩
    ·rw [if_neg c21] at H
     exact absurd H (by simp)
   ·rw [if_neg c20] at H
    exact absurd H (by simp)
 ·replace c6 := Bool.eq_false_iff.mpr c6
  subst c6
  have H1 : ((r10_no.f 1).bind fun bt18 => (some (bt18.1, bt18.2))) = some (r1, r2) := by rw [if_neg (show ¬ (false = true) by decide)] at H; exact H
  clear H
  have H := H1
  clear H1
  replace H := Option.bind_eq_some_iff.mp H
  obtain ⟨⟨t18, t21⟩, A710, H⟩ := H
  replace H : (some (t18, t21)) = some (r1, r2) := H
  have A71 := Aside0.mk A710
  clear A710
  simp only [Option.some.injEq, Prod.mk.injEq] at H
  obtain ⟨rfl, rfl⟩ := H
  go_enter Try.func77, Try.ntmps77
  go_wp2_with (first|((with_reducible refine gate_dst (N := 5) rfl ?_);refine box_event ?hg (N := 5) ?hd (cs := #[.int .i64 a2_0, .int .i64 a2_1, .int .i64 a2_2]) (t := 27) ?hr ?_;(case hd => rfl);(case hg => rfl);(case hr => first|(go_simp;done)|(go_simp;rfl));intro gb1 hg w72 hbox hb;have n0_ := Aside0.mk (below_step (by repeat (first|(with_reducible first|exact HB.out|apply below_alloc|apply pw_below_drewN|apply below_drew1)|exact HB.out)) hb);have n1_ := Aside0.mk (hbox);have n2_ := Aside0.mk ((by rw [hg];exact (below_size (by repeat (first|(with_reducible first|exact HB.out|apply below_alloc|apply pw_below_drewN|apply below_drew1)|exact HB.out))) : w.heap.size ≤ gb1));have n3_ := Aside0.mk ((by rw [hg];exact (below_size (by repeat (first|(with_reducible first|exact HB.out|apply below_alloc|apply pw_below_drewN|apply below_drew1)|exact HB.out))) : w.heap.size ≤ gb1));clear HB;have HB := n0_;have BK1 := n1_;have GW1 := n2_;have GE1 := n3_;clear n0_ n1_ n2_ n3_;clear hb hbox hg)|((with_reducible refine gate_dst (N := 6) rfl ?_);refine box_event ?hg (N := 6) ?hd (cs := #[.slice none 0 0, .int .i64 0]) (t := 67) ?hr ?_;(case hd => rfl);(case hg => rfl);(case hr => first|(go_simp;done)|(go_simp;rfl));intro gb2 hg w73 hbox hb;have n0_ := Aside0.mk (blk_below (g := gb1) (o := .cells #[.int .i64 a2_0, .int .i64 a2_1, .int .i64 a2_2] 27 (0, 0)) (by (with_reducible repeat (first|refine blk_drewN ?_ _|refine blk_drew ?_|refine blk_alloc ?_ _));exact BK1.out) hb);have n1_ := Aside0.mk (below_step (by repeat (first|(with_reducible first|exact HB.out|apply below_alloc|apply pw_below_drewN|apply below_drew1|refine below_set ?_ GE1.out)|exact HB.out)) hb);have n2_ := Aside0.mk (hbox);have n3_ := Aside0.mk ((by rw [hg];exact (below_size (by repeat (first|(with_reducible first|exact HB.out|apply below_alloc|apply pw_below_drewN|apply below_drew1|refine below_set ?_ GE1.out)|exact HB.out))) : w.heap.size ≤ gb2));have n4_ := Aside0.mk ((by rw [hg];exact (below_size (by repeat (first|(with_reducible first|exact HB.out|apply below_alloc|apply pw_below_drewN|apply below_drew1|refine below_set ?_ GE1.out)|exact HB.out))) : w.heap.size ≤ gb2));have n5_ := Aside0.mk ((by rw [hg];exact Nat.ne_of_lt (blk_lt (g := gb1) (o := .cells #[.int .i64 a2_0, .int .i64 a2_1, .int .i64 a2_2] 27 (0, 0)) (by (with_reducible repeat (first|refine blk_drewN ?_ _|refine blk_drew ?_|refine blk_alloc ?_ _));exact BK1.out)) : gb1 ≠ gb2));have n6_ := Aside0.mk ((by rw [hg];exact Nat.ne_of_gt (blk_lt (g := gb1) (o := .cells #[.int .i64 a2_0, .int .i64 a2_1, .int .i64 a2_2] 27 (0, 0)) (by (with_reducible repeat (first|refine blk_drewN ?_ _|refine blk_drew ?_|refine blk_alloc ?_ _));exact BK1.out)) : gb2 ≠ gb1));clear BK1;clear HB;have BK1 := n0_;have HB := n1_;have BK2 := n2_;have GW2 := n3_;have GE2 := n4_;have NB1_2 := n5_;have NB2_1 := n6_;clear n0_ n1_ n2_ n3_ n4_ n5_ n6_;clear hb hbox hg)|((with_reducible refine gate_callee (f := 106) rfl ?_);refine goesL_ (some 14) rfl rfl Try.func106 (by kernel_rfl) rfl #[.slice A0 l0.length c0, .string a1] rfl (by (try simp only [List.map_toArray, List.map_cons, List.map_nil]);first|done|rfl|(simp only [List.length_drop, List.length_take];rfl)) ?_;(with_reducible refine (r10_Up.calls k _ _ l0 a1 t3 _ ?side1 ?side2 A4.out).mono ?_);(case side1 => repeat (first|exact (Kd.C_below HR0.out HB.out)|(with_reducible refine Kd.C_alloc ?_ _)|(with_reducible refine Kd.C_drewN ?_ _)|(with_reducible refine Kd.C_drew ?_)));(case side2 => exact HC0.out);rintro e w74 ⟨v4, rfl, ho0, hb⟩;refine ⟨_, rfl, ?_⟩;have n0_ := Aside0.mk (Kd.R_lower ho0 (below_size (by repeat (first|(with_reducible first|exact HB.out|apply below_alloc|apply pw_below_drewN|apply below_drew1|refine below_set ?_ GE1.out|refine below_set ?_ GE2.out)|exact HB.out))));have n1_ := Aside0.mk (blk_below (g := gb1) (o := .cells #[.int .i64 a2_0, .int .i64 a2_1, .int .i64 a2_2] 27 (0, 0)) (by (with_reducible repeat (first|refine blk_drewN ?_ _|refine blk_drew ?_|refine blk_alloc ?_ _));exact BK1.out) hb);have n2_ := Aside0.mk (blk_below (g := gb2) (o := .cells #[.slice none 0 0, .int .i64 0] 67 (0, 0)) (by (with_reducible repeat (first|refine blk_drewN ?_ _|refine blk_drew ?_|refine blk_alloc ?_ _));exact BK2.out) hb);have n3_ := Aside0.mk (below_step (by repeat (first|(with_reducible first|exact HB.out|apply below_alloc|apply pw_below_drewN|apply below_drew1|refine below_set ?_ GE1.out|refine below_set ?_ GE2.out)|exact HB.out)) hb);clear BK1;clear BK2;clear HB;have HO5 := n0_;have BK1 := n1_;have BK2 := n2_;have HB := n3_;clear n0_ n1_ n2_ n3_;(try clear hb);(try clear hb2);(try clear hk);(try clear hi);(try clear ho0);have hnb75 := NB1_2.out;have hnc75 := NB2_1.out;have hcz76_0 : w74.cell? ⟨gb1, 0, none⟩ = some (.int .i64 a2_0) := (blk_cell BK1.out 0).trans rfl;have hcz76_1 : w74.cell? ⟨gb1, 1, none⟩ = some (.int .i64 a2_1) := (blk_cell BK1.out 1).trans rfl;have hcz76_2 : w74.cell? ⟨gb1, 2, none⟩ = some (.int .i64 a2_2) := (blk_cell BK1.out 2).trans rfl;have hfz76_0 := blk_frozen BK1.out 0;have hfz76_1 := blk_frozen BK1.out 1;have hfz76_2 := blk_frozen BK1.out 2)|((with_reducible refine gate_callee (f := 65) rfl ?_);refine goesL_ (some 17) rfl rfl Try.func65 (by kernel_rfl) rfl #[.agg #[.int .i64 a2_0, .int .i64 a2_1, .int .i64 a2_2]] rfl (by (try simp only [List.map_toArray, List.map_cons, List.map_nil]);first|done|rfl|(simp only [List.length_drop, List.length_take];rfl)) ?_;(with_reducible refine (r10_MayVec.calls a2_0 a2_1 a2_2 false _ A5.out).mono ?_);rintro e w77 ⟨rfl, hb⟩;refine ⟨_, rfl, ?_⟩;have n0_ := Aside0.mk (Kd.R_below (by (with_reducible repeat (first|apply Kd.R_alloc|apply Kd.R_drewN|apply Kd.R_drew));exact HO5.out) hb);have n1_ := Aside0.mk (blk_below (g := gb1) (o := .cells #[.int .i64 a2_0, .int .i64 a2_1, .int .i64 a2_2] 27 (0, 0)) (by (with_reducible repeat (first|refine blk_drewN ?_ _|refine blk_drew ?_|refine blk_alloc ?_ _));exact BK1.out) hb);have n2_ := Aside0.mk (blk_below (g := gb2) (o := .cells #[.slice none 0 0, .int .i64 0] 67 (0, 0)) (by (with_reducible repeat (first|refine blk_drewN ?_ _|refine blk_drew ?_|refine blk_alloc ?_ _));exact BK2.out) hb);have n3_ := Aside0.mk (below_step (by repeat (first|(with_reducible first|exact HB.out|apply below_alloc|apply pw_below_drewN|apply below_drew1|refine below_set ?_ GE1.out|refine below_set ?_ GE2.out)|exact HB.out)) hb);clear HO5;clear BK1;clear BK2;clear HB;have HO5 := n0_;have BK1 := n1_;have BK2 := n2_;have HB := n3_;clear n0_ n1_ n2_ n3_;(try clear hb);(try clear hb2);(try clear hk);(try clear hi))|((with_reducible refine gate_callee (f := 113) rfl ?_);refine goesL_ (some 19) rfl rfl Try.func113 (by kernel_rfl) rfl #[.int .i64 1] rfl (by (try simp only [List.map_toArray, List.map_cons, List.map_nil]);first|done|rfl|(simp only [List.length_drop, List.length_take];rfl)) ?_;(with_reducible refine (r10_no.calls 1 t18 t21 _ A71.out).mono ?_);rintro e w78 ⟨v19, rfl, ho0, hb⟩;refine ⟨_, rfl, ?_⟩;have n0_ := Aside0.mk (Kd.R_below (by (with_reducible repeat (first|apply Kd.R_alloc|apply Kd.R_drewN|apply Kd.R_drew));exact HO5.out) hb);have n1_ := Aside0.mk (Kd.R_lower ho0 (below_size (by repeat (first|(with_reducible first|exact HB.out|apply below_alloc|apply pw_below_drewN|apply below_drew1|refine below_set ?_ GE1.out|refine below_set ?_ GE2.out)|exact HB.out))));have n2_ := Aside0.mk (blk_below (g := gb1) (o := .cells #[.int .i64 a2_0, .int .i64 a2_1, .int .i64 a2_2] 27 (0, 0)) (by (with_reducible repeat (first|refine blk_drewN ?_ _|refine blk_drew ?_|refine blk_alloc ?_ _));exact BK1.out) hb);have n3_ := Aside0.mk (blk_below (g := gb2) (o := .cells #[.slice none 0 0, .int .i64 0] 67 (0, 0)) (by (with_reducible repeat (first|refine blk_drewN ?_ _|refine blk_drew ?_|refine blk_alloc ?_ _));exact BK2.out) hb);have n4_ := Aside0.mk (below_step (by repeat (first|(with_reducible first|exact HB.out|apply below_alloc|apply pw_below_drewN|apply below_drew1|refine below_set ?_ GE1.out|refine below_set ?_ GE2.out)|exact HB.out)) hb);clear HO5;clear BK1;clear BK2;clear HB;have HO5 := n0_;have HO20 := n1_;have BK1 := n2_;have BK2 := n3_;have HB := n4_;clear n0_ n1_ n2_ n3_ n4_;(try clear hb);(try clear hb2);(try clear hk);(try clear hi);(try clear ho0);obtain ⟨Ao79, co79, eo79⟩ := Kd.R_slice HO20.out;subst eo79;have hcz80_0 : w78.cell? ⟨gb2, 0, none⟩ = some (.slice none 0 0) := (blk_cell BK2.out 0).trans rfl;have hcz80_1 : w78.cell? ⟨gb2, 1, none⟩ = some (.int .i64 0) := (blk_cell BK2.out 1).trans rfl;have hfz80_0 := blk_frozen BK2.out 0;have hfz80_1 := blk_frozen BK2.out 1))
  refine bodyPost_ret (results_cell_row rfl _ _ gb2 67 #[.slice Ao79 t18.length co79, .int .i64 t21] (0, 0) _ rfl (by (with_reducible repeat (first|refine blk_drewN ?_ _|refine blk_drew ?_|refine blk_alloc ?_ _));refine blk_put (cs := #[.slice Ao79 t18.length co79, .int .i64 0]) ?_ 1 _ rfl;(with_reducible repeat (first|refine blk_drewN ?_ _|refine blk_drew ?_|refine blk_alloc ?_ _));refine blk_put (cs := #[.slice none 0 0, .int .i64 0]) ?_ 0 _ rfl;(with_reducible repeat (first|refine blk_drewN ?_ _|refine blk_drew ?_|refine blk_alloc ?_ _));exact BK2.out) Try.underlying67 rfl (by kernel_rfl)) rfl ?_
  exact ⟨_, by first|rfl|(simp [errW_none, errW_some] <;> rfl)|(simp [*, errW_none, errW_some] <;> rfl), by (with_reducible repeat (first|apply Kd.R_alloc|apply Kd.R_drewN|apply Kd.R_drew));exact Kd.R_mono (Kd.R_far (p := ⟨gb2, 1, none⟩) (Kd.R_far (p := ⟨gb2, 0, none⟩) (Kd.R_types HO20.out BK2.out (by decide)) (fun _ hk => hk.2) (.slice Ao79 t18.length co79)) (fun _ hk => hk.2) (.int .i64 t21)) (fun _ hk => trivial), by repeat (first|(with_reducible first|exact HB.out|apply below_alloc|apply pw_below_drewN|apply below_drew1|refine below_set ?_ GE1.out|refine below_set ?_ GE2.out)|exact HB.out)⟩
end Go.Proofs.Ytcgefpklljclgaa.Print

namespace Go.Proofs.Ytcgefpklljclgaa.Print
open Go.RowKit Go.Proofs.YtcgefpklljclgaaW.PrintWords Go.Proofs.YtcgefpklljclgaaW.PrintLast Go.Proofs.YtcgefpklljclgaaW.PrintMore
attribute [local go_sem] max2_int min2_int max_two min_two max_three min_three max_four min_four   -- for this text's walks alone
set_option linter.unusedVariables false
set_option linter.unusedSimpArgs false
mutual
def r10_Create.j0 : Nat → List (S31) → ByteArray → ByteArray → Bool → Int → Int → Int → Option ((List (S31)) × Int)
 | 0, _, _, _, _, _, _, _ => none
 | k + 1, x0, x1, x2, x11, x2000, x2001, x2002 => if x11 = true then ((r10_no.f 1).bind fun bt5 => (some (bt5.1, bt5.2))) else ((r10_Find.f k x0 x1).bind fun t9 => (if t9 ≥ 0 then ((r10_no.f 3).bind fun bt10 => (some (bt10.1, bt10.2))) else (if x2.toList = ([] : List UInt8) then (r10_Create.j1 k x0 x1 x2 false x2000 x2001 x2002) else ((r10_Find.f k x0 x2).bind fun t14 => (r10_Create.j1 k x0 x1 x2 (decide (t14 < 0)) x2000 x2001 x2002)))))
def r10_Create.j1 : Nat → List (S31) → ByteArray → ByteArray → Bool → Int → Int → Int → Option ((List (S31)) × Int)
 | 0, _, _, _, _, _, _, _ => none
 | k + 1, x0, x1, x2, x27, x2000, x2001, x2002 => if x27 = true then ((r10_no.f 2).bind fun bt15 => (some (bt15.1, bt15.2))) else (if (x0.length : Int) ≥ 120 then ((r10_no.f 4).bind fun bt19 => (some (bt19.1, bt19.2))) else (r10_Create.l0 k x0 x1 x2 0 x2000 x2001 x2002))
def r10_Create.l0 : Nat → List (S31) → ByteArray → ByteArray → Int → Int → Int → Int → Option ((List (S31)) × Int)
 | 0, _, _, _, _, _, _, _ => none
 | k + 1, x0, x1, x2, x9, x2000, x2001, x2002 => if x9 < (x0.length : Int) then (if 0 ≤ x9 then (if (Op.bytesLess (((rd_T31 x0 x9).f0).toList) x1.toList) = true then (r10_Create.l0 k x0 x1 x2 (wrap64 (x9 + 1)) x2000 x2001 x2002) else (if x9 ≤ (x0.length : Int) then ((r10_copied.f (x0.take (x9 : Int).toNat)).bind fun t28 => (if t28.length < 1256584717458 then ((some (t28 ++ [(⟨x1, x2, (⟨x2000, x2001, x2002⟩ : S27), (⟨0, 0, 0⟩ : S27), (⟨0, 0, 0⟩ : S27), 1⟩ : S31)] : List (S31))).bind fun y31 => ((some (x0.drop (x9 : Int).toNat : List (S31))).bind fun y34 => (if y31.length + y34.length < 1256584717458 then (some ((y31 ++ y34), 0)) else (none)))) else (none))) else (none))) else (none)) else (if 0 ≤ x9 then (if x9 ≤ (x0.length : Int) then ((r10_copied.f (x0.take (x9 : Int).toNat)).bind fun t45 => (if t45.length < 1256584717458 then ((some (t45 ++ [(⟨x1, x2, (⟨x2000, x2001, x2002⟩ : S27), (⟨0, 0, 0⟩ : S27), (⟨0, 0, 0⟩ : S27), 1⟩ : S31)] : List (S31))).bind fun y48 => ((some (x0.drop (x9 : Int).toNat : List (S31))).bind fun y51 => (if y48.length + y51.length < 1256584717458 then (some ((y48 ++ y51), 0)) else (none)))) else (none))) else (none)) else (none))
end
def r10_Create.f (k : Nat) (l0 : List (S31)) (a1 : ByteArray) (a2 : ByteArray) (a3_0 : Int) (a3_1 : Int) (a3_2 : Int) : Option ((List (S31)) × Int) := (r10_MayName.f a1).bind fun t3 => (if t3 = true then ((r10_MayVec.f a3_0 a3_1 a3_2).bind fun t4 => (r10_Create.j0 k l0 a1 a2 (!t4) a3_0 a3_1 a3_2)) else (r10_Create.j0 k l0 a1 a2 true a3_0 a3_1 a3_2))
theorem r10_Create.mono_l : ∀ k, (∀ y0 y1 y2 y3 y4 y5 y6, LeO (r10_Create.j0 k y0 y1 y2 y3 y4 y5 y6) (r10_Create.j0 (k + 1) y0 y1 y2 y3 y4 y5 y6)) ∧ (∀ y0 y1 y2 y3 y4 y5 y6, LeO (r10_Create.j1 k y0 y1 y2 y3 y4 y5 y6) (r10_Create.j1 (k + 1) y0 y1 y2 y3 y4 y5 y6)) ∧ (∀ y0 y1 y2 y3 y4 y5 y6, LeO (r10_Create.l0 k y0 y1 y2 y3 y4 y5 y6) (r10_Create.l0 (k + 1) y0 y1 y2 y3 y4 y5 y6))
 | 0 => ⟨fun _ _ _ _ _ _ _ r h => by simp [r10_Create.j0] at h, fun _ _ _ _ _ _ _ r h => by simp [r10_Create.j1] at h, fun _ _ _ _ _ _ _ r h => by simp [r10_Create.l0] at h⟩
 | k + 1 => by
  obtain ⟨ih0, ih1, ih2⟩ := r10_Create.mono_l k
  refine ⟨?_, ?_, ?_⟩
  ·intro y0 y1 y2 y3 y4 y5 y6
   unfold r10_Create.j0
   repeat' first
   | (with_reducible exact ih0 _ _ _ _ _ _ _)
   | (with_reducible exact ih1 _ _ _ _ _ _ _)
   | (with_reducible exact ih2 _ _ _ _ _ _ _)
   | (with_reducible exact r10_Find.mono _ _ _)
   | (with_reducible exact LeO.refl _)
   | (with_reducible exact LeO.none _)
   | (with_reducible refine LeO.ite ?_ ?_)
   | (with_reducible refine LeO.bind ?_ (fun _ => ?_))
   | exact ih0 _ _ _ _ _ _ _
   | exact ih1 _ _ _ _ _ _ _
   | exact ih2 _ _ _ _ _ _ _
   | exact r10_Find.mono _ _ _
   | exact LeO.none _
   | refine LeO.ite ?_ ?_
   | refine LeO.bind ?_ (fun _ => ?_)
  ·intro y0 y1 y2 y3 y4 y5 y6
   unfold r10_Create.j1
   repeat' first
   | (with_reducible exact ih0 _ _ _ _ _ _ _)
   | (with_reducible exact ih1 _ _ _ _ _ _ _)
   | (with_reducible exact ih2 _ _ _ _ _ _ _)
   | (with_reducible exact r10_Find.mono _ _ _)
   | (with_reducible exact LeO.refl _)
   | (with_reducible exact LeO.none _)
   | (with_reducible refine LeO.ite ?_ ?_)
   | (with_reducible refine LeO.bind ?_ (fun _ => ?_))
   | exact ih0 _ _ _ _ _ _ _
   | exact ih1 _ _ _ _ _ _ _
   | exact ih2 _ _ _ _ _ _ _
   | exact r10_Find.mono _ _ _
   | exact LeO.none _
   | refine LeO.ite ?_ ?_
   | refine LeO.bind ?_ (fun _ => ?_)
  ·intro y0 y1 y2 y3 y4 y5 y6
   unfold r10_Create.l0
   repeat' first
   | (with_reducible exact ih0 _ _ _ _ _ _ _)
   | (with_reducible exact ih1 _ _ _ _ _ _ _)
   | (with_reducible exact ih2 _ _ _ _ _ _ _)
   | (with_reducible exact r10_Find.mono _ _ _)
   | (with_reducible exact LeO.refl _)
   | (with_reducible exact LeO.none _)
   | (with_reducible refine LeO.ite ?_ ?_)
   | (with_reducible refine LeO.bind ?_ (fun _ => ?_))
   | exact ih0 _ _ _ _ _ _ _
   | exact ih1 _ _ _ _ _ _ _
   | exact ih2 _ _ _ _ _ _ _
   | exact r10_Find.mono _ _ _
   | exact LeO.none _
   | refine LeO.ite ?_ ?_
   | refine LeO.bind ?_ (fun _ => ?_)
theorem r10_Create.mono : ∀ a0 a1 a2 a3 a4 a5 k, LeO (r10_Create.f k a0 a1 a2 a3 a4 a5) (r10_Create.f (k + 1) a0 a1 a2 a3 a4 a5) := by
 intro a0 a1 a2 a3 a4 a5 k
 obtain ⟨ih0, ih1, ih2⟩ := r10_Create.mono_l k
 unfold r10_Create.f
 repeat' first
   | (with_reducible exact ih0 _ _ _ _ _ _ _)
   | (with_reducible exact ih1 _ _ _ _ _ _ _)
   | (with_reducible exact ih2 _ _ _ _ _ _ _)
   | (with_reducible exact r10_Find.mono _ _ _)
   | (with_reducible exact LeO.refl _)
   | (with_reducible exact LeO.none _)
   | (with_reducible refine LeO.ite ?_ ?_)
   | (with_reducible refine LeO.bind ?_ (fun _ => ?_))
   | exact ih0 _ _ _ _ _ _ _
   | exact ih1 _ _ _ _ _ _ _
   | exact ih2 _ _ _ _ _ _ _
   | exact r10_Find.mono _ _ _
   | exact LeO.none _
   | refine LeO.ite ?_ ?_
   | refine LeO.bind ?_ (fun _ => ?_)
set_option maxHeartbeats 8000000 in
set_option maxRecDepth 100000 in
theorem r10_Create.calls (k : Nat) (A0 : Option Addr) (c0 : Nat) (l0 : List (S31)) (a1 : ByteArray) (a2 : ByteArray) (a3_0 : Int) (a3_1 : Int) (a3_2 : Int) (r1 : List (S31)) (r2 : Int) (w : World) (hr0 : Kd.C k31 w A0 l0.length l0) (hc0 : l0.length ≤ c0) (h : r10_Create.f k l0 a1 a2 a3_0 a3_1 a3_2 = some (r1, r2)) :
  Calls Try.prog 83 #[.slice A0 l0.length c0, .string a1, .string a2, .agg #[.int .i64 a3_0, .int .i64 a3_1, .int .i64 a3_2]] w fun e w' => ∃ v0_ : Value, e = .returned (.agg #[v0_, .int .i64 r2]) ∧ Kd.R k31 31 w' w.heap.size (fun _ => True) v0_ r1 ∧ Below w.heap.size w w' := by
 have hu27 := Try.underlying27
 have hu67 := Try.underlying67
 have hu31 := Try.underlying31
 have HR0 := Aside0.mk hr0
 have HC0 := Aside0.mk hc0
 clear hr0 hc0
 have HB := Aside0.mk (Below.refl w.heap.size w)
 have H : ((r10_MayName.f a1).bind fun t3 => (if t3 = true then ((r10_MayVec.f a3_0 a3_1 a3_2).bind fun t4 => (r10_Create.j0 k l0 a1 a2 (!t4) a3_0 a3_1 a3_2)) else (r10_Create.j0 k l0 a1 a2 true a3_0 a3_1 a3_2))) = some (r1, r2) := h
 clear h
 have HC5 := Aside0.mk H
 clear H
 go_enter Try.func83, Try.ntmps83
 go_upto_region 1 with (first|((with_reducible refine gate_dst (N := 7) rfl ?_);refine box_event ?hg (N := 7) ?hd (cs := #[.int .i64 a3_0, .int .i64 a3_1, .int .i64 a3_2]) (t := 27) ?hr ?_;(case hd => rfl);(case hg => rfl);(case hr => first|(go_simp;done)|(go_simp;rfl));intro gb1 hg w6 hbox hb;have n0_ := Aside0.mk (below_step (by repeat (first|(with_reducible first|exact HB.out|apply below_alloc|apply pw_below_drewN|apply below_drew1)|exact HB.out)) hb);have n1_ := Aside0.mk (hbox);have n2_ := Aside0.mk ((by rw [hg];exact (below_size (by repeat (first|(with_reducible first|exact HB.out|apply below_alloc|apply pw_below_drewN|apply below_drew1)|exact HB.out))) : w.heap.size ≤ gb1));have n3_ := Aside0.mk ((by rw [hg];exact (below_size (by repeat (first|(with_reducible first|exact HB.out|apply below_alloc|apply pw_below_drewN|apply below_drew1)|exact HB.out))) : w.heap.size ≤ gb1));clear HB;have HB := n0_;have BK1 := n1_;have GW1 := n2_;have GE1 := n3_;clear n0_ n1_ n2_ n3_;clear hb hbox hg)|((with_reducible refine gate_dst (N := 8) rfl ?_);refine box_event ?hg (N := 8) ?hd (cs := #[.slice none 0 0, .int .i64 0]) (t := 67) ?hr ?_;(case hd => rfl);(case hg => rfl);(case hr => first|(go_simp;done)|(go_simp;rfl));intro gb2 hg w7 hbox hb;have n0_ := Aside0.mk (blk_below (g := gb1) (o := .cells #[.int .i64 a3_0, .int .i64 a3_1, .int .i64 a3_2] 27 (0, 0)) (by (with_reducible repeat (first|refine blk_drewN ?_ _|refine blk_drew ?_|refine blk_alloc ?_ _));exact BK1.out) hb);have n1_ := Aside0.mk (below_step (by repeat (first|(with_reducible first|exact HB.out|apply below_alloc|apply pw_below_drewN|apply below_drew1|refine below_set ?_ GE1.out)|exact HB.out)) hb);have n2_ := Aside0.mk (hbox);have n3_ := Aside0.mk ((by rw [hg];exact (below_size (by repeat (first|(with_reducible first|exact HB.out|apply below_alloc|apply pw_below_drewN|apply below_drew1|refine below_set ?_ GE1.out)|exact HB.out))) : w.heap.size ≤ gb2));have n4_ := Aside0.mk ((by rw [hg];exact (below_size (by repeat (first|(with_reducible first|exact HB.out|apply below_alloc|apply pw_below_drewN|apply below_drew1|refine below_set ?_ GE1.out)|exact HB.out))) : w.heap.size ≤ gb2));have n5_ := Aside0.mk ((by rw [hg];exact Nat.ne_of_lt (blk_lt (g := gb1) (o := .cells #[.int .i64 a3_0, .int .i64 a3_1, .int .i64 a3_2] 27 (0, 0)) (by (with_reducible repeat (first|refine blk_drewN ?_ _|refine blk_drew ?_|refine blk_alloc ?_ _));exact BK1.out)) : gb1 ≠ gb2));have n6_ := Aside0.mk ((by rw [hg];exact Nat.ne_of_gt (blk_lt (g := gb1) (o := .cells #[.int .i64 a3_0, .int .i64 a3_1, .int .i64 a3_2] 27 (0, 0)) (by (with_reducible repeat (first|refine blk_drewN ?_ _|refine blk_drew ?_|refine blk_alloc ?_ _));exact BK1.out)) : gb2 ≠ gb1));clear BK1;clear HB;have BK1 := n0_;have HB := n1_;have BK2 := n2_;have GW2 := n3_;have GE2 := n4_;have NB1_2 := n5_;have NB2_1 := n6_;clear n0_ n1_ n2_ n3_ n4_ n5_ n6_;clear hb hbox hg))
 (try simp only [Act.put, List.setIfInBounds_toArray, List.set_cons_zero, List.set_cons_succ])
 go_cut [11] (fun v11 wc => ∃ (kq : Nat) (x11_4 : Bool), v11 = .bool x11_4 ∧ Aside0 (r10_Create.j0 kq l0 a1 a2 x11_4 a3_0 a3_1 a3_2 = some (r1, r2)) ∧ Aside0 (kq ≤ k) ∧ Aside0 (wc.heap[gb1]? = some (.cells #[.int .i64 a3_0, .int .i64 a3_1, .int .i64 a3_2] 27 (0, 0))) ∧ Aside0 (wc.heap[gb2]? = some (.cells #[(.slice none 0 0), .int .i64 0] 67 (0, 0))) ∧ Aside0 (Below w.heap.size w wc))
 case first =>
  have H := HC5.out
  clear HC5
  replace H := Option.bind_eq_some_iff.mp H
  obtain ⟨t3, A80, H⟩ := H
  replace H : (if t3 = true then ((r10_MayVec.f a3_0 a3_1 a3_2).bind fun t4 => (r10_Create.j0 k l0 a1 a2 (!t4) a3_0 a3_1 a3_2)) else (r10_Create.j0 k l0 a1 a2 true a3_0 a3_1 a3_2)) = some (r1, r2) := H
  have A8 := Aside0.mk A80
  clear A80
  by_cases c9 : t3 = true
  ·subst c9
   have H1 : ((r10_MayVec.f a3_0 a3_1 a3_2).bind fun t4 => (r10_Create.j0 k l0 a1 a2 (!t4) a3_0 a3_1 a3_2)) = some (r1, r2) := by rw [if_pos rfl] at H; exact H
   clear H
   have H := H1
   clear H1
   replace H := Option.bind_eq_some_iff.mp H
   obtain ⟨t4, A100, H⟩ := H
   replace H : (r10_Create.j0 k l0 a1 a2 (!t4) a3_0 a3_1 a3_2) = some (r1, r2) := H
   have A10 := Aside0.mk A100
   clear A100
   have H' := Aside0.mk H
   clear H
   go_wp2_with (first|((with_reducible refine gate_callee (f := 105) rfl ?_);refine goesL_ (some 13) rfl rfl Try.func105 (by kernel_rfl) rfl #[.string a1] rfl (by (try simp only [List.map_toArray, List.map_cons, List.map_nil]);first|done|rfl|(simp only [List.length_drop, List.length_take];rfl)) ?_;(with_reducible refine (r10_MayName.calls a1 true _ A8.out).mono ?_);rintro e w' ⟨rfl, ⟨nd, rfl⟩⟩;refine ⟨_, rfl, ?_⟩;have hnb11 := NB1_2.out;have hnc11 := NB2_1.out;have hcz12_0 : w7.cell? ⟨gb1, 0, none⟩ = some (.int .i64 a3_0) := (blk_cell BK1.out 0).trans rfl;have hcz12_1 : w7.cell? ⟨gb1, 1, none⟩ = some (.int .i64 a3_1) := (blk_cell BK1.out 1).trans rfl;have hcz12_2 : w7.cell? ⟨gb1, 2, none⟩ = some (.int .i64 a3_2) := (blk_cell BK1.out 2).trans rfl;have hfz12_0 := blk_frozen BK1.out 0;have hfz12_1 := blk_frozen BK1.out 1;have hfz12_2 := blk_frozen BK1.out 2)|(go_at_call 65;(with_reducible refine (r10_MayVec.calls a3_0 a3_1 a3_2 t4 _ A10.out).mono ?_);rintro e w13 ⟨rfl, hb⟩;have n0_ := Aside0.mk (blk_below (g := gb1) (o := .cells #[.int .i64 a3_0, .int .i64 a3_1, .int .i64 a3_2] 27 (0, 0)) (by (with_reducible repeat (first|refine blk_drewN ?_ _|refine blk_drew ?_|refine blk_alloc ?_ _));exact BK1.out) hb);have n1_ := Aside0.mk (blk_below (g := gb2) (o := .cells #[.slice none 0 0, .int .i64 0] 67 (0, 0)) (by (with_reducible repeat (first|refine blk_drewN ?_ _|refine blk_drew ?_|refine blk_alloc ?_ _));exact BK2.out) hb);have n2_ := Aside0.mk (below_step (by repeat (first|(with_reducible first|exact HB.out|apply below_alloc|apply pw_below_drewN|apply below_drew1|refine below_set ?_ GE1.out|refine below_set ?_ GE2.out)|exact HB.out)) hb);clear BK1;clear BK2;clear HB;have BK1 := n0_;have BK2 := n1_;have HB := n2_;clear n0_ n1_ n2_;(try clear hb);(try clear hb2);(try clear hk);(try clear hi)))
   go_meet
   case rel => exact ⟨_, (!t4), (by first|rfl|(simp;done)|(simp [*];done)), H', ⟨by first|omega|exact Nat.le_refl _⟩, ⟨by (with_reducible repeat (first|refine blk_drewN ?_ _|refine blk_drew ?_|refine blk_alloc ?_ _));exact BK1.out⟩, ⟨by (with_reducible repeat (first|refine blk_drewN ?_ _|refine blk_drew ?_|refine blk_alloc ?_ _));exact BK2.out⟩, ⟨by repeat (first|(with_reducible first|exact HB.out|apply below_alloc|apply pw_below_drewN|apply below_drew1|refine below_set ?_ GE1.out|refine below_set ?_ GE2.out)|exact HB.out)⟩⟩
  ·replace c9 := Bool.eq_false_iff.mpr c9
   subst c9
   have H1 : (r10_Create.j0 k l0 a1 a2 true a3_0 a3_1 a3_2) = some (r1, r2) := by rw [if_neg (show ¬ (false = true) by decide)] at H; exact H
   clear H
   have H := H1
   clear H1
   have H' := Aside0.mk H
   clear H
   go_wp2_with (first|((with_reducible refine gate_callee (f := 105) rfl ?_);refine goesL_ (some 13) rfl rfl Try.func105 (by kernel_rfl) rfl #[.string a1] rfl (by (try simp only [List.map_toArray, List.map_cons, List.map_nil]);first|done|rfl|(simp only [List.length_drop, List.length_take];rfl)) ?_;(with_reducible refine (r10_MayName.calls a1 false _ A8.out).mono ?_);rintro e w' ⟨rfl, ⟨nd, rfl⟩⟩;refine ⟨_, rfl, ?_⟩))
   go_meet
   case rel => exact ⟨_, (true), (by first|rfl|(simp;done)|(simp [*];done)), H', ⟨by first|omega|exact Nat.le_refl _⟩, ⟨by (with_reducible repeat (first|refine blk_drewN ?_ _|refine blk_drew ?_|refine blk_alloc ?_ _));exact BK1.out⟩, ⟨by (with_reducible repeat (first|refine blk_drewN ?_ _|refine blk_drew ?_|refine blk_alloc ?_ _));exact BK2.out⟩, ⟨by repeat (first|(with_reducible first|exact HB.out|apply below_alloc|apply pw_below_drewN|apply below_drew1|refine below_set ?_ GE1.out|refine below_set ?_ GE2.out)|exact HB.out)⟩⟩
 case rest =>
  clear HC5
  try clear c1
  try clear p2
  try clear c8
  try clear c9
  try clear c10
  try clear c11
  try clear hcz12_0
  try clear hcz12_1
  try clear hcz12_2
  try clear hfz12_0
  try clear hfz12_1
  try clear hfz12_2
  obtain ⟨kq, x11_4, rfl, HA, HJ4, BK1, BK2, HB⟩ := hcut
  cases kq with
  | zero => exact absurd HA.out (by simp [r10_Create.j0])
  | succ kj4 =>
   have H := HA.out
   clear HA
   simp only [r10_Create.j0] at H
   by_cases c14 : x11_4 = true
   ·subst c14
    have H1 : ((r10_no.f 1).bind fun bt5 => (some (bt5.1, bt5.2))) = some (r1, r2) := by rw [if_pos rfl] at H; exact H
    clear H
    have H := H1
    clear H1
    replace H := Option.bind_eq_some_iff.mp H
    obtain ⟨⟨t5, t8⟩, A150, H⟩ := H
    replace H : (some (t5, t8)) = some (r1, r2) := H
    have A15 := Aside0.mk A150
    clear A150
    simp only [Option.some.injEq, Prod.mk.injEq] at H
    obtain ⟨rfl, rfl⟩ := H
    go_wp2_with (first|((with_reducible refine gate_callee (f := 113) rfl ?_);refine goesL_ (some 20) rfl rfl Try.func113 (by kernel_rfl) rfl #[.int .i64 1] rfl (by (try simp only [List.map_toArray, List.map_cons, List.map_nil]);first|done|rfl|(simp only [List.length_drop, List.length_take];rfl)) ?_;(with_reducible refine (r10_no.calls 1 t5 t8 _ A15.out).mono ?_);rintro e w16 ⟨v6, rfl, ho0, hb⟩;refine ⟨_, rfl, ?_⟩;have n0_ := Aside0.mk (Kd.R_lower ho0 (below_size (by repeat (first|(with_reducible first|exact HB.out|apply below_alloc|apply pw_below_drewN|apply below_drew1|refine below_set ?_ GE1.out|refine below_set ?_ GE2.out)|exact HB.out))));have n1_ := Aside0.mk (blk_below (g := gb1) (o := .cells #[.int .i64 a3_0, .int .i64 a3_1, .int .i64 a3_2] 27 (0, 0)) (by (with_reducible repeat (first|refine blk_drewN ?_ _|refine blk_drew ?_|refine blk_alloc ?_ _));exact BK1.out) hb);have n2_ := Aside0.mk (blk_below (g := gb2) (o := .cells #[.slice none 0 0, .int .i64 0] 67 (0, 0)) (by (with_reducible repeat (first|refine blk_drewN ?_ _|refine blk_drew ?_|refine blk_alloc ?_ _));exact BK2.out) hb);have n3_ := Aside0.mk (below_step (by repeat (first|(with_reducible first|exact HB.out|apply below_alloc|apply pw_below_drewN|apply below_drew1|refine below_set ?_ GE1.out|refine below_set ?_ GE2.out)|exact HB.out)) hb);clear BK1;clear BK2;clear HB;have HO7 := n0_;have BK1 := n1_;have BK2 := n2_;have HB := n3_;clear n0_ n1_ n2_ n3_;(try clear hb);(try clear hb2);(try clear hk);(try clear hi);(try clear ho0);obtain ⟨Ao17, co17, eo17⟩ := Kd.R_slice HO7.out;subst eo17;have hnb18 := NB2_1.out;have hnc18 := NB1_2.out;have hcz19_0 : w16.cell? ⟨gb2, 0, none⟩ = some (.slice none 0 0) := (blk_cell BK2.out 0).trans rfl;have hcz19_1 : w16.cell? ⟨gb2, 1, none⟩ = some (.int .i64 0) := (blk_cell BK2.out 1).trans rfl;have hfz19_0 := blk_frozen BK2.out 0;have hfz19_1 := blk_frozen BK2.out 1))
    refine bodyPost_ret (results_cell_row rfl _ _ gb2 67 #[.slice Ao17 t5.length co17, .int .i64 t8] (0, 0) _ rfl (by (with_reducible repeat (first|refine blk_drewN ?_ _|refine blk_drew ?_|refine blk_alloc ?_ _));refine blk_put (cs := #[.slice Ao17 t5.length co17, .int .i64 0]) ?_ 1 _ rfl;(with_reducible repeat (first|refine blk_drewN ?_ _|refine blk_drew ?_|refine blk_alloc ?_ _));refine blk_put (cs := #[.slice none 0 0, .int .i64 0]) ?_ 0 _ rfl;(with_reducible repeat (first|refine blk_drewN ?_ _|refine blk_drew ?_|refine blk_alloc ?_ _));exact BK2.out) Try.underlying67 rfl (by kernel_rfl)) rfl ?_
    exact ⟨_, by first|rfl|(simp [errW_none, errW_some] <;> rfl)|(simp [*, errW_none, errW_some] <;> rfl), by (with_reducible repeat (first|apply Kd.R_alloc|apply Kd.R_drewN|apply Kd.R_drew));exact Kd.R_mono (Kd.R_far (p := ⟨gb2, 1, none⟩) (Kd.R_far (p := ⟨gb2, 0, none⟩) (Kd.R_types HO7.out BK2.out (by decide)) (fun _ hk => hk.2) (.slice Ao17 t5.length co17)) (fun _ hk => hk.2) (.int .i64 t8)) (fun _ hk => trivial), by repeat (first|(with_reducible first|exact HB.out|apply below_alloc|apply pw_below_drewN|apply below_drew1|refine below_set ?_ GE1.out|refine below_set ?_ GE2.out)|exact HB.out)⟩
   ·replace c14 := Bool.eq_false_iff.mpr c14
    subst c14
    have H1 : ((r10_Find.f kj4 l0 a1).bind fun t9 => (if t9 ≥ 0 then ((r10_no.f 3).bind fun bt10 => (some (bt10.1, bt10.2))) else (if a2.toList = ([] : List UInt8) then (r10_Create.j1 kj4 l0 a1 a2 false a3_0 a3_1 a3_2) else ((r10_Find.f kj4 l0 a2).bind fun t14 => (r10_Create.j1 kj4 l0 a1 a2 (decide (t14 < 0)) a3_0 a3_1 a3_2))))) = some (r1, r2) := by rw [if_neg (show ¬ (false = true) by decide)] at H; exact H
    clear H
    have H := H1
    clear H1
    replace H := Option.bind_eq_some_iff.mp H
    obtain ⟨t9, A200, H⟩ := H
    replace H : (if t9 ≥ 0 then ((r10_no.f 3).bind fun bt10 => (some (bt10.1, bt10.2))) else (if a2.toList = ([] : List UInt8) then (r10_Create.j1 kj4 l0 a1 a2 false a3_0 a3_1 a3_2) else ((r10_Find.f kj4 l0 a2).bind fun t14 => (r10_Create.j1 kj4 l0 a1 a2 (decide (t14 < 0)) a3_0 a3_1 a3_2)))) = some (r1, r2) := H
    have A20 := Aside0.mk A200
    clear A200
    by_cases c21 : t9 ≥ 0
    ·rw [if_pos c21] at H
     have c21b0 : decide (0 ≤ t9) = true := decide_eq_true c21
     clear c21
     replace H := Option.bind_eq_some_iff.mp H
     obtain ⟨⟨t10, t13⟩, A220, H⟩ := H
     replace H : (some (t10, t13)) = some (r1, r2) := H
     have A22 := Aside0.mk A220
     clear A220
     simp only [Option.some.injEq, Prod.mk.injEq] at H
     obtain ⟨rfl, rfl⟩ := H
     go_wp2_with (first|((with_reducible refine gate_callee (f := 50) rfl ?_);refine goesL_ (some 24) rfl rfl Try.func50 (by kernel_rfl) rfl #[.slice A0 l0.length c0, .string a1] rfl (by (try simp only [List.map_toArray, List.map_cons, List.map_nil]);first|done|rfl|(simp only [List.length_drop, List.length_take];rfl)) ?_;(with_reducible refine (r10_Find.calls kj4 _ _ l0 a1 t9 _ ?side1 ?side2 A20.out).mono ?_);(case side1 => repeat (first|exact (Kd.C_below HR0.out HB.out)|(with_reducible refine Kd.C_alloc ?_ _)|(with_reducible refine Kd.C_drewN ?_ _)|(with_reducible refine Kd.C_drew ?_)));(case side2 => exact HC0.out);rintro e w' ⟨rfl, ⟨nd, rfl⟩⟩;refine ⟨_, rfl, ?_⟩;(try (rw [drewN_self wc];generalize hq_ : World.drewN wc _ = wc;have n0_ : Aside0 (wc.heap[gb1]? = some (.cells #[.int .i64 a3_0, .int .i64 a3_1, .int .i64 a3_2] 27 (0, 0))) := ⟨by rw [← hq_];exact (by (with_reducible repeat (first|refine blk_drewN ?_ _|refine blk_drew ?_|refine blk_alloc ?_ _));exact BK1.out)⟩;have n1_ : Aside0 (wc.heap[gb2]? = some (.cells #[.slice none 0 0, .int .i64 0] 67 (0, 0))) := ⟨by rw [← hq_];exact (by (with_reducible repeat (first|refine blk_drewN ?_ _|refine blk_drew ?_|refine blk_alloc ?_ _));exact BK2.out)⟩;have n2_ : Aside0 (Below w.heap.size w wc) := ⟨by rw [← hq_];exact (by repeat (first|(with_reducible first|exact HB.out|apply below_alloc|apply pw_below_drewN|apply below_drew1|refine below_set ?_ GE1.out|refine below_set ?_ GE2.out)|exact HB.out))⟩;clear BK1 BK2 HB hq_;have BK1 := n0_;have BK2 := n1_;have HB := n2_;clear n0_ n1_ n2_)))|((with_reducible refine gate_callee (f := 113) rfl ?_);refine goesL_ (some 26) rfl rfl Try.func113 (by kernel_rfl) rfl #[.int .i64 3] rfl (by (try simp only [List.map_toArray, List.map_cons, List.map_nil]);first|done|rfl|(simp only [List.length_drop, List.length_take];rfl)) ?_;(with_reducible refine (r10_no.calls 3 t10 t13 _ A22.out).mono ?_);rintro e w23 ⟨v11, rfl, ho0, hb⟩;refine ⟨_, rfl, ?_⟩;have n0_ := Aside0.mk (Kd.R_lower ho0 (below_size (by repeat (first|(with_reducible first|exact HB.out|apply below_alloc|apply pw_below_drewN|apply below_drew1|refine below_set ?_ GE1.out|refine below_set ?_ GE2.out)|exact HB.out))));have n1_ := Aside0.mk (blk_below (g := gb1) (o := .cells #[.int .i64 a3_0, .int .i64 a3_1, .int .i64 a3_2] 27 (0, 0)) (by (with_reducible repeat (first|refine blk_drewN ?_ _|refine blk_drew ?_|refine blk_alloc ?_ _));exact BK1.out) hb);have n2_ := Aside0.mk (blk_below (g := gb2) (o := .cells #[.slice none 0 0, .int .i64 0] 67 (0, 0)) (by (with_reducible repeat (first|refine blk_drewN ?_ _|refine blk_drew ?_|refine blk_alloc ?_ _));exact BK2.out) hb);have n3_ := Aside0.mk (below_step (by repeat (first|(with_reducible first|exact HB.out|apply below_alloc|apply pw_below_drewN|apply below_drew1|refine below_set ?_ GE1.out|refine below_set ?_ GE2.out)|exact HB.out)) hb);clear BK1;clear BK2;clear HB;have HO12 := n0_;have BK1 := n1_;have BK2 := n2_;have HB := n3_;clear n0_ n1_ n2_ n3_;(try clear hb);(try clear hb2);(try clear hk);(try clear hi);(try clear ho0);obtain ⟨Ao24, co24, eo24⟩ := Kd.R_slice HO12.out;subst eo24;have hnb25 := NB2_1.out;have hnc25 := NB1_2.out;have hcz26_0 : w23.cell? ⟨gb2, 0, none⟩ = some (.slice none 0 0) := (blk_cell BK2.out 0).trans rfl;have hcz26_1 : w23.cell? ⟨gb2, 1, none⟩ = some (.int .i64 0) := (blk_cell BK2.out 1).trans rfl;have hfz26_0 := blk_frozen BK2.out 0;have hfz26_1 := blk_frozen BK2.out 1))
     refine bodyPost_ret (results_cell_row rfl _ _ gb2 67 #[.slice Ao24 t10.length co24, .int .i64 t13] (0, 0) _ rfl (by (with_reducible repeat (first|refine blk_drewN ?_ _|refine blk_drew ?_|refine blk_alloc ?_ _));refine blk_put (cs := #[.slice Ao24 t10.length co24, .int .i64 0]) ?_ 1 _ rfl;(with_reducible repeat (first|refine blk_drewN ?_ _|refine blk_drew ?_|refine blk_alloc ?_ _));refine blk_put (cs := #[.slice none 0 0, .int .i64 0]) ?_ 0 _ rfl;(with_reducible repeat (first|refine blk_drewN ?_ _|refine blk_drew ?_|refine blk_alloc ?_ _));exact BK2.out) Try.underlying67 rfl (by kernel_rfl)) rfl ?_
     exact ⟨_, by first|rfl|(simp [errW_none, errW_some] <;> rfl)|(simp [*, errW_none, errW_some] <;> rfl), by (with_reducible repeat (first|apply Kd.R_alloc|apply Kd.R_drewN|apply Kd.R_drew));exact Kd.R_mono (Kd.R_far (p := ⟨gb2, 1, none⟩) (Kd.R_far (p := ⟨gb2, 0, none⟩) (Kd.R_types HO12.out BK2.out (by decide)) (fun _ hk => hk.2) (.slice Ao24 t10.length co24)) (fun _ hk => hk.2) (.int .i64 t13)) (fun _ hk => trivial), by repeat (first|(with_reducible first|exact HB.out|apply below_alloc|apply pw_below_drewN|apply below_drew1|refine below_set ?_ GE1.out|refine below_set ?_ GE2.out)|exact HB.out)⟩
    ·rw [if_neg c21] at H
     have c21b0 : decide (0 ≤ t9) = false := decide_eq_false c21
     clear c21
     have HC27 := Aside0.mk H
     clear H
     go_upto_region 5 with (first|((with_reducible refine gate_callee (f := 50) rfl ?_);refine goesL_ (some 24) rfl rfl Try.func50 (by kernel_rfl) rfl #[.slice A0 l0.length c0, .string a1] rfl (by (try simp only [List.map_toArray, List.map_cons, List.map_nil]);first|done|rfl|(simp only [List.length_drop, List.length_take];rfl)) ?_;(with_reducible refine (r10_Find.calls kj4 _ _ l0 a1 t9 _ ?side1 ?side2 A20.out).mono ?_);(case side1 => repeat (first|exact (Kd.C_below HR0.out HB.out)|(with_reducible refine Kd.C_alloc ?_ _)|(with_reducible refine Kd.C_drewN ?_ _)|(with_reducible refine Kd.C_drew ?_)));(case side2 => exact HC0.out);rintro e w' ⟨rfl, ⟨nd, rfl⟩⟩;refine ⟨_, rfl, ?_⟩))
     (try simp only [Act.put, List.setIfInBounds_toArray, List.set_cons_zero, List.set_cons_succ])
     go_cut [27] (fun v27 wc => ∃ (kq : Nat) (x27_26 : Bool), v27 = .bool x27_26 ∧ Aside0 (r10_Create.j1 kq l0 a1 a2 x27_26 a3_0 a3_1 a3_2 = some (r1, r2)) ∧ Aside0 (kq ≤ kj4) ∧ Aside0 (wc.heap[gb1]? = some (.cells #[.int .i64 a3_0, .int .i64 a3_1, .int .i64 a3_2] 27 (0, 0))) ∧ Aside0 (wc.heap[gb2]? = some (.cells #[(.slice none 0 0), .int .i64 0] 67 (0, 0))) ∧ Aside0 (Below w.heap.size w wc))
     case first =>
      have H := HC27.out
      clear HC27
      by_cases c28 : a2.toList = ([] : List UInt8)
      ·rw [if_pos c28] at H
       have c28b0 : (a2.toList == ([] : List UInt8)) = true := beq_iff_eq.mpr c28
       have c28b1 : (a2.toList != ([] : List UInt8)) = false := bne_eq_false_iff_eq.mpr c28
       clear c28
       (first | rw [c28b0] | (simp only [i64_w, i32_w]; rw [c28b0]) | skip)
       have H' := Aside0.mk H
       clear H
       go_wp2
       go_meet
       case rel => exact ⟨_, (false), (by first|rfl|(simp;done)|(simp [*];done)), H', ⟨by have := HJ4.out;first|omega|exact Nat.le_refl _⟩, ⟨by (with_reducible repeat (first|refine blk_drewN ?_ _|refine blk_drew ?_|refine blk_alloc ?_ _));exact BK1.out⟩, ⟨by (with_reducible repeat (first|refine blk_drewN ?_ _|refine blk_drew ?_|refine blk_alloc ?_ _));exact BK2.out⟩, ⟨by repeat (first|(with_reducible first|exact HB.out|apply below_alloc|apply pw_below_drewN|apply below_drew1|refine below_set ?_ GE1.out|refine below_set ?_ GE2.out)|exact HB.out)⟩⟩
      ·rw [if_neg c28] at H
       have c28b0 : (a2.toList == ([] : List UInt8)) = false := beq_eq_false_iff_ne.mpr c28
       have c28b1 : (a2.toList != ([] : List UInt8)) = true := bne_iff_ne.mpr c28
       (first | rw [c28b0] | (simp only [i64_w, i32_w]; rw [c28b0]) | skip)
       replace H := Option.bind_eq_some_iff.mp H
       obtain ⟨t14, A290, H⟩ := H
       replace H : (r10_Create.j1 kj4 l0 a1 a2 (decide (t14 < 0)) a3_0 a3_1 a3_2) = some (r1, r2) := H
       have A29 := Aside0.mk A290
       clear A290
       have H' := Aside0.mk H
       clear H
       go_wp2_with (first|(go_at_call 50;(with_reducible refine (r10_Find.calls kj4 _ _ l0 a2 t14 _ ?side1 ?side2 A29.out).mono ?_);(case side1 => repeat (first|exact (Kd.C_below HR0.out HB.out)|(with_reducible refine Kd.C_alloc ?_ _)|(with_reducible refine Kd.C_drewN ?_ _)|(with_reducible refine Kd.C_drew ?_)));(case side2 => exact HC0.out);rintro e w' ⟨rfl, ⟨nd, rfl⟩⟩))
       go_meet
       case rel => exact ⟨_, (decide (t14 < 0)), (by first|rfl|(simp;done)|(simp [*];done)), H', ⟨by have := HJ4.out;first|omega|exact Nat.le_refl _⟩, ⟨by (with_reducible repeat (first|refine blk_drewN ?_ _|refine blk_drew ?_|refine blk_alloc ?_ _));exact BK1.out⟩, ⟨by (with_reducible repeat (first|refine blk_drewN ?_ _|refine blk_drew ?_|refine blk_alloc ?_ _));exact BK2.out⟩, ⟨by repeat (first|(with_reducible first|exact HB.out|apply below_alloc|apply pw_below_drewN|apply below_drew1|refine below_set ?_ GE1.out|refine below_set ?_ GE2.out)|exact HB.out)⟩⟩
     case rest =>
      clear HC27
      try clear c1
      try clear c2
      try clear p2
      try clear c5
      try clear c8
      try clear c9
      try clear c10
      try clear c11
      try clear c14
      try clear c18
      try clear c21
      try clear c21b0
      try clear c25
      try clear c28
      try clear c28b0
      try clear c28b1
      try clear hcz12_0
      try clear hcz12_1
      try clear hcz12_2
      try clear hcz19_0
      try clear hcz19_1
      try clear hcz26_0
      try clear hcz26_1
      try clear hfz12_0
      try clear hfz12_1
      try clear hfz12_2
      try clear hfz19_0
      try clear hfz19_1
      try clear hfz26_0
      try clear hfz26_1
      try clear p2
      obtain ⟨kq, x27_26, rfl, HA, HJ26, BK1, BK2, HB⟩ := hcut
      cases kq with
      | zero => exact absurd HA.out (by simp [r10_Create.j1])
      | succ kj26 =>
       have H := HA.out
       clear HA
       simp only [r10_Create.j1] at H
       by_cases c30 : x27_26 = true
       ·subst c30
        have H1 : ((r10_no.f 2).bind fun bt15 => (some (bt15.1, bt15.2))) = some (r1, r2) := by rw [if_pos rfl] at H; exact H
        clear H
        have H := H1
        clear H1
        replace H := Option.bind_eq_some_iff.mp H
        obtain ⟨⟨t15, t18⟩, A310, H⟩ := H
        replace H : (some (t15, t18)) = some (r1, r2) := H
        have A31 := Aside0.mk A310
        clear A310
        simp only [Option.some.injEq, Prod.mk.injEq] at H
        obtain ⟨rfl, rfl⟩ := H
        go_wp2_with (first|((with_reducible refine gate_callee (f := 113) rfl ?_);refine goesL_ (some 36) rfl rfl Try.func113 (by kernel_rfl) rfl #[.int .i64 2] rfl (by (try simp only [List.map_toArray, List.map_cons, List.map_nil]);first|done|rfl|(simp only [List.length_drop, List.length_take];rfl)) ?_;(with_reducible refine (r10_no.calls 2 t15 t18 _ A31.out).mono ?_);rintro e w32 ⟨v16, rfl, ho0, hb⟩;refine ⟨_, rfl, ?_⟩;have n0_ := Aside0.mk (Kd.R_lower ho0 (below_size (by repeat (first|(with_reducible first|exact HB.out|apply below_alloc|apply pw_below_drewN|apply below_drew1|refine below_set ?_ GE1.out|refine below_set ?_ GE2.out)|exact HB.out))));have n1_ := Aside0.mk (blk_below (g := gb1) (o := .cells #[.int .i64 a3_0, .int .i64 a3_1, .int .i64 a3_2] 27 (0, 0)) (by (with_reducible repeat (first|refine blk_drewN ?_ _|refine blk_drew ?_|refine blk_alloc ?_ _));exact BK1.out) hb);have n2_ := Aside0.mk (blk_below (g := gb2) (o := .cells #[.slice none 0 0, .int .i64 0] 67 (0, 0)) (by (with_reducible repeat (first|refine blk_drewN ?_ _|refine blk_drew ?_|refine blk_alloc ?_ _));exact BK2.out) hb);have n3_ := Aside0.mk (below_step (by repeat (first|(with_reducible first|exact HB.out|apply below_alloc|apply pw_below_drewN|apply below_drew1|refine below_set ?_ GE1.out|refine below_set ?_ GE2.out)|exact HB.out)) hb);clear BK1;clear BK2;clear HB;have HO17 := n0_;have BK1 := n1_;have BK2 := n2_;have HB := n3_;clear n0_ n1_ n2_ n3_;(try clear hb);(try clear hb2);(try clear hk);(try clear hi);(try clear ho0);obtain ⟨Ao33, co33, eo33⟩ := Kd.R_slice HO17.out;subst eo33;have hnb34 := NB2_1.out;have hnc34 := NB1_2.out;have hcz35_0 : w32.cell? ⟨gb2, 0, none⟩ = some (.slice none 0 0) := (blk_cell BK2.out 0).trans rfl;have hcz35_1 : w32.cell? ⟨gb2, 1, none⟩ = some (.int .i64 0) := (blk_cell BK2.out 1).trans rfl;have hfz35_0 := blk_frozen BK2.out 0;have hfz35_1 := blk_frozen BK2.out 1))
        refine bodyPost_ret (results_cell_row rfl _ _ gb2 67 #[.slice Ao33 t15.length co33, .int .i64 t18] (0, 0) _ rfl (by (with_reducible repeat (first|refine blk_drewN ?_ _|refine blk_drew ?_|refine blk_alloc ?_ _));refine blk_put (cs := #[.slice Ao33 t15.length co33, .int .i64 0]) ?_ 1 _ rfl;(with_reducible repeat (first|refine blk_drewN ?_ _|refine blk_drew ?_|refine blk_alloc ?_ _));refine blk_put (cs := #[.slice none 0 0, .int .i64 0]) ?_ 0 _ rfl;(with_reducible repeat (first|refine blk_drewN ?_ _|refine blk_drew ?_|refine blk_alloc ?_ _));exact BK2.out) Try.underlying67 rfl (by kernel_rfl)) rfl ?_
        exact ⟨_, by first|rfl|(simp [errW_none, errW_some] <;> rfl)|(simp [*, errW_none, errW_some] <;> rfl), by (with_reducible repeat (first|apply Kd.R_alloc|apply Kd.R_drewN|apply Kd.R_drew));exact Kd.R_mono (Kd.R_far (p := ⟨gb2, 1, none⟩) (Kd.R_far (p := ⟨gb2, 0, none⟩) (Kd.R_types HO17.out BK2.out (by decide)) (fun _ hk => hk.2) (.slice Ao33 t15.length co33)) (fun _ hk => hk.2) (.int .i64 t18)) (fun _ hk => trivial), by repeat (first|(with_reducible first|exact HB.out|apply below_alloc|apply pw_below_drewN|apply below_drew1|refine below_set ?_ GE1.out|refine below_set ?_ GE2.out)|exact HB.out)⟩
       ·replace c30 := Bool.eq_false_iff.mpr c30
        subst c30
        have H1 : (if (l0.length : Int) ≥ 120 then ((r10_no.f 4).bind fun bt19 => (some (bt19.1, bt19.2))) else (r10_Create.l0 kj26 l0 a1 a2 0 a3_0 a3_1 a3_2)) = some (r1, r2) := by rw [if_neg (show ¬ (false = true) by decide)] at H; exact H
        clear H
        have H := H1
        clear H1
        by_cases c36 : (l0.length : Int) ≥ 120
        ·rw [if_pos c36] at H
         have c36b0 : decide (120 ≤ (l0.length : Int)) = true := decide_eq_true c36
         have c36b1 : decide (120 ≤ l0.length) = true := decide_eq_true (by omega)
         clear c36
         replace H := Option.bind_eq_some_iff.mp H
         obtain ⟨⟨t19, t22⟩, A370, H⟩ := H
         replace H : (some (t19, t22)) = some (r1, r2) := H
         have A37 := Aside0.mk A370
         clear A370
         simp only [Option.some.injEq, Prod.mk.injEq] at H
         obtain ⟨rfl, rfl⟩ := H
         go_wp2_with (first|((with_reducible refine gate_callee (f := 113) rfl ?_);refine goesL_ (some 41) rfl rfl Try.func113 (by kernel_rfl) rfl #[.int .i64 4] rfl (by (try simp only [List.map_toArray, List.map_cons, List.map_nil]);first|done|rfl|(simp only [List.length_drop, List.length_take];rfl)) ?_;(with_reducible refine (r10_no.calls 4 t19 t22 _ A37.out).mono ?_);rintro e w38 ⟨v20, rfl, ho0, hb⟩;refine ⟨_, rfl, ?_⟩;have n0_ := Aside0.mk (Kd.R_lower ho0 (below_size (by repeat (first|(with_reducible first|exact HB.out|apply below_alloc|apply pw_below_drewN|apply below_drew1|refine below_set ?_ GE1.out|refine below_set ?_ GE2.out)|exact HB.out))));have n1_ := Aside0.mk (blk_below (g := gb1) (o := .cells #[.int .i64 a3_0, .int .i64 a3_1, .int .i64 a3_2] 27 (0, 0)) (by (with_reducible repeat (first|refine blk_drewN ?_ _|refine blk_drew ?_|refine blk_alloc ?_ _));exact BK1.out) hb);have n2_ := Aside0.mk (blk_below (g := gb2) (o := .cells #[.slice none 0 0, .int .i64 0] 67 (0, 0)) (by (with_reducible repeat (first|refine blk_drewN ?_ _|refine blk_drew ?_|refine blk_alloc ?_ _));exact BK2.out) hb);have n3_ := Aside0.mk (below_step (by repeat (first|(with_reducible first|exact HB.out|apply below_alloc|apply pw_below_drewN|apply below_drew1|refine below_set ?_ GE1.out|refine below_set ?_ GE2.out)|exact HB.out)) hb);clear BK1;clear BK2;clear HB;have HO21 := n0_;have BK1 := n1_;have BK2 := n2_;have HB := n3_;clear n0_ n1_ n2_ n3_;(try clear hb);(try clear hb2);(try clear hk);(try clear hi);(try clear ho0);obtain ⟨Ao39, co39, eo39⟩ := Kd.R_slice HO21.out;subst eo39;have hnb40 := NB2_1.out;have hnc40 := NB1_2.out;have hcz41_0 : w38.cell? ⟨gb2, 0, none⟩ = some (.slice none 0 0) := (blk_cell BK2.out 0).trans rfl;have hcz41_1 : w38.cell? ⟨gb2, 1, none⟩ = some (.int .i64 0) := (blk_cell BK2.out 1).trans rfl;have hfz41_0 := blk_frozen BK2.out 0;have hfz41_1 := blk_frozen BK2.out 1))
         refine bodyPost_ret (results_cell_row rfl _ _ gb2 67 #[.slice Ao39 t19.length co39, .int .i64 t22] (0, 0) _ rfl (by (with_reducible repeat (first|refine blk_drewN ?_ _|refine blk_drew ?_|refine blk_alloc ?_ _));refine blk_put (cs := #[.slice Ao39 t19.length co39, .int .i64 0]) ?_ 1 _ rfl;(with_reducible repeat (first|refine blk_drewN ?_ _|refine blk_drew ?_|refine blk_alloc ?_ _));refine blk_put (cs := #[.slice none 0 0, .int .i64 0]) ?_ 0 _ rfl;(with_reducible repeat (first|refine blk_drewN ?_ _|refine blk_drew ?_|refine blk_alloc ?_ _));exact BK2.out) Try.underlying67 rfl (by kernel_rfl)) rfl ?_
         exact ⟨_, by first|rfl|(simp [errW_none, errW_some] <;> rfl)|(simp [*, errW_none, errW_some] <;> rfl), by (with_reducible repeat (first|apply Kd.R_alloc|apply Kd.R_drewN|apply Kd.R_drew));exact Kd.R_mono (Kd.R_far (p := ⟨gb2, 1, none⟩) (Kd.R_far (p := ⟨gb2, 0, none⟩) (Kd.R_types HO21.out BK2.out (by decide)) (fun _ hk => hk.2) (.slice Ao39 t19.length co39)) (fun _ hk => hk.2) (.int .i64 t22)) (fun _ hk => trivial), by repeat (first|(with_reducible first|exact HB.out|apply below_alloc|apply pw_below_drewN|apply below_drew1|refine below_set ?_ GE1.out|refine below_set ?_ GE2.out)|exact HB.out)⟩
        ·rw [if_neg c36] at H
         have c36b0 : decide (120 ≤ (l0.length : Int)) = false := decide_eq_false c36
         have c36b1 : decide (120 ≤ l0.length) = false := decide_eq_false (by omega)
         clear c36
         have H' := Aside0.mk H
         clear H
         go_wp2
         go_loopg [9] kj26 (fun kq v9 w' => ∃ (x9_3 : Int), v9 = .int .i64 x9_3 ∧ Aside0 (r10_Create.l0 kq l0 a1 a2 x9_3 a3_0 a3_1 a3_2 = some (r1, r2)) ∧ Aside0 (kq ≤ kj26) ∧ Aside0 (w'.heap[gb1]? = some (.cells #[.int .i64 a3_0, .int .i64 a3_1, .int .i64 a3_2] 27 (0, 0))) ∧ Aside0 (w'.heap[gb2]? = some (.cells #[(.slice none 0 0), .int .i64 0] 67 (0, 0))) ∧ Aside0 (Below w.heap.size w w'))
         case atStart => exact ⟨(0), (by first|rfl|(simp;done)|(simp [*];done)), H', ⟨Nat.le_refl _⟩, ⟨by (with_reducible repeat (first|refine blk_drewN ?_ _|refine blk_drew ?_|refine blk_alloc ?_ _));exact BK1.out⟩, ⟨by (with_reducible repeat (first|refine blk_drewN ?_ _|refine blk_drew ?_|refine blk_alloc ?_ _));exact BK2.out⟩, ⟨by repeat (first|(with_reducible first|exact HB.out|apply below_alloc|apply pw_below_drewN|apply below_drew1|refine below_set ?_ GE1.out|refine below_set ?_ GE2.out)|exact HB.out)⟩⟩
         case round =>
          clear H'
          try clear c1
          try clear c2
          try clear p2
          try clear c3
          try clear c4
          try clear c5
          try clear c8
          try clear c9
          try clear c10
          try clear c11
          try clear c14
          try clear c18
          try clear c21
          try clear c21b0
          try clear c25
          try clear c28
          try clear c28b0
          try clear c28b1
          try clear c30
          try clear c34
          try clear c36
          try clear c36b0
          try clear c36b1
          try clear c40
          try clear hcz12_0
          try clear hcz12_1
          try clear hcz12_2
          try clear hcz19_0
          try clear hcz19_1
          try clear hcz26_0
          try clear hcz26_1
          try clear hcz35_0
          try clear hcz35_1
          try clear hcz41_0
          try clear hcz41_1
          try clear hfz12_0
          try clear hfz12_1
          try clear hfz12_2
          try clear hfz19_0
          try clear hfz19_1
          try clear hfz26_0
          try clear hfz26_1
          try clear hfz35_0
          try clear hfz35_1
          try clear hfz41_0
          try clear hfz41_1
          try clear p2
          obtain ⟨x9_3, rfl, HA, HK3, BK1, BK2, HB⟩ := hrel
          cases gk with
          | zero => exact absurd HA.out (by simp [r10_Create.l0])
          | succ k3 =>
           have H := HA.out
           clear HA
           simp only [r10_Create.l0] at H
           by_cases c42 : x9_3 < (l0.length : Int)
           ·rw [if_pos c42] at H
            have c42b0 : decide (x9_3 < (l0.length : Int)) = true := decide_eq_true c42
            clear c42
            by_cases c43 : 0 ≤ x9_3
            ·rw [if_pos c43] at H
             have c43b0 : decide (0 ≤ x9_3) = true := decide_eq_true c43
             clear c43
             by_cases c44 : (Op.bytesLess (((rd_T31 l0 x9_3).f0).toList) a1.toList) = true
             ·rw [if_pos c44] at H
              have c44b0 : (Op.bytesLess (((rd_T31 l0 x9_3).f0).toList) a1.toList) = true := c44
              clear c44
              have H' := Aside0.mk H
              clear H
              have p23 : 0 ≤ (x9_3 : Int) := of_decide_eq_true (by first|(with_reducible assumption)|assumption)
              have q23 : x9_3 < (l0.length : Int) := of_decide_eq_true (by first|(with_reducible assumption)|assumption)
              obtain ⟨ad23, e23, hx23_0, hx23_1, hx23_2, hx23_3, hx23_4, hx23_5, hx23_6, hx23_7, hx23_8, hx23_9, hx23_10, hx23_11⟩ := at_T31 HR0.out x9_3 p23 q23
              cases e23
              replace hx23_0 := (HB.out.cell (World.block_lt_of_cell? w _ hx23_0)).trans hx23_0
              replace hx23_1 := (HB.out.cell (World.block_lt_of_cell? w _ hx23_1)).trans hx23_1
              replace hx23_2 := (HB.out.cell (World.block_lt_of_cell? w _ hx23_2)).trans hx23_2
              replace hx23_3 := (HB.out.cell (World.block_lt_of_cell? w _ hx23_3)).trans hx23_3
              replace hx23_4 := (HB.out.cell (World.block_lt_of_cell? w _ hx23_4)).trans hx23_4
              replace hx23_5 := (HB.out.cell (World.block_lt_of_cell? w _ hx23_5)).trans hx23_5
              replace hx23_6 := (HB.out.cell (World.block_lt_of_cell? w _ hx23_6)).trans hx23_6
              replace hx23_7 := (HB.out.cell (World.block_lt_of_cell? w _ hx23_7)).trans hx23_7
              replace hx23_8 := (HB.out.cell (World.block_lt_of_cell? w _ hx23_8)).trans hx23_8
              replace hx23_9 := (HB.out.cell (World.block_lt_of_cell? w _ hx23_9)).trans hx23_9
              replace hx23_10 := (HB.out.cell (World.block_lt_of_cell? w _ hx23_10)).trans hx23_10
              replace hx23_11 := (HB.out.cell (World.block_lt_of_cell? w _ hx23_11)).trans hx23_11
              replace p23 := eq_true p23
              replace q23 := eq_true q23
              go_wp2
              go_roundg k3
              case measure => have := HJ4.out; have := HJ26.out; have := HK3.out; omega
              case rel => exact ⟨(wrap64 (x9_3 + 1)), (by first|rfl|(simp;done)|(simp [*];done)), H', ⟨by have := HJ4.out;have := HJ26.out;have := HK3.out;omega⟩, ⟨by (with_reducible repeat (first|refine blk_drewN ?_ _|refine blk_drew ?_|refine blk_alloc ?_ _));exact BK1.out⟩, ⟨by (with_reducible repeat (first|refine blk_drewN ?_ _|refine blk_drew ?_|refine blk_alloc ?_ _));exact BK2.out⟩, ⟨by repeat (first|(with_reducible first|exact HB.out|apply below_alloc|apply pw_below_drewN|apply below_drew1|refine below_set ?_ GE1.out|refine below_set ?_ GE2.out)|exact HB.out)⟩⟩
             ·rw [if_neg c44] at H
              have c44b0 : (Op.bytesLess (((rd_T31 l0 x9_3).f0).toList) a1.toList) = false := by simpa using c44
              clear c44
              have c45b0 := eq_true (of_decide_eq_true (by first|(with_reducible assumption)|assumption) : 0 ≤ x9_3)
              by_cases c46 : x9_3 ≤ (l0.length : Int)
              ·rw [if_pos c46] at H
               have c46b0 := eq_true c46
               have c46b1 : decide (x9_3 ≤ (l0.length : Int)) = true := decide_eq_true c46
               clear c46
               obtain ⟨y24, hy24⟩ : ∃ y_ : List (S31), y_ = (l0.take (x9_3 : Int).toNat) := ⟨_, rfl⟩
               replace H : ((r10_copied.f y24).bind fun t28 => (if t28.length < 1256584717458 then ((some (t28 ++ [(⟨a1, a2, (⟨a3_0, a3_1, a3_2⟩ : S27), (⟨0, 0, 0⟩ : S27), (⟨0, 0, 0⟩ : S27), 1⟩ : S31)] : List (S31))).bind fun y31 => ((some (l0.drop (x9_3 : Int).toNat : List (S31))).bind fun y34 => (if y31.length + y34.length < 1256584717458 then (some ((y31 ++ y34), 0)) else (none)))) else (none))) = some (r1, r2) := by first|(rw [hy24];with_reducible exact H)|(have H2_ := (Option.bind_some _ _).symm.trans H;rw [hy24];with_reducible exact H2_)|(have H2_ := (Option.bind_some _ _).symm.trans H;with_reducible exact H2_)|with_reducible exact H|(rw [hy24];exact H)|exact H
               have Ny24 := Aside0.mk hy24
               clear hy24
               replace H := Option.bind_eq_some_iff.mp H
               obtain ⟨t28, A470, H⟩ := H
               replace H : (if t28.length < 1256584717458 then ((some (t28 ++ [(⟨a1, a2, (⟨a3_0, a3_1, a3_2⟩ : S27), (⟨0, 0, 0⟩ : S27), (⟨0, 0, 0⟩ : S27), 1⟩ : S31)] : List (S31))).bind fun y31 => ((some (l0.drop (x9_3 : Int).toNat : List (S31))).bind fun y34 => (if y31.length + y34.length < 1256584717458 then (some ((y31 ++ y34), 0)) else (none)))) else (none)) = some (r1, r2) := H
               have A47 := Aside0.mk A470
               clear A470
               by_cases c48 : t28.length < 1256584717458
               ·rw [if_pos c48] at H
                have LMc48 := Aside0.mk c48
                clear c48
                obtain ⟨y31, hy31⟩ : ∃ y_ : List (S31), y_ = (t28 ++ [(⟨a1, a2, (⟨a3_0, a3_1, a3_2⟩ : S27), (⟨0, 0, 0⟩ : S27), (⟨0, 0, 0⟩ : S27), 1⟩ : S31)]) := ⟨_, rfl⟩
                replace H : ((some (l0.drop (x9_3 : Int).toNat : List (S31))).bind fun y34 => (if y31.length + y34.length < 1256584717458 then (some ((y31 ++ y34), 0)) else (none))) = some (r1, r2) := by first|(rw [hy31];with_reducible exact H)|(have H2_ := (Option.bind_some _ _).symm.trans H;rw [hy31];with_reducible exact H2_)|(have H2_ := (Option.bind_some _ _).symm.trans H;with_reducible exact H2_)|with_reducible exact H|(rw [hy31];exact H)|exact H
                have Ny31 := Aside0.mk hy31
                clear hy31
                have c49b0 := eq_true (of_decide_eq_true (by first|(with_reducible assumption)|assumption) : 0 ≤ x9_3)
                have c50b0 := eq_true (of_decide_eq_true (by first|(with_reducible assumption)|assumption) : x9_3 ≤ (l0.length : Int))
                obtain ⟨y34, hy34⟩ : ∃ y_ : List (S31), y_ = (l0.drop (x9_3 : Int).toNat) := ⟨_, rfl⟩
                replace H : (if y31.length + y34.length < 1256584717458 then (some ((y31 ++ y34), 0)) else (none)) = some (r1, r2) := by first|(rw [hy34];with_reducible exact H)|(have H2_ := (Option.bind_some _ _).symm.trans H;rw [hy34];with_reducible exact H2_)|(have H2_ := (Option.bind_some _ _).symm.trans H;with_reducible exact H2_)|with_reducible exact H|(rw [hy34];exact H)|exact H
                have Ny34 := Aside0.mk hy34
                clear hy34
                by_cases c51 : y31.length + y34.length < 1256584717458
                ·rw [if_pos c51] at H
                 have LMc51 := Aside0.mk c51
                 clear c51
                 obtain ⟨y38, hy38⟩ : ∃ y_ : List (S31), y_ = (y31 ++ y34) := ⟨_, rfl⟩
                 replace H : (some (y38, 0)) = some (r1, r2) := by first|(rw [hy38];with_reducible exact H)|(have H2_ := (Option.bind_some _ _).symm.trans H;rw [hy38];with_reducible exact H2_)|(have H2_ := (Option.bind_some _ _).symm.trans H;with_reducible exact H2_)|with_reducible exact H|(rw [hy38];exact H)|exact H
                 have Ny38 := Aside0.mk hy38
                 clear hy38
                 simp only [Option.some.injEq, Prod.mk.injEq] at H
                 obtain ⟨rfl, rfl⟩ := H
                 have p23 : 0 ≤ (x9_3 : Int) := of_decide_eq_true (by first|(with_reducible assumption)|assumption)
                 have q23 : x9_3 < (l0.length : Int) := of_decide_eq_true (by first|(with_reducible assumption)|assumption)
                 obtain ⟨ad23, e23, hx23_0, hx23_1, hx23_2, hx23_3, hx23_4, hx23_5, hx23_6, hx23_7, hx23_8, hx23_9, hx23_10, hx23_11⟩ := at_T31 HR0.out x9_3 p23 q23
                 cases e23
                 replace hx23_0 := (HB.out.cell (World.block_lt_of_cell? w _ hx23_0)).trans hx23_0
                 replace hx23_1 := (HB.out.cell (World.block_lt_of_cell? w _ hx23_1)).trans hx23_1
                 replace hx23_2 := (HB.out.cell (World.block_lt_of_cell? w _ hx23_2)).trans hx23_2
                 replace hx23_3 := (HB.out.cell (World.block_lt_of_cell? w _ hx23_3)).trans hx23_3
                 replace hx23_4 := (HB.out.cell (World.block_lt_of_cell? w _ hx23_4)).trans hx23_4
                 replace hx23_5 := (HB.out.cell (World.block_lt_of_cell? w _ hx23_5)).trans hx23_5
                 replace hx23_6 := (HB.out.cell (World.block_lt_of_cell? w _ hx23_6)).trans hx23_6
                 replace hx23_7 := (HB.out.cell (World.block_lt_of_cell? w _ hx23_7)).trans hx23_7
                 replace hx23_8 := (HB.out.cell (World.block_lt_of_cell? w _ hx23_8)).trans hx23_8
                 replace hx23_9 := (HB.out.cell (World.block_lt_of_cell? w _ hx23_9)).trans hx23_9
                 replace hx23_10 := (HB.out.cell (World.block_lt_of_cell? w _ hx23_10)).trans hx23_10
                 replace hx23_11 := (HB.out.cell (World.block_lt_of_cell? w _ hx23_11)).trans hx23_11
                 replace p23 := eq_true p23
                 replace q23 := eq_true q23
                 have q52 : (x9_3 : Int) ≤ ((l0.length : Int) : Int) := of_decide_eq_true (by first|(with_reducible assumption)|assumption)
                 obtain ⟨i052, hi052, _, hsz52, _⟩ := info_parts info31
                 have hroom52 : l0.length ≤ c0 := HC0.out
                 have hC52 : Kd.C k31 _ (some ad23) l0.length l0 := HR0.out
                 have hcut52 := cut_to (P := Try.prog) 24 31 .i64 Try.underlying24 hi052 (some ad23) l0.length c0 x9_3 (of_decide_eq_true (by first|(with_reducible assumption)|assumption)) q52 hroom52
                 have hr52 := Kd.C_take (m := (x9_3 : Int).toNat) hC52 (by omega)
                 have hy52 : y24.length = (x9_3 : Int).toNat := (by rw [Ny24.out, List.length_take]; omega)
                 rw [← Ny24.out] at hr52
                 rw [← hy52] at hcut52
                 have HR27 := Aside0.mk hr52
                 have HC27 := Aside0.mk (show y24.length ≤ c0 from by omega)
                 clear hr52 hC52 hroom52 hi052 hsz52
                 have KY52 := Aside0.mk hy52
                 clear hy52
                 replace q52 := eq_true q52
                 go_wp2_with (first|((with_reducible refine gate_callee (f := 124) rfl ?_);refine goesL_ (some 60) rfl rfl Try.func124 (by kernel_rfl) rfl #[.slice (some ad23) y24.length c0] rfl (by (try simp only [List.map_toArray, List.map_cons, List.map_nil]);first|done|rfl|(simp only [List.length_drop, List.length_take];rfl)) ?_;(with_reducible refine (r10_copied.calls _ _ y24 t28 _ ?side1 ?side2 A47.out).mono ?_);(case side1 => repeat (first|exact (Kd.C_below HR27.out HB.out)|(with_reducible refine Kd.C_alloc ?_ _)|(with_reducible refine Kd.C_drewN ?_ _)|(with_reducible refine Kd.C_drew ?_)));(case side2 => exact HC27.out);rintro e w53 ⟨v29, rfl, ho0, hb⟩;refine ⟨_, rfl, ?_⟩;have n0_ := Aside0.mk (Kd.R_lower ho0 (below_size (by repeat (first|(with_reducible first|exact HB.out|apply below_alloc|apply pw_below_drewN|apply below_drew1|refine below_set ?_ GE1.out|refine below_set ?_ GE2.out)|exact HB.out))));have n1_ := Aside0.mk (blk_below (g := gb1) (o := .cells #[.int .i64 a3_0, .int .i64 a3_1, .int .i64 a3_2] 27 (0, 0)) (by (with_reducible repeat (first|refine blk_drewN ?_ _|refine blk_drew ?_|refine blk_alloc ?_ _));exact BK1.out) hb);have n2_ := Aside0.mk (blk_below (g := gb2) (o := .cells #[.slice none 0 0, .int .i64 0] 67 (0, 0)) (by (with_reducible repeat (first|refine blk_drewN ?_ _|refine blk_drew ?_|refine blk_alloc ?_ _));exact BK2.out) hb);have n3_ := Aside0.mk (below_step (by repeat (first|(with_reducible first|exact HB.out|apply below_alloc|apply pw_below_drewN|apply below_drew1|refine below_set ?_ GE1.out|refine below_set ?_ GE2.out)|exact HB.out)) hb);clear BK1;clear BK2;clear HB;have HO30 := n0_;have BK1 := n1_;have BK2 := n2_;have HB := n3_;clear n0_ n1_ n2_ n3_;(try clear hb);(try clear hb2);(try clear hk);(try clear hi);(try clear ho0);have hnb54 := NB1_2.out;have hnc54 := NB2_1.out;have hcz55_0 : w53.cell? ⟨gb1, 0, none⟩ = some (.int .i64 a3_0) := (blk_cell BK1.out 0).trans rfl;have hcz55_1 : w53.cell? ⟨gb1, 1, none⟩ = some (.int .i64 a3_1) := (blk_cell BK1.out 1).trans rfl;have hcz55_2 : w53.cell? ⟨gb1, 2, none⟩ = some (.int .i64 a3_2) := (blk_cell BK1.out 2).trans rfl;have hfz55_0 := blk_frozen BK1.out 0;have hfz55_1 := blk_frozen BK1.out 1;have hfz55_2 := blk_frozen BK1.out 2)|((with_reducible refine gate_builtin (b := .append) (xs := #[.tmp 61, .tmp 66]) rfl ?_);at_builtin;refine Kd.R_append k31 (w0 := w) w.heap.size rfl (.tmp 61) (.tmp 66) 24 31 (.agg #[(.string ⟨#[]⟩), (.string ⟨#[]⟩), (.int .i64 0), (.int .i64 0), (.int .i64 0), (.int .i64 0), (.int .i64 0), (.int .i64 0), (.int .i64 0), (.int .i64 0), (.int .i64 0), (.int .i64 0)]) 112 rfl Try.underlying24 info31 rfl (by decide) (by omega) v29 t28 (⟨a1, a2, (⟨a3_0, a3_1, a3_2⟩ : S27), (⟨0, 0, 0⟩ : S27), (⟨0, 0, 0⟩ : S27), 1⟩ : S31) [.string a1, .string a2, .int .i64 a3_0, .int .i64 a3_1, .int .i64 a3_2, .int .i64 0, .int .i64 0, .int .i64 0, .int .i64 0, .int .i64 0, .int .i64 0, .int .i64 1] (fun _ => True) (fun _ => False) rfl rfl ?aP (fun _ hk => hk.elim) ?aF ?aO ?aB ?aS ?aL ?_;(case aP => exact k31_mkM _ _ _ (⟨a1, a2, (⟨a3_0, a3_1, a3_2⟩ : S27), (⟨0, 0, 0⟩ : S27), (⟨0, 0, 0⟩ : S27), 1⟩ : S31));(case aB => exact (by repeat (first|(with_reducible first|exact HB.out|apply below_alloc|apply pw_below_drewN|apply below_drew1|refine below_set ?_ GE1.out|refine below_set ?_ GE2.out)|exact HB.out)));(case aF => exact (fun _ _ => trivial));(case aO => exact (by (with_reducible repeat (first|apply Kd.R_alloc|apply Kd.R_drewN|apply Kd.R_drew));exact HO30.out));(case aS => exact (below_size (by repeat (first|(with_reducible first|exact HB.out|apply below_alloc|apply pw_below_drewN|apply below_drew1|refine below_set ?_ GE1.out|refine below_set ?_ GE2.out)|exact HB.out))));(case aL => have := LMc48.out;omega);intro v32 w56 ho hb hg hat;rw [← Ny31.out] at ho;have n0_ := Aside0.mk (blk_grown (g := gb1) (o := .cells #[.int .i64 a3_0, .int .i64 a3_1, .int .i64 a3_2] 27 (0, 0)) (by (with_reducible repeat (first|refine blk_drewN ?_ _|refine blk_drew ?_|refine blk_alloc ?_ _));exact BK1.out) hg (Kd.R_ne HO30.out BK1.out (by decide)));have n1_ := Aside0.mk (blk_grown (g := gb2) (o := .cells #[.slice none 0 0, .int .i64 0] 67 (0, 0)) (by (with_reducible repeat (first|refine blk_drewN ?_ _|refine blk_drew ?_|refine blk_alloc ?_ _));exact BK2.out) hg (Kd.R_ne HO30.out BK2.out (by decide)));have n2_ := Aside0.mk (hb);have n3_ := Aside0.mk (ho);clear BK1;clear BK2;clear HB;clear HO30;have BK1 := n0_;have BK2 := n1_;have HB := n2_;have HO33 := n3_;clear n0_ n1_ n2_ n3_;clear ho hb hg hat;have q57 : (x9_3 : Int) ≤ ((l0.length : Int) : Int) := of_decide_eq_true (by first|(with_reducible assumption)|assumption);obtain ⟨i057, hi057, _, hsz57, _⟩ := info_parts info31;have hroom57 : l0.length ≤ c0 := HC0.out;have hC57 : Kd.C k31 _ (some ad23) l0.length l0 := HR0.out;have q057 : (0 : Int) ≤ (x9_3 : Int) := of_decide_eq_true (by first|(with_reducible assumption)|assumption);have hcut57 := cut_from (P := Try.prog) 24 31 .i64 Try.underlying24 hi057 12 hsz57 (some ad23) l0.length c0 x9_3 q057 q57;have hr57 := Kd.C_drop (m := (x9_3 : Int).toNat) (c := c0) hC57 (by omega) hroom57;obtain ⟨A57, hA57⟩ : ∃ A1, A1 = (if c0 = (x9_3 : Int).toNat then (some ad23) else ((some ad23) : Option Addr).map (·.add ((x9_3 : Int).toNat * 12))) := ⟨_, rfl⟩;obtain ⟨c57, hc57⟩ : ∃ c1, c1 = c0 - (x9_3 : Int).toNat := ⟨_, rfl⟩;have hy57 : y34.length = l0.length - (x9_3 : Int).toNat := (by rw [Ny34.out, List.length_drop] <;> omega);rw [show (l0).drop (x9_3 : Int).toNat = y34 from Ny34.out.symm] at hr57;replace hr57 : Kd.C k31 _ A57 y34.length y34 := (by rw [hA57];exact hr57);rw [← hy57, ← hA57, ← hc57] at hcut57;have HR37 := Aside0.mk hr57;have HC37 := Aside0.mk (show y34.length ≤ c57 from by rw [hy57, hc57];exact Nat.sub_le_sub_right hroom57 _);clear hr57 hC57 hroom57 hi057 hsz57 hc57;have KY57 := Aside0.mk hy57;have KA57 := Aside0.mk hA57;clear hy57 hA57;replace q57 := eq_true q57)|((with_reducible refine gate_builtin (b := .append) (xs := #[.tmp 68, .tmp 71]) rfl ?_);at_builtin;refine Kd.R_append_rows k31 (w0 := w) w.heap.size rfl (.tmp 68) (.tmp 71) 24 31 (.agg #[(.string ⟨#[]⟩), (.string ⟨#[]⟩), (.int .i64 0), (.int .i64 0), (.int .i64 0), (.int .i64 0), (.int .i64 0), (.int .i64 0), (.int .i64 0), (.int .i64 0), (.int .i64 0), (.int .i64 0)]) 112 rfl Try.underlying24 info31 rfl (by decide) (by omega) v32 y31 y34 _ _ _ (fun _ => True) (fun _ => False) rfl rfl ?aO ?aR (fun _ _ h => h) (fun _ h => h.elim) ?aF ?aB ?aS ?aL ?_;(case aR => repeat (first|exact (Kd.C_below HR37.out HB.out)|(with_reducible refine Kd.C_alloc ?_ _)|(with_reducible refine Kd.C_drewN ?_ _)|(with_reducible refine Kd.C_drew ?_)));(case aB => exact (by repeat (first|(with_reducible first|exact HB.out|apply below_alloc|apply pw_below_drewN|apply below_drew1|refine below_set ?_ GE1.out|refine below_set ?_ GE2.out)|exact HB.out)));(case aF => exact (fun _ _ => trivial));(case aO => exact (by (with_reducible repeat (first|apply Kd.R_alloc|apply Kd.R_drewN|apply Kd.R_drew));exact HO33.out));(case aS => exact (below_size (by repeat (first|(with_reducible first|exact HB.out|apply below_alloc|apply pw_below_drewN|apply below_drew1|refine below_set ?_ GE1.out|refine below_set ?_ GE2.out)|exact HB.out))));(case aL => have := LMc51.out;omega);intro v39 w58 ho hb hg hat;rw [← Ny38.out] at ho;have n0_ := Aside0.mk (blk_grown (g := gb1) (o := .cells #[.int .i64 a3_0, .int .i64 a3_1, .int .i64 a3_2] 27 (0, 0)) (by (with_reducible repeat (first|refine blk_drewN ?_ _|refine blk_drew ?_|refine blk_alloc ?_ _));exact BK1.out) hg (Kd.R_ne HO33.out BK1.out (by decide)));have n1_ := Aside0.mk (blk_grown (g := gb2) (o := .cells #[.slice none 0 0, .int .i64 0] 67 (0, 0)) (by (with_reducible repeat (first|refine blk_drewN ?_ _|refine blk_drew ?_|refine blk_alloc ?_ _));exact BK2.out) hg (Kd.R_ne HO33.out BK2.out (by decide)));have n2_ := Aside0.mk (hb);have n3_ := Aside0.mk (ho);clear BK1;clear BK2;clear HB;clear HO33;have BK1 := n0_;have BK2 := n1_;have HB := n2_;have HO40 := n3_;clear n0_ n1_ n2_ n3_;clear ho hb hg hat;obtain ⟨Ao59, co59, eo59⟩ := Kd.R_slice HO40.out;subst eo59;have hcz60_0 : w58.cell? ⟨gb2, 0, none⟩ = some (.slice none 0 0) := (blk_cell BK2.out 0).trans rfl;have hcz60_1 : w58.cell? ⟨gb2, 1, none⟩ = some (.int .i64 0) := (blk_cell BK2.out 1).trans rfl;have hfz60_0 := blk_frozen BK2.out 0;have hfz60_1 := blk_frozen BK2.out 1))
                 refine bodyPost_ret (results_cell_row rfl _ _ gb2 67 #[.slice Ao59 y38.length co59, .int .i64 0] (0, 0) _ rfl (by (with_reducible repeat (first|refine blk_drewN ?_ _|refine blk_drew ?_|refine blk_alloc ?_ _));refine blk_put (cs := #[.slice Ao59 y38.length co59, .int .i64 0]) ?_ 1 _ rfl;(with_reducible repeat (first|refine blk_drewN ?_ _|refine blk_drew ?_|refine blk_alloc ?_ _));refine blk_put (cs := #[.slice none 0 0, .int .i64 0]) ?_ 0 _ rfl;(with_reducible repeat (first|refine blk_drewN ?_ _|refine blk_drew ?_|refine blk_alloc ?_ _));exact BK2.out) Try.underlying67 rfl (by kernel_rfl)) rfl ?_
                 exact ⟨_, by first|rfl|(simp [errW_none, errW_some] <;> rfl)|(simp [*, errW_none, errW_some] <;> rfl), by (with_reducible repeat (first|apply Kd.R_alloc|apply Kd.R_drewN|apply Kd.R_drew));exact Kd.R_mono (Kd.R_far (p := ⟨gb2, 1, none⟩) (Kd.R_far (p := ⟨gb2, 0, none⟩) (Kd.R_types HO40.out BK2.out (by decide)) (fun _ hk => hk.2) (.slice Ao59 y38.length co59)) (fun _ hk => hk.2) (.int .i64 0)) (fun _ hk => trivial), by repeat (first|(with_reducible first|exact HB.out|apply below_alloc|apply pw_below_drewN|apply below_drew1|refine below_set ?_ GE1.out|refine below_set ?_ GE2.out)|exact HB.out)⟩
                ·rw [if_neg c51] at H
                 exact absurd H (by simp)
               ·rw [if_neg c48] at H
                exact absurd H (by simp)
              ·rw [if_neg c46] at H
               exact absurd H (by simp)
            ·rw [if_neg c43] at H
             exact absurd H (by simp)
           ·rw [if_neg c42] at H
            have c42b0 : decide (x9_3 < (l0.length : Int)) = false := decide_eq_false c42
            clear c42
            by_cases c61 : 0 ≤ x9_3
            ·rw [if_pos c61] at H
             have c61b0 := eq_true c61
             have c61b1 : decide (0 ≤ x9_3) = true := decide_eq_true c61
             clear c61
             by_cases c62 : x9_3 ≤ (l0.length : Int)
             ·rw [if_pos c62] at H
              have c62b0 := eq_true c62
              have c62b1 : decide (x9_3 ≤ (l0.length : Int)) = true := decide_eq_true c62
              clear c62
              obtain ⟨y41, hy41⟩ : ∃ y_ : List (S31), y_ = (l0.take (x9_3 : Int).toNat) := ⟨_, rfl⟩
              replace H : ((r10_copied.f y41).bind fun t45 => (if t45.length < 1256584717458 then ((some (t45 ++ [(⟨a1, a2, (⟨a3_0, a3_1, a3_2⟩ : S27), (⟨0, 0, 0⟩ : S27), (⟨0, 0, 0⟩ : S27), 1⟩ : S31)] : List (S31))).bind fun y48 => ((some (l0.drop (x9_3 : Int).toNat : List (S31))).bind fun y51 => (if y48.length + y51.length < 1256584717458 then (some ((y48 ++ y51), 0)) else (none)))) else (none))) = some (r1, r2) := by first|(rw [hy41];with_reducible exact H)|(have H2_ := (Option.bind_some _ _).symm.trans H;rw [hy41];with_reducible exact H2_)|(have H2_ := (Option.bind_some _ _).symm.trans H;with_reducible exact H2_)|with_reducible exact H|(rw [hy41];exact H)|exact H
              have Ny41 := Aside0.mk hy41
              clear hy41
              replace H := Option.bind_eq_some_iff.mp H
              obtain ⟨t45, A630, H⟩ := H
              replace H : (if t45.length < 1256584717458 then ((some (t45 ++ [(⟨a1, a2, (⟨a3_0, a3_1, a3_2⟩ : S27), (⟨0, 0, 0⟩ : S27), (⟨0, 0, 0⟩ : S27), 1⟩ : S31)] : List (S31))).bind fun y48 => ((some (l0.drop (x9_3 : Int).toNat : List (S31))).bind fun y51 => (if y48.length + y51.length < 1256584717458 then (some ((y48 ++ y51), 0)) else (none)))) else (none)) = some (r1, r2) := H
              have A63 := Aside0.mk A630
              clear A630
              by_cases c64 : t45.length < 1256584717458
              ·rw [if_pos c64] at H
               have LMc64 := Aside0.mk c64
               clear c64
               obtain ⟨y48, hy48⟩ : ∃ y_ : List (S31), y_ = (t45 ++ [(⟨a1, a2, (⟨a3_0, a3_1, a3_2⟩ : S27), (⟨0, 0, 0⟩ : S27), (⟨0, 0, 0⟩ : S27), 1⟩ : S31)]) := ⟨_, rfl⟩
               replace H : ((some (l0.drop (x9_3 : Int).toNat : List (S31))).bind fun y51 => (if y48.length + y51.length < 1256584717458 then (some ((y48 ++ y51), 0)) else (none))) = some (r1, r2) := by first|(rw [hy48];with_reducible exact H)|(have H2_ := (Option.bind_some _ _).symm.trans H;rw [hy48];with_reducible exact H2_)|(have H2_ := (Option.bind_some _ _).symm.trans H;with_reducible exact H2_)|with_reducible exact H|(rw [hy48];exact H)|exact H
               have Ny48 := Aside0.mk hy48
               clear hy48
               have c65b0 := eq_true (of_decide_eq_true (by first|(with_reducible assumption)|assumption) : 0 ≤ x9_3)
               have c66b0 := eq_true (of_decide_eq_true (by first|(with_reducible assumption)|assumption) : x9_3 ≤ (l0.length : Int))
               obtain ⟨y51, hy51⟩ : ∃ y_ : List (S31), y_ = (l0.drop (x9_3 : Int).toNat) := ⟨_, rfl⟩
               replace H : (if y48.length + y51.length < 1256584717458 then (some ((y48 ++ y51), 0)) else (none)) = some (r1, r2) := by first|(rw [hy51];with_reducible exact H)|(have H2_ := (Option.bind_some _ _).symm.trans H;rw [hy51];with_reducible exact H2_)|(have H2_ := (Option.bind_some _ _).symm.trans H;with_reducible exact H2_)|with_reducible exact H|(rw [hy51];exact H)|exact H
               have Ny51 := Aside0.mk hy51
               clear hy51
               by_cases c67 : y48.length + y51.length < 1256584717458
               ·rw [if_pos c67] at H
                have LMc67 := Aside0.mk c67
                clear c67
                obtain ⟨y55, hy55⟩ : ∃ y_ : List (S31), y_ = (y48 ++ y51) := ⟨_, rfl⟩
                replace H : (some (y55, 0)) = some (r1, r2) := by first|(rw [hy55];with_reducible exact H)|(have H2_ := (Option.bind_some _ _).symm.trans H;rw [hy55];with_reducible exact H2_)|(have H2_ := (Option.bind_some _ _).symm.trans H;with_reducible exact H2_)|with_reducible exact H|(rw [hy55];exact H)|exact H
                have Ny55 := Aside0.mk hy55
                clear hy55
                simp only [Option.some.injEq, Prod.mk.injEq] at H
                obtain ⟨rfl, rfl⟩ := H
                have q68 : (x9_3 : Int) ≤ ((l0.length : Int) : Int) := of_decide_eq_true (by first|(with_reducible assumption)|assumption)
                obtain ⟨i068, hi068, _, hsz68, _⟩ := info_parts info31
                have hroom68 : l0.length ≤ c0 := HC0.out
                have hC68 : Kd.C k31 _ A0 l0.length l0 := HR0.out
                have hcut68 := cut_to (P := Try.prog) 24 31 .i64 Try.underlying24 hi068 A0 l0.length c0 x9_3 (of_decide_eq_true (by first|(with_reducible assumption)|assumption)) q68 hroom68
                have hr68 := Kd.C_take (m := (x9_3 : Int).toNat) hC68 (by omega)
                have hy68 : y41.length = (x9_3 : Int).toNat := (by rw [Ny41.out, List.length_take]; omega)
                rw [← Ny41.out] at hr68
                rw [← hy68] at hcut68
                have HR44 := Aside0.mk hr68
                have HC44 := Aside0.mk (show y41.length ≤ c0 from by omega)
                clear hr68 hC68 hroom68 hi068 hsz68
                have KY68 := Aside0.mk hy68
                clear hy68
                replace q68 := eq_true q68
                go_wp2_with (first|((with_reducible refine gate_callee (f := 124) rfl ?_);refine goesL_ (some 60) rfl rfl Try.func124 (by kernel_rfl) rfl #[.slice A0 y41.length c0] rfl (by (try simp only [List.map_toArray, List.map_cons, List.map_nil]);first|done|rfl|(simp only [List.length_drop, List.length_take];rfl)) ?_;(with_reducible refine (r10_copied.calls _ _ y41 t45 _ ?side1 ?side2 A63.out).mono ?_);(case side1 => repeat (first|exact (Kd.C_below HR44.out HB.out)|(with_reducible refine Kd.C_alloc ?_ _)|(with_reducible refine Kd.C_drewN ?_ _)|(with_reducible refine Kd.C_drew ?_)));(case side2 => exact HC44.out);rintro e w69 ⟨v46, rfl, ho0, hb⟩;refine ⟨_, rfl, ?_⟩;have n0_ := Aside0.mk (Kd.R_lower ho0 (below_size (by repeat (first|(with_reducible first|exact HB.out|apply below_alloc|apply pw_below_drewN|apply below_drew1|refine below_set ?_ GE1.out|refine below_set ?_ GE2.out)|exact HB.out))));have n1_ := Aside0.mk (blk_below (g := gb1) (o := .cells #[.int .i64 a3_0, .int .i64 a3_1, .int .i64 a3_2] 27 (0, 0)) (by (with_reducible repeat (first|refine blk_drewN ?_ _|refine blk_drew ?_|refine blk_alloc ?_ _));exact BK1.out) hb);have n2_ := Aside0.mk (blk_below (g := gb2) (o := .cells #[.slice none 0 0, .int .i64 0] 67 (0, 0)) (by (with_reducible repeat (first|refine blk_drewN ?_ _|refine blk_drew ?_|refine blk_alloc ?_ _));exact BK2.out) hb);have n3_ := Aside0.mk (below_step (by repeat (first|(with_reducible first|exact HB.out|apply below_alloc|apply pw_below_drewN|apply below_drew1|refine below_set ?_ GE1.out|refine below_set ?_ GE2.out)|exact HB.out)) hb);clear BK1;clear BK2;clear HB;have HO47 := n0_;have BK1 := n1_;have BK2 := n2_;have HB := n3_;clear n0_ n1_ n2_ n3_;(try clear hb);(try clear hb2);(try clear hk);(try clear hi);(try clear ho0);have hnb70 := NB1_2.out;have hnc70 := NB2_1.out;have hcz71_0 : w69.cell? ⟨gb1, 0, none⟩ = some (.int .i64 a3_0) := (blk_cell BK1.out 0).trans rfl;have hcz71_1 : w69.cell? ⟨gb1, 1, none⟩ = some (.int .i64 a3_1) := (blk_cell BK1.out 1).trans rfl;have hcz71_2 : w69.cell? ⟨gb1, 2, none⟩ = some (.int .i64 a3_2) := (blk_cell BK1.out 2).trans rfl;have hfz71_0 := blk_frozen BK1.out 0;have hfz71_1 := blk_frozen BK1.out 1;have hfz71_2 := blk_frozen BK1.out 2)|((with_reducible refine gate_builtin (b := .append) (xs := #[.tmp 61, .tmp 66]) rfl ?_);at_builtin;refine Kd.R_append k31 (w0 := w) w.heap.size rfl (.tmp 61) (.tmp 66) 24 31 (.agg #[(.string ⟨#[]⟩), (.string ⟨#[]⟩), (.int .i64 0), (.int .i64 0), (.int .i64 0), (.int .i64 0), (.int .i64 0), (.int .i64 0), (.int .i64 0), (.int .i64 0), (.int .i64 0), (.int .i64 0)]) 112 rfl Try.underlying24 info31 rfl (by decide) (by omega) v46 t45 (⟨a1, a2, (⟨a3_0, a3_1, a3_2⟩ : S27), (⟨0, 0, 0⟩ : S27), (⟨0, 0, 0⟩ : S27), 1⟩ : S31) [.string a1, .string a2, .int .i64 a3_0, .int .i64 a3_1, .int .i64 a3_2, .int .i64 0, .int .i64 0, .int .i64 0, .int .i64 0, .int .i64 0, .int .i64 0, .int .i64 1] (fun _ => True) (fun _ => False) rfl rfl ?aP (fun _ hk => hk.elim) ?aF ?aO ?aB ?aS ?aL ?_;(case aP => exact k31_mkM _ _ _ (⟨a1, a2, (⟨a3_0, a3_1, a3_2⟩ : S27), (⟨0, 0, 0⟩ : S27), (⟨0, 0, 0⟩ : S27), 1⟩ : S31));(case aB => exact (by repeat (first|(with_reducible first|exact HB.out|apply below_alloc|apply pw_below_drewN|apply below_drew1|refine below_set ?_ GE1.out|refine below_set ?_ GE2.out)|exact HB.out)));(case aF => exact (fun _ _ => trivial));(case aO => exact (by (with_reducible repeat (first|apply Kd.R_alloc|apply Kd.R_drewN|apply Kd.R_drew));exact HO47.out));(case aS => exact (below_size (by repeat (first|(with_reducible first|exact HB.out|apply below_alloc|apply pw_below_drewN|apply below_drew1|refine below_set ?_ GE1.out|refine below_set ?_ GE2.out)|exact HB.out))));(case aL => have := LMc64.out;omega);intro v49 w72 ho hb hg hat;rw [← Ny48.out] at ho;have n0_ := Aside0.mk (blk_grown (g := gb1) (o := .cells #[.int .i64 a3_0, .int .i64 a3_1, .int .i64 a3_2] 27 (0, 0)) (by (with_reducible repeat (first|refine blk_drewN ?_ _|refine blk_drew ?_|refine blk_alloc ?_ _));exact BK1.out) hg (Kd.R_ne HO47.out BK1.out (by decide)));have n1_ := Aside0.mk (blk_grown (g := gb2) (o := .cells #[.slice none 0 0, .int .i64 0] 67 (0, 0)) (by (with_reducible repeat (first|refine blk_drewN ?_ _|refine blk_drew ?_|refine blk_alloc ?_ _));exact BK2.out) hg (Kd.R_ne HO47.out BK2.out (by decide)));have n2_ := Aside0.mk (hb);have n3_ := Aside0.mk (ho);clear BK1;clear BK2;clear HB;clear HO47;have BK1 := n0_;have BK2 := n1_;have HB := n2_;have HO50 := n3_;clear n0_ n1_ n2_ n3_;clear ho hb hg hat;have q73 : (x9_3 : Int) ≤ ((l0.length : Int) : Int) := of_decide_eq_true (by first|(with_reducible assumption)|assumption);obtain ⟨i073, hi073, _, hsz73, _⟩ := info_parts info31;have hroom73 : l0.length ≤ c0 := HC0.out;have hC73 : Kd.C k31 _ A0 l0.length l0 := HR0.out;have q073 : (0 : Int) ≤ (x9_3 : Int) := of_decide_eq_true (by first|(with_reducible assumption)|assumption);have hcut73 := cut_from (P := Try.prog) 24 31 .i64 Try.underlying24 hi073 12 hsz73 A0 l0.length c0 x9_3 q073 q73;have hr73 := Kd.C_drop (m := (x9_3 : Int).toNat) (c := c0) hC73 (by omega) hroom73;obtain ⟨A73, hA73⟩ : ∃ A1, A1 = (if c0 = (x9_3 : Int).toNat then A0 else (A0 : Option Addr).map (·.add ((x9_3 : Int).toNat * 12))) := ⟨_, rfl⟩;obtain ⟨c73, hc73⟩ : ∃ c1, c1 = c0 - (x9_3 : Int).toNat := ⟨_, rfl⟩;have hy73 : y51.length = l0.length - (x9_3 : Int).toNat := (by rw [Ny51.out, List.length_drop] <;> omega);rw [show (l0).drop (x9_3 : Int).toNat = y51 from Ny51.out.symm] at hr73;replace hr73 : Kd.C k31 _ A73 y51.length y51 := (by rw [hA73];exact hr73);rw [← hy73, ← hA73, ← hc73] at hcut73;have HR54 := Aside0.mk hr73;have HC54 := Aside0.mk (show y51.length ≤ c73 from by rw [hy73, hc73];exact Nat.sub_le_sub_right hroom73 _);clear hr73 hC73 hroom73 hi073 hsz73 hc73;have KY73 := Aside0.mk hy73;have KA73 := Aside0.mk hA73;clear hy73 hA73;replace q73 := eq_true q73)|((with_reducible refine gate_builtin (b := .append) (xs := #[.tmp 68, .tmp 71]) rfl ?_);at_builtin;refine Kd.R_append_rows k31 (w0 := w) w.heap.size rfl (.tmp 68) (.tmp 71) 24 31 (.agg #[(.string ⟨#[]⟩), (.string ⟨#[]⟩), (.int .i64 0), (.int .i64 0), (.int .i64 0), (.int .i64 0), (.int .i64 0), (.int .i64 0), (.int .i64 0), (.int .i64 0), (.int .i64 0), (.int .i64 0)]) 112 rfl Try.underlying24 info31 rfl (by decide) (by omega) v49 y48 y51 _ _ _ (fun _ => True) (fun _ => False) rfl rfl ?aO ?aR (fun _ _ h => h) (fun _ h => h.elim) ?aF ?aB ?aS ?aL ?_;(case aR => repeat (first|exact (Kd.C_below HR54.out HB.out)|(with_reducible refine Kd.C_alloc ?_ _)|(with_reducible refine Kd.C_drewN ?_ _)|(with_reducible refine Kd.C_drew ?_)));(case aB => exact (by repeat (first|(with_reducible first|exact HB.out|apply below_alloc|apply pw_below_drewN|apply below_drew1|refine below_set ?_ GE1.out|refine below_set ?_ GE2.out)|exact HB.out)));(case aF => exact (fun _ _ => trivial));(case aO => exact (by (with_reducible repeat (first|apply Kd.R_alloc|apply Kd.R_drewN|apply Kd.R_drew));exact HO50.out));(case aS => exact (below_size (by repeat (first|(with_reducible first|exact HB.out|apply below_alloc|apply pw_below_drewN|apply below_drew1|refine below_set ?_ GE1.out|refine below_set ?_ GE2.out)|exact HB.out))));(case aL => have := LMc67.out;omega);intro v56 w74 ho hb hg hat;rw [← Ny55.out] at ho;have n0_ := Aside0.mk (blk_grown (g := gb1) (o := .cells #[.int .i64 a3_0, .int .i64 a3_1, .int .i64 a3_2] 27 (0, 0)) (by (with_reducible repeat (first|refine blk_drewN ?_ _|refine blk_drew ?_|refine blk_alloc ?_ _));exact BK1.out) hg (Kd.R_ne HO50.out BK1.out (by decide)));have n1_ := Aside0.mk (blk_grown (g := gb2) (o := .cells #[.slice none 0 0, .int .i64 0] 67 (0, 0)) (by (with_reducible repeat (first|refine blk_drewN ?_ _|refine blk_drew ?_|refine blk_alloc ?_ _));exact BK2.out) hg (Kd.R_ne HO50.out BK2.out (by decide)));have n2_ := Aside0.mk (hb);have n3_ := Aside0.mk (ho);clear BK1;clear BK2;clear HB;clear HO50;have BK1 := n0_;have BK2 := n1_;have HB := n2_;have HO57 := n3_;clear n0_ n1_ n2_ n3_;clear ho hb hg hat;obtain ⟨Ao75, co75, eo75⟩ := Kd.R_slice HO57.out;subst eo75;have hcz76_0 : w74.cell? ⟨gb2, 0, none⟩ = some (.slice none 0 0) := (blk_cell BK2.out 0).trans rfl;have hcz76_1 : w74.cell? ⟨gb2, 1, none⟩ = some (.int .i64 0) := (blk_cell BK2.out 1).trans rfl;have hfz76_0 := blk_frozen BK2.out 0;have hfz76_1 := blk_frozen BK2.out 1))
                refine bodyPost_ret (results_cell_row rfl _ _ gb2 67 #[.slice Ao75 y55.length co75, .int .i64 0] (0, 0) _ rfl (by (with_reducible repeat (first|refine blk_drewN ?_ _|refine blk_drew ?_|refine blk_alloc ?_ _));refine blk_put (cs := #[.slice Ao75 y55.length co75, .int .i64 0]) ?_ 1 _ rfl;(with_reducible repeat (first|refine blk_drewN ?_ _|refine blk_drew ?_|refine blk_alloc ?_ _));refine blk_put (cs := #[.slice none 0 0, .int .i64 0]) ?_ 0 _ rfl;(with_reducible repeat (first|refine blk_drewN ?_ _|refine blk_drew ?_|refine blk_alloc ?_ _));exact BK2.out) Try.underlying67 rfl (by kernel_rfl)) rfl ?_
                exact ⟨_, by first|rfl|(simp [errW_none, errW_some] <;> rfl)|(simp [*, errW_none, errW_some] <;> rfl), by (with_reducible repeat (first|apply Kd.R_alloc|apply Kd.R_drewN|apply Kd.R_drew));exact Kd.R_mono (Kd.R_far (p := ⟨gb2, 1, none⟩) (Kd.R_far (p := ⟨gb2, 0, none⟩) (Kd.R_types HO57.out BK2.out (by decide)) (fun _ hk => hk.2) (.slice Ao75 y55.length co75)) (fun _ hk => hk.2) (.int .i64 0)) (fun _ hk => trivial), by repeat (first|(with_reducible first|exact HB.out|apply below_alloc|apply pw_below_drewN|apply below_drew1|refine below_set ?_ GE1.out|refine below_set ?_ GE2.out)|exact HB.out)⟩
               ·rw [if_neg c67] at H
                exact absurd H (by simp)
              ·rw [if_neg c64] at H
               exact absurd H (by simp)
             ·rw [if_neg c62] at H
              exact absurd H (by simp)
            ·rw [if_neg c61] at H
             exact absurd H (by simp)
end Go.Proofs.Ytcgefpklljclgaa.Print
