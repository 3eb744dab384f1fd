/- A part of the proof of RoomAll: the machine's side by the kit's print, contracts and lemmas by this session. -/
import Derived.Shelf.Abstract
import Derived.Test.YtcgefpklljclgaaBRoomAll1
import Derived.Test.YtcgefpklljclgaaBRoomAll2
namespace Go.Proofs.Ytcgefpklljclgaa.Print
open Go.RowKit Go.Proofs.YtcgefpklljclgaaW.PrintWords Go.Proofs.YtcgefpklljclgaaW.PrintLast Go.Proofs.YtcgefpklljclgaaW.PrintMore
attribute [local go_sem] max2_int min2_int max_two min_two max_three min_three max_four min_four   -- for this text's walks alone
set_option linter.unusedVariables false
set_option linter.unusedSimpArgs false
/-! ### room_Tight: function 64 -/
def room_Tight.l0 : Nat → List ByteArray → List (S31) → Int → Int → List (S31) → Int → Int → Int → Option (List ByteArray)
 | 0, _, _, _, _, _, _, _, _ => none
 | k + 1, x6, x14, x15, x16, x8000, x8001, x8002, x8003 => if x16 < x15 then (if 0 ≤ x16 then (if x16 < (x14.length : Int) then ((room_looker_tight.f x8000 x8001 x8002 x8003 ((rd_T31 x14 x16).f0) ((rd_T31 x14 x16).f1) ((rd_T31 x14 x16).f2.f0) ((rd_T31 x14 x16).f2.f1) ((rd_T31 x14 x16).f2.f2) ((rd_T31 x14 x16).f3.f0) ((rd_T31 x14 x16).f3.f1) ((rd_T31 x14 x16).f3.f2) ((rd_T31 x14 x16).f4.f0) ((rd_T31 x14 x16).f4.f1) ((rd_T31 x14 x16).f4.f2) ((rd_T31 x14 x16).f5)).bind fun t10 => (if t10 = true then (if x6.length < 8796093022208 then (room_Tight.l0 k (x6 ++ [(rd_T31 x14 x16).f0]) x14 x15 (wrap64 (x16 + 1)) x8000 x8001 x8002 x8003) else (none)) else (room_Tight.l0 k x6 x14 x15 (wrap64 (x16 + 1)) x8000 x8001 x8002 x8003))) else (none)) else (none)) else (some x6)
def room_Tight.f (k : Nat) (l0 : List (S31)) (a1 : ByteArray) : Option (List ByteArray) := (room_made.f k l0 a1).bind fun bt1 => (room_Tight.l0 k ([] : List ByteArray) bt1.1 (bt1.1.length : Int) 0 bt1.1 bt1.2.1 bt1.2.2.1 bt1.2.2.2)
theorem room_Tight.mono_l : ∀ k, (∀ y0 y1 y2 y3 y4 y5 y6 y7, LeO (room_Tight.l0 k y0 y1 y2 y3 y4 y5 y6 y7) (room_Tight.l0 (k + 1) y0 y1 y2 y3 y4 y5 y6 y7))
 | 0 => fun _ _ _ _ _ _ _ _ r h => by simp [room_Tight.l0] at h
 | k + 1 => by
  have ih0 := room_Tight.mono_l k
  ·intro y0 y1 y2 y3 y4 y5 y6 y7
   unfold room_Tight.l0
   repeat' first
   | (with_reducible exact ih0 _ _ _ _ _ _ _ _)
   | (with_reducible exact room_made.mono _ _ _)
   | (with_reducible exact LeO.refl _)
   | (with_reducible exact LeO.none _)
   | (with_reducible refine LeO.ite ?_ ?_)
   | (with_reducible refine LeO.bind ?_ (fun _ => ?_))
   | exact ih0 _ _ _ _ _ _ _ _
   | exact room_made.mono _ _ _
   | exact LeO.none _
   | refine LeO.ite ?_ ?_
   | refine LeO.bind ?_ (fun _ => ?_)
theorem room_Tight.mono : ∀ a0 a1 k, LeO (room_Tight.f k a0 a1) (room_Tight.f (k + 1) a0 a1) := by
 intro a0 a1 k
 have ih0 := room_Tight.mono_l k
 unfold room_Tight.f
 repeat' first
   | (with_reducible exact ih0 _ _ _ _ _ _ _ _)
   | (with_reducible exact room_made.mono _ _ _)
   | (with_reducible exact LeO.refl _)
   | (with_reducible exact LeO.none _)
   | (with_reducible refine LeO.ite ?_ ?_)
   | (with_reducible refine LeO.bind ?_ (fun _ => ?_))
   | exact ih0 _ _ _ _ _ _ _ _
   | exact room_made.mono _ _ _
   | exact LeO.none _
   | refine LeO.ite ?_ ?_
   | refine LeO.bind ?_ (fun _ => ?_)
set_option maxHeartbeats 8000000 in
set_option maxRecDepth 100000 in
theorem room_Tight.calls (k : Nat) (A0 : Option Addr) (c0 : Nat) (l0 : List (S31)) (a1 : ByteArray) (r : List ByteArray) (w : World) (hr0 : Kd.C k31 w A0 l0.length l0) (hc0 : l0.length ≤ c0) (h : room_Tight.f k l0 a1 = some r) :
  Calls Try.prog 64 #[.slice A0 l0.length c0, .string a1] w fun e w' => ∃ v0_ : Value, e = .returned (v0_) ∧ Kd.R Kd.string 9 w' w.heap.size (fun _ => True) v0_ r ∧ Below w.heap.size w w' := by
 have hu127 := Try.underlying127
 have hu31 := Try.underlying31
 have HR0 := Aside0.mk hr0
 have HC0 := Aside0.mk hc0
 clear hr0 hc0
 have HB := Aside0.mk (Below.refl w.heap.size w)
 have H : ((room_made.f k l0 a1).bind fun bt1 => (room_Tight.l0 k ([] : List ByteArray) bt1.1 (bt1.1.length : Int) 0 bt1.1 bt1.2.1 bt1.2.2.1 bt1.2.2.2)) = some r := h
 clear h
 replace H := Option.bind_eq_some_iff.mp H
 obtain ⟨⟨t1, t4, t5, t6⟩, A30, H⟩ := H
 replace H : (room_Tight.l0 k ([] : List ByteArray) t1 (t1.length : Int) 0 t1 t4 t5 t6) = some r := H
 have A3 := Aside0.mk A30
 clear A30
 have H' := Aside0.mk H
 clear H
 go_enter Try.func64, Try.ntmps64
 go_wp2_with (first|((with_reducible refine gate_callee (f := 104) rfl ?_);refine goesL_ (some 11) rfl rfl Try.func104 (by kernel_rfl) rfl #[.slice A0 l0.length c0, .string a1] rfl (by (try simp only [List.map_toArray, List.map_cons, List.map_nil]);first|done|rfl|(simp only [List.length_drop, List.length_take];rfl)) ?_;(with_reducible refine (room_made.calls k _ _ l0 a1 t1 t4 t5 t6 _ ?side1 ?side2 A3.out).mono ?_);(case side1 => repeat (first|exact HR0.out|(with_reducible refine Kd.C_alloc ?_ _)|(with_reducible refine Kd.C_drewN ?_ _)|(with_reducible refine Kd.C_drew ?_)));(case side2 => exact HC0.out);rintro e w4 ⟨v2, rfl, ho0, hb⟩;refine ⟨_, rfl, ?_⟩;have n0_ := Aside0.mk (Kd.R_lower ho0 (below_size (by repeat (first|(with_reducible first|exact HB.out|apply below_alloc|apply pw_below_drewN|apply below_drew1)|exact HB.out))));have n1_ := Aside0.mk (below_step (by repeat (first|(with_reducible first|exact HB.out|apply below_alloc|apply pw_below_drewN|apply below_drew1)|exact HB.out)) hb);clear HB;have HO3 := n0_;have HB := n1_;clear n0_ n1_;(try clear hb);(try clear hb2);(try clear hk);(try clear hi);(try clear ho0))|((with_reducible refine gate_dst (N := 5) rfl ?_);refine box_event ?hg (N := 5) ?hd (cs := #[.slice none 0 0, .int .i64 0, .int .i64 0, .int .i64 0]) (t := 127) ?hr ?_;(case hd => rfl);(case hg => rfl);(case hr => first|(go_simp;done)|(go_simp;rfl));intro gb7 hg w5 hbox hb;have n0_ := Aside0.mk (Kd.R_below (by (with_reducible repeat (first|apply Kd.R_alloc|apply Kd.R_drewN|apply Kd.R_drew));exact HO3.out) hb);have n1_ := Aside0.mk (below_step (by repeat (first|(with_reducible first|exact HB.out|apply below_alloc|apply pw_below_drewN|apply below_drew1)|exact HB.out)) hb);have n2_ := Aside0.mk (hbox);have n3_ := Aside0.mk ((by rw [hg];exact (below_size (by repeat (first|(with_reducible first|exact HB.out|apply below_alloc|apply pw_below_drewN|apply below_drew1)|exact HB.out))) : w.heap.size ≤ gb7));have n4_ := Aside0.mk ((by rw [hg];exact (below_size (by repeat (first|(with_reducible first|exact HB.out|apply below_alloc|apply pw_below_drewN|apply below_drew1)|exact HB.out))) : w.heap.size ≤ gb7));clear HO3;clear HB;have HO3 := n0_;have HB := n1_;have BK7 := n2_;have GW7 := n3_;have GE7 := n4_;clear n0_ n1_ n2_ n3_ n4_;clear hb hbox hg;obtain ⟨Ao6, co6, eo6⟩ := Kd.R_slice HO3.out;subst eo6;have hcz7_0 : w5.cell? ⟨gb7, 0, none⟩ = some (.slice none 0 0) := (blk_cell BK7.out 0).trans rfl;have hcz7_1 : w5.cell? ⟨gb7, 1, none⟩ = some (.int .i64 0) := (blk_cell BK7.out 1).trans rfl;have hcz7_2 : w5.cell? ⟨gb7, 2, none⟩ = some (.int .i64 0) := (blk_cell BK7.out 2).trans rfl;have hcz7_3 : w5.cell? ⟨gb7, 3, none⟩ = some (.int .i64 0) := (blk_cell BK7.out 3).trans rfl;have hfz7_0 := blk_frozen BK7.out 0;have hfz7_1 := blk_frozen BK7.out 1;have hfz7_2 := blk_frozen BK7.out 2;have hfz7_3 := blk_frozen BK7.out 3))
 go_loopg [6, 16] k (fun kq v6 v16 w' => ∃ (x6_1 : List ByteArray) (x16_1 : Int), v16 = .int .i64 x16_1 ∧ Aside0 (room_Tight.l0 kq x6_1 t1 (t1.length : Int) x16_1 t1 t4 t5 t6 = some r) ∧ Aside0 (kq ≤ k) ∧ Aside0 (Kd.R Kd.string 9 w' w.heap.size (fun _ => True) v6 x6_1) ∧ Aside0 (Kd.R k31 31 w' w.heap.size (fun _ => True) (.slice Ao6 t1.length co6) t1) ∧ Aside0 (Kd.R k31 31 w' w.heap.size (fun _ => True) (.slice Ao6 t1.length co6) t1) ∧ Aside0 (w'.heap[gb7]? = some (.cells #[(.slice Ao6 t1.length co6), .int .i64 t4, .int .i64 t5, .int .i64 t6] 127 (0, 0))) ∧ Aside0 (Below w.heap.size w w'))
 case atStart => exact ⟨(([] : List ByteArray)), (0), (by first|rfl|(simp;done)|(simp [*];done)), H', ⟨Nat.le_refl _⟩, ⟨by first|exact Kd.R_nil _ _ _ _ _|exact Kd.N_nil _ _ _ _ _|exact Kd.V_nil _ _ _ _ _|exact Kd.Q_nil _ _ _ _ _|exact Kd.S_nil _ _ _ _ _⟩, ⟨by (with_reducible repeat (first|apply Kd.R_alloc|apply Kd.R_drewN|apply Kd.R_drew));exact Kd.R_mono (Kd.R_far (p := ⟨gb7, 3, none⟩) (Kd.R_far (p := ⟨gb7, 2, none⟩) (Kd.R_far (p := ⟨gb7, 1, none⟩) (Kd.R_far (p := ⟨gb7, 0, none⟩) (Kd.R_types HO3.out BK7.out (by decide)) (fun _ hk => hk.2) (.slice Ao6 t1.length co6)) (fun _ hk => hk.2) (.int .i64 t4)) (fun _ hk => hk.2) (.int .i64 t5)) (fun _ hk => hk.2) (.int .i64 t6)) (fun _ hk => trivial)⟩, ⟨by (with_reducible repeat (first|apply Kd.R_alloc|apply Kd.R_drewN|apply Kd.R_drew));exact Kd.R_mono (Kd.R_far (p := ⟨gb7, 3, none⟩) (Kd.R_far (p := ⟨gb7, 2, none⟩) (Kd.R_far (p := ⟨gb7, 1, none⟩) (Kd.R_far (p := ⟨gb7, 0, none⟩) (Kd.R_types HO3.out BK7.out (by decide)) (fun _ hk => hk.2) (.slice Ao6 t1.length co6)) (fun _ hk => hk.2) (.int .i64 t4)) (fun _ hk => hk.2) (.int .i64 t5)) (fun _ hk => hk.2) (.int .i64 t6)) (fun _ hk => trivial)⟩, ⟨by (with_reducible repeat (first|refine blk_drewN ?_ _|refine blk_drew ?_|refine blk_alloc ?_ _));refine blk_put (cs := #[.slice Ao6 t1.length co6, .int .i64 t4, .int .i64 t5, .int .i64 0]) ?_ 3 _ rfl;(with_reducible repeat (first|refine blk_drewN ?_ _|refine blk_drew ?_|refine blk_alloc ?_ _));refine blk_put (cs := #[.slice Ao6 t1.length co6, .int .i64 t4, .int .i64 0, .int .i64 0]) ?_ 2 _ rfl;(with_reducible repeat (first|refine blk_drewN ?_ _|refine blk_drew ?_|refine blk_alloc ?_ _));refine blk_put (cs := #[.slice Ao6 t1.length co6, .int .i64 0, .int .i64 0, .int .i64 0]) ?_ 1 _ rfl;(with_reducible repeat (first|refine blk_drewN ?_ _|refine blk_drew ?_|refine blk_alloc ?_ _));refine blk_put (cs := #[.slice none 0 0, .int .i64 0, .int .i64 0, .int .i64 0]) ?_ 0 _ rfl;(with_reducible repeat (first|refine blk_drewN ?_ _|refine blk_drew ?_|refine blk_alloc ?_ _));exact BK7.out⟩, ⟨by repeat (first|(with_reducible first|exact HB.out|apply below_alloc|apply pw_below_drewN|apply below_drew1|refine below_set ?_ GE7.out)|exact HB.out)⟩⟩
 case round =>
  clear H'
  try clear c1
  try clear p2
  try clear c6
  try clear hcz7_0
  try clear hcz7_1
  try clear hcz7_2
  try clear hcz7_3
  try clear hfz7_0
  try clear hfz7_1
  try clear hfz7_2
  try clear hfz7_3
  obtain ⟨x6_1, x16_1, rfl, HA, HK1, HO_6, HO_14, HO_8000, BK7, HB⟩ := hrel
  cases gk with
  | zero => exact absurd HA.out (by simp [room_Tight.l0])
  | succ k1 =>
   have H := HA.out
   clear HA
   simp only [room_Tight.l0] at H
   by_cases c8 : x16_1 < (t1.length : Int)
   ·rw [if_pos c8] at H
    have c8b0 : decide (x16_1 < (t1.length : Int)) = true := decide_eq_true c8
    clear c8
    by_cases c9 : 0 ≤ x16_1
    ·rw [if_pos c9] at H
     have c9b0 : decide (0 ≤ x16_1) = true := decide_eq_true c9
     clear c9
     by_cases c10 : x16_1 < (t1.length : Int)
     ·rw [if_pos c10] at H
      have c10b0 : decide (x16_1 < (t1.length : Int)) = true := decide_eq_true c10
      clear c10
      replace H := Option.bind_eq_some_iff.mp H
      obtain ⟨t10, A110, H⟩ := H
      replace H : (if t10 = true then (if x6_1.length < 8796093022208 then (room_Tight.l0 k1 (x6_1 ++ [(rd_T31 t1 x16_1).f0]) t1 (t1.length : Int) (wrap64 (x16_1 + 1)) t1 t4 t5 t6) else (none)) else (room_Tight.l0 k1 x6_1 t1 (t1.length : Int) (wrap64 (x16_1 + 1)) t1 t4 t5 t6)) = some r := H
      have A11 := Aside0.mk A110
      clear A110
      by_cases c12 : t10 = true
      ·subst c12
       have H1 : (if x6_1.length < 8796093022208 then (room_Tight.l0 k1 (x6_1 ++ [(rd_T31 t1 x16_1).f0]) t1 (t1.length : Int) (wrap64 (x16_1 + 1)) t1 t4 t5 t6) else (none)) = some r := by rw [if_pos rfl] at H; exact H
       clear H
       have H := H1
       clear H1
       by_cases c13 : x6_1.length < 8796093022208
       ·rw [if_pos c13] at H
        have LMc13 := Aside0.mk c13
        clear c13
        obtain ⟨y11, hy11⟩ : ∃ y_ : List ByteArray, y_ = (x6_1 ++ [(rd_T31 t1 x16_1).f0]) := ⟨_, rfl⟩
        replace H : (room_Tight.l0 k1 y11 t1 (t1.length : Int) (wrap64 (x16_1 + 1)) t1 t4 t5 t6) = some r := by first|(rw [hy11];with_reducible exact H)|(have H2_ := (Option.bind_some _ _).symm.trans H;rw [hy11];with_reducible exact H2_)|(have H2_ := (Option.bind_some _ _).symm.trans H;with_reducible exact H2_)|with_reducible exact H|(rw [hy11];exact H)|exact H
        have Ny11 := Aside0.mk hy11
        clear hy11
        have H' := Aside0.mk H
        clear H
        have p8 : 0 ≤ (x16_1 : Int) := of_decide_eq_true (by first|(with_reducible assumption)|assumption)
        have q8 : x16_1 < (t1.length : Int) := of_decide_eq_true (by first|(with_reducible assumption)|assumption)
        obtain ⟨ad8, e8, hx8_0, hx8_1, hx8_2, hx8_3, hx8_4, hx8_5, hx8_6, hx8_7, hx8_8, hx8_9, hx8_10, hx8_11⟩ := at_T31 (Kd.R_reads' HO_14.out).2.2 x16_1 p8 q8
        cases e8
        replace p8 := eq_true p8
        replace q8 := eq_true q8
        go_wp2_with (first|((with_reducible refine gate_dst (N := 8) rfl ?_);refine box_event ?hg (N := 8) ?hd (cs := #[.string (⟨#[]⟩ : ByteArray), .string (⟨#[]⟩ : ByteArray), .int .i64 0, .int .i64 0, .int .i64 0, .int .i64 0, .int .i64 0, .int .i64 0, .int .i64 0, .int .i64 0, .int .i64 0, .int .i64 0]) (t := 31) ?hr ?_;(case hd => rfl);(case hg => rfl);(case hr => first|(go_simp;done)|(go_simp;rfl));intro gb9 hg w14 hbox hb;have n0_ := Aside0.mk (Kd.R_below (by (with_reducible repeat (first|apply Kd.R_alloc|apply Kd.R_drewN|apply Kd.R_drew));exact HO_6.out) hb);have n1_ := Aside0.mk (Kd.R_below (Kd.R_elderB (by (with_reducible repeat (first|apply Kd.R_alloc|apply Kd.R_drewN|apply Kd.R_drew));exact HO_14.out) gb9 (Nat.le_of_eq hg.symm)) hb);have n2_ := Aside0.mk (Kd.R_below (Kd.R_elderB (by (with_reducible repeat (first|apply Kd.R_alloc|apply Kd.R_drewN|apply Kd.R_drew));exact HO_8000.out) gb9 (Nat.le_of_eq hg.symm)) hb);have n3_ := Aside0.mk (blk_below (g := gb7) (o := .cells #[.slice (some ad8) t1.length co6, .int .i64 t4, .int .i64 t5, .int .i64 t6] 127 (0, 0)) (by (with_reducible repeat (first|refine blk_drewN ?_ _|refine blk_drew ?_|refine blk_alloc ?_ _));exact BK7.out) hb);have n4_ := Aside0.mk (below_step (by repeat (first|(with_reducible first|exact HB.out|apply below_alloc|apply pw_below_drewN|apply below_drew1|refine below_set ?_ GE7.out)|exact HB.out)) hb);have n5_ := Aside0.mk (hbox);have n6_ := Aside0.mk ((by rw [hg];exact (below_size (by repeat (first|(with_reducible first|exact HB.out|apply below_alloc|apply pw_below_drewN|apply below_drew1|refine below_set ?_ GE7.out)|exact HB.out))) : w.heap.size ≤ gb9));have n7_ := Aside0.mk ((by rw [hg];exact (below_size (by repeat (first|(with_reducible first|exact HB.out|apply below_alloc|apply pw_below_drewN|apply below_drew1|refine below_set ?_ GE7.out)|exact HB.out))) : w.heap.size ≤ gb9));have n8_ := Aside0.mk ((by rw [hg];exact Nat.ne_of_lt (blk_lt (g := gb7) (o := .cells #[.slice (some ad8) t1.length co6, .int .i64 t4, .int .i64 t5, .int .i64 t6] 127 (0, 0)) (by (with_reducible repeat (first|refine blk_drewN ?_ _|refine blk_drew ?_|refine blk_alloc ?_ _));exact BK7.out)) : gb7 ≠ gb9));have n9_ := Aside0.mk ((by rw [hg];exact Nat.ne_of_gt (blk_lt (g := gb7) (o := .cells #[.slice (some ad8) t1.length co6, .int .i64 t4, .int .i64 t5, .int .i64 t6] 127 (0, 0)) (by (with_reducible repeat (first|refine blk_drewN ?_ _|refine blk_drew ?_|refine blk_alloc ?_ _));exact BK7.out)) : gb9 ≠ gb7));clear HO_6;clear HO_14;clear HO_8000;clear BK7;clear HB;have HO_6 := n0_;have HO_14 := n1_;have HO_8000 := n2_;have BK7 := n3_;have HB := n4_;have BK9 := n5_;have GW9 := n6_;have GE9 := n7_;have NB7_9 := n8_;have NB9_7 := n9_;clear n0_ n1_ n2_ n3_ n4_ n5_ n6_ n7_ n8_ n9_;clear hb hbox hg;have hnb15 := NB9_7.out;have hnc15 := NB7_9.out;have hcz16_0 : w14.cell? ⟨gb9, 0, none⟩ = some (.string (⟨#[]⟩ : ByteArray)) := (blk_cell BK9.out 0).trans rfl;have hcz16_1 : w14.cell? ⟨gb9, 1, none⟩ = some (.string (⟨#[]⟩ : ByteArray)) := (blk_cell BK9.out 1).trans rfl;have hcz16_2 : w14.cell? ⟨gb9, 2, none⟩ = some (.int .i64 0) := (blk_cell BK9.out 2).trans rfl;have hcz16_3 : w14.cell? ⟨gb9, 3, none⟩ = some (.int .i64 0) := (blk_cell BK9.out 3).trans rfl;have hcz16_4 : w14.cell? ⟨gb9, 4, none⟩ = some (.int .i64 0) := (blk_cell BK9.out 4).trans rfl;have hcz16_5 : w14.cell? ⟨gb9, 5, none⟩ = some (.int .i64 0) := (blk_cell BK9.out 5).trans rfl;have hcz16_6 : w14.cell? ⟨gb9, 6, none⟩ = some (.int .i64 0) := (blk_cell BK9.out 6).trans rfl;have hcz16_7 : w14.cell? ⟨gb9, 7, none⟩ = some (.int .i64 0) := (blk_cell BK9.out 7).trans rfl;have hcz16_8 : w14.cell? ⟨gb9, 8, none⟩ = some (.int .i64 0) := (blk_cell BK9.out 8).trans rfl;have hcz16_9 : w14.cell? ⟨gb9, 9, none⟩ = some (.int .i64 0) := (blk_cell BK9.out 9).trans rfl;have hcz16_10 : w14.cell? ⟨gb9, 10, none⟩ = some (.int .i64 0) := (blk_cell BK9.out 10).trans rfl;have hcz16_11 : w14.cell? ⟨gb9, 11, none⟩ = some (.int .i64 0) := (blk_cell BK9.out 11).trans rfl;have hfz16_0 := blk_frozen BK9.out 0;have hfz16_1 := blk_frozen BK9.out 1;have hfz16_2 := blk_frozen BK9.out 2;have hfz16_3 := blk_frozen BK9.out 3;have hfz16_4 := blk_frozen BK9.out 4;have hfz16_5 := blk_frozen BK9.out 5;have hfz16_6 := blk_frozen BK9.out 6;have hfz16_7 := blk_frozen BK9.out 7;have hfz16_8 := blk_frozen BK9.out 8;have hfz16_9 := blk_frozen BK9.out 9;have hfz16_10 := blk_frozen BK9.out 10;have hfz16_11 := blk_frozen BK9.out 11;have hcz17_0 : w14.cell? ⟨gb7, 0, none⟩ = some (.slice (some ad8) t1.length co6) := (blk_cell BK7.out 0).trans rfl;have hcz17_1 : w14.cell? ⟨gb7, 1, none⟩ = some (.int .i64 t4) := (blk_cell BK7.out 1).trans rfl;have hcz17_2 : w14.cell? ⟨gb7, 2, none⟩ = some (.int .i64 t5) := (blk_cell BK7.out 2).trans rfl;have hcz17_3 : w14.cell? ⟨gb7, 3, none⟩ = some (.int .i64 t6) := (blk_cell BK7.out 3).trans rfl;have hfz17_0 := blk_frozen BK7.out 0;have hfz17_1 := blk_frozen BK7.out 1;have hfz17_2 := blk_frozen BK7.out 2;have hfz17_3 := blk_frozen BK7.out 3)|((with_reducible refine gate_callee (f := 122) rfl ?_);refine goesL_ (some 22) rfl rfl Try.func122 (by kernel_rfl) rfl #[.agg #[.slice (some ad8) t1.length co6, .int .i64 t4, .int .i64 t5, .int .i64 t6], .agg #[.string ((rd_T31 t1 x16_1).f0), .string ((rd_T31 t1 x16_1).f1), .int .i64 ((rd_T31 t1 x16_1).f2.f0), .int .i64 ((rd_T31 t1 x16_1).f2.f1), .int .i64 ((rd_T31 t1 x16_1).f2.f2), .int .i64 ((rd_T31 t1 x16_1).f3.f0), .int .i64 ((rd_T31 t1 x16_1).f3.f1), .int .i64 ((rd_T31 t1 x16_1).f3.f2), .int .i64 ((rd_T31 t1 x16_1).f4.f0), .int .i64 ((rd_T31 t1 x16_1).f4.f1), .int .i64 ((rd_T31 t1 x16_1).f4.f2), .int .i64 ((rd_T31 t1 x16_1).f5)]] rfl (by (try simp only [List.map_toArray, List.map_cons, List.map_nil]);first|done|rfl|(simp only [List.length_drop, List.length_take];rfl)) ?_;(with_reducible refine (room_looker_tight.calls _ _ t1 t4 t5 t6 ((rd_T31 t1 x16_1).f0) ((rd_T31 t1 x16_1).f1) ((rd_T31 t1 x16_1).f2.f0) ((rd_T31 t1 x16_1).f2.f1) ((rd_T31 t1 x16_1).f2.f2) ((rd_T31 t1 x16_1).f3.f0) ((rd_T31 t1 x16_1).f3.f1) ((rd_T31 t1 x16_1).f3.f2) ((rd_T31 t1 x16_1).f4.f0) ((rd_T31 t1 x16_1).f4.f1) ((rd_T31 t1 x16_1).f4.f2) ((rd_T31 t1 x16_1).f5) true _ ?side1 ?side2 A11.out).mono ?_);(case side1 => refine (Kd.R_reads' (e := 31) (base := w.heap.size) (ok := fun k_ => (True ∧ k_ ≠ gb9)) (n := t1.length) (c := co6) ?_).2.2;exact (by (with_reducible repeat (first|apply Kd.R_alloc|apply Kd.R_drewN|apply Kd.R_drew));exact (Kd.R_mono (Kd.R_far (p := ⟨gb9, 11, none⟩) (Kd.R_far (p := ⟨gb9, 10, none⟩) (Kd.R_far (p := ⟨gb9, 9, none⟩) (Kd.R_far (p := ⟨gb9, 8, none⟩) (Kd.R_far (p := ⟨gb9, 7, none⟩) (Kd.R_far (p := ⟨gb9, 6, none⟩) (Kd.R_far (p := ⟨gb9, 5, none⟩) (Kd.R_far (p := ⟨gb9, 4, none⟩) (Kd.R_far (p := ⟨gb9, 3, none⟩) (Kd.R_far (p := ⟨gb9, 2, none⟩) (Kd.R_far (p := ⟨gb9, 1, none⟩) (Kd.R_far (p := ⟨gb9, 0, none⟩) (Kd.R_mono HO_8000.out (fun k_ hk => (⟨hk, hk.2⟩ : _ ∧ k_ ≠ gb9))) (fun _ hk => hk.2) (.string ((rd_T31 t1 x16_1).f0))) (fun _ hk => hk.2) (.string ((rd_T31 t1 x16_1).f1))) (fun _ hk => hk.2) (.int .i64 ((rd_T31 t1 x16_1).f2.f0))) (fun _ hk => hk.2) (.int .i64 ((rd_T31 t1 x16_1).f2.f1))) (fun _ hk => hk.2) (.int .i64 ((rd_T31 t1 x16_1).f2.f2))) (fun _ hk => hk.2) (.int .i64 ((rd_T31 t1 x16_1).f3.f0))) (fun _ hk => hk.2) (.int .i64 ((rd_T31 t1 x16_1).f3.f1))) (fun _ hk => hk.2) (.int .i64 ((rd_T31 t1 x16_1).f3.f2))) (fun _ hk => hk.2) (.int .i64 ((rd_T31 t1 x16_1).f4.f0))) (fun _ hk => hk.2) (.int .i64 ((rd_T31 t1 x16_1).f4.f1))) (fun _ hk => hk.2) (.int .i64 ((rd_T31 t1 x16_1).f4.f2))) (fun _ hk => hk.2) (.int .i64 ((rd_T31 t1 x16_1).f5))) (fun _ h_ => h_.1))));(case side2 => exact (Kd.R_reads' HO_8000.out).2.1);rintro e w18 ⟨rfl, hb⟩;refine ⟨_, rfl, ?_⟩;have n0_ := Aside0.mk (Kd.R_below (by (with_reducible repeat (first|apply Kd.R_alloc|apply Kd.R_drewN|apply Kd.R_drew));exact (Kd.R_mono (Kd.R_far (p := ⟨gb9, 11, none⟩) (Kd.R_far (p := ⟨gb9, 10, none⟩) (Kd.R_far (p := ⟨gb9, 9, none⟩) (Kd.R_far (p := ⟨gb9, 8, none⟩) (Kd.R_far (p := ⟨gb9, 7, none⟩) (Kd.R_far (p := ⟨gb9, 6, none⟩) (Kd.R_far (p := ⟨gb9, 5, none⟩) (Kd.R_far (p := ⟨gb9, 4, none⟩) (Kd.R_far (p := ⟨gb9, 3, none⟩) (Kd.R_far (p := ⟨gb9, 2, none⟩) (Kd.R_far (p := ⟨gb9, 1, none⟩) (Kd.R_far (p := ⟨gb9, 0, none⟩) (Kd.R_types HO_6.out BK9.out (by decide)) (fun _ hk => hk.2) (.string ((rd_T31 t1 x16_1).f0))) (fun _ hk => hk.2) (.string ((rd_T31 t1 x16_1).f1))) (fun _ hk => hk.2) (.int .i64 ((rd_T31 t1 x16_1).f2.f0))) (fun _ hk => hk.2) (.int .i64 ((rd_T31 t1 x16_1).f2.f1))) (fun _ hk => hk.2) (.int .i64 ((rd_T31 t1 x16_1).f2.f2))) (fun _ hk => hk.2) (.int .i64 ((rd_T31 t1 x16_1).f3.f0))) (fun _ hk => hk.2) (.int .i64 ((rd_T31 t1 x16_1).f3.f1))) (fun _ hk => hk.2) (.int .i64 ((rd_T31 t1 x16_1).f3.f2))) (fun _ hk => hk.2) (.int .i64 ((rd_T31 t1 x16_1).f4.f0))) (fun _ hk => hk.2) (.int .i64 ((rd_T31 t1 x16_1).f4.f1))) (fun _ hk => hk.2) (.int .i64 ((rd_T31 t1 x16_1).f4.f2))) (fun _ hk => hk.2) (.int .i64 ((rd_T31 t1 x16_1).f5))) (fun _ h_ => h_.1))) hb);have n1_ := Aside0.mk (Kd.R_below (by (with_reducible repeat (first|apply Kd.R_alloc|apply Kd.R_drewN|apply Kd.R_drew));exact (Kd.R_mono (Kd.R_far (p := ⟨gb9, 11, none⟩) (Kd.R_far (p := ⟨gb9, 10, none⟩) (Kd.R_far (p := ⟨gb9, 9, none⟩) (Kd.R_far (p := ⟨gb9, 8, none⟩) (Kd.R_far (p := ⟨gb9, 7, none⟩) (Kd.R_far (p := ⟨gb9, 6, none⟩) (Kd.R_far (p := ⟨gb9, 5, none⟩) (Kd.R_far (p := ⟨gb9, 4, none⟩) (Kd.R_far (p := ⟨gb9, 3, none⟩) (Kd.R_far (p := ⟨gb9, 2, none⟩) (Kd.R_far (p := ⟨gb9, 1, none⟩) (Kd.R_far (p := ⟨gb9, 0, none⟩) (Kd.R_mono HO_14.out (fun k_ hk => (⟨hk, hk.2⟩ : _ ∧ k_ ≠ gb9))) (fun _ hk => hk.2) (.string ((rd_T31 t1 x16_1).f0))) (fun _ hk => hk.2) (.string ((rd_T31 t1 x16_1).f1))) (fun _ hk => hk.2) (.int .i64 ((rd_T31 t1 x16_1).f2.f0))) (fun _ hk => hk.2) (.int .i64 ((rd_T31 t1 x16_1).f2.f1))) (fun _ hk => hk.2) (.int .i64 ((rd_T31 t1 x16_1).f2.f2))) (fun _ hk => hk.2) (.int .i64 ((rd_T31 t1 x16_1).f3.f0))) (fun _ hk => hk.2) (.int .i64 ((rd_T31 t1 x16_1).f3.f1))) (fun _ hk => hk.2) (.int .i64 ((rd_T31 t1 x16_1).f3.f2))) (fun _ hk => hk.2) (.int .i64 ((rd_T31 t1 x16_1).f4.f0))) (fun _ hk => hk.2) (.int .i64 ((rd_T31 t1 x16_1).f4.f1))) (fun _ hk => hk.2) (.int .i64 ((rd_T31 t1 x16_1).f4.f2))) (fun _ hk => hk.2) (.int .i64 ((rd_T31 t1 x16_1).f5))) (fun _ h_ => h_.1))) hb);have n2_ := Aside0.mk (Kd.R_below (by (with_reducible repeat (first|apply Kd.R_alloc|apply Kd.R_drewN|apply Kd.R_drew));exact (Kd.R_mono (Kd.R_far (p := ⟨gb9, 11, none⟩) (Kd.R_far (p := ⟨gb9, 10, none⟩) (Kd.R_far (p := ⟨gb9, 9, none⟩) (Kd.R_far (p := ⟨gb9, 8, none⟩) (Kd.R_far (p := ⟨gb9, 7, none⟩) (Kd.R_far (p := ⟨gb9, 6, none⟩) (Kd.R_far (p := ⟨gb9, 5, none⟩) (Kd.R_far (p := ⟨gb9, 4, none⟩) (Kd.R_far (p := ⟨gb9, 3, none⟩) (Kd.R_far (p := ⟨gb9, 2, none⟩) (Kd.R_far (p := ⟨gb9, 1, none⟩) (Kd.R_far (p := ⟨gb9, 0, none⟩) (Kd.R_mono HO_8000.out (fun k_ hk => (⟨hk, hk.2⟩ : _ ∧ k_ ≠ gb9))) (fun _ hk => hk.2) (.string ((rd_T31 t1 x16_1).f0))) (fun _ hk => hk.2) (.string ((rd_T31 t1 x16_1).f1))) (fun _ hk => hk.2) (.int .i64 ((rd_T31 t1 x16_1).f2.f0))) (fun _ hk => hk.2) (.int .i64 ((rd_T31 t1 x16_1).f2.f1))) (fun _ hk => hk.2) (.int .i64 ((rd_T31 t1 x16_1).f2.f2))) (fun _ hk => hk.2) (.int .i64 ((rd_T31 t1 x16_1).f3.f0))) (fun _ hk => hk.2) (.int .i64 ((rd_T31 t1 x16_1).f3.f1))) (fun _ hk => hk.2) (.int .i64 ((rd_T31 t1 x16_1).f3.f2))) (fun _ hk => hk.2) (.int .i64 ((rd_T31 t1 x16_1).f4.f0))) (fun _ hk => hk.2) (.int .i64 ((rd_T31 t1 x16_1).f4.f1))) (fun _ hk => hk.2) (.int .i64 ((rd_T31 t1 x16_1).f4.f2))) (fun _ hk => hk.2) (.int .i64 ((rd_T31 t1 x16_1).f5))) (fun _ h_ => h_.1))) hb);have n3_ := Aside0.mk (blk_below (g := gb7) (o := .cells #[.slice (some ad8) t1.length co6, .int .i64 t4, .int .i64 t5, .int .i64 t6] 127 (0, 0)) (by (with_reducible repeat (first|refine blk_drewN ?_ _|refine blk_drew ?_|refine blk_alloc ?_ _));refine blk_far ?_ NB7_9.out _;(with_reducible repeat (first|refine blk_drewN ?_ _|refine blk_drew ?_|refine blk_alloc ?_ _));refine blk_far ?_ NB7_9.out _;(with_reducible repeat (first|refine blk_drewN ?_ _|refine blk_drew ?_|refine blk_alloc ?_ _));refine blk_far ?_ NB7_9.out _;(with_reducible repeat (first|refine blk_drewN ?_ _|refine blk_drew ?_|refine blk_alloc ?_ _));refine blk_far ?_ NB7_9.out _;(with_reducible repeat (first|refine blk_drewN ?_ _|refine blk_drew ?_|refine blk_alloc ?_ _));refine blk_far ?_ NB7_9.out _;(with_reducible repeat (first|refine blk_drewN ?_ _|refine blk_drew ?_|refine blk_alloc ?_ _));refine blk_far ?_ NB7_9.out _;(with_reducible repeat (first|refine blk_drewN ?_ _|refine blk_drew ?_|refine blk_alloc ?_ _));refine blk_far ?_ NB7_9.out _;(with_reducible repeat (first|refine blk_drewN ?_ _|refine blk_drew ?_|refine blk_alloc ?_ _));refine blk_far ?_ NB7_9.out _;(with_reducible repeat (first|refine blk_drewN ?_ _|refine blk_drew ?_|refine blk_alloc ?_ _));refine blk_far ?_ NB7_9.out _;(with_reducible repeat (first|refine blk_drewN ?_ _|refine blk_drew ?_|refine blk_alloc ?_ _));refine blk_far ?_ NB7_9.out _;(with_reducible repeat (first|refine blk_drewN ?_ _|refine blk_drew ?_|refine blk_alloc ?_ _));refine blk_far ?_ NB7_9.out _;(with_reducible repeat (first|refine blk_drewN ?_ _|refine blk_drew ?_|refine blk_alloc ?_ _));refine blk_far ?_ NB7_9.out _;(with_reducible repeat (first|refine blk_drewN ?_ _|refine blk_drew ?_|refine blk_alloc ?_ _));exact BK7.out) hb);have n4_ := Aside0.mk (blk_below (g := gb9) (o := .cells #[.string ((rd_T31 t1 x16_1).f0), .string ((rd_T31 t1 x16_1).f1), .int .i64 ((rd_T31 t1 x16_1).f2.f0), .int .i64 ((rd_T31 t1 x16_1).f2.f1), .int .i64 ((rd_T31 t1 x16_1).f2.f2), .int .i64 ((rd_T31 t1 x16_1).f3.f0), .int .i64 ((rd_T31 t1 x16_1).f3.f1), .int .i64 ((rd_T31 t1 x16_1).f3.f2), .int .i64 ((rd_T31 t1 x16_1).f4.f0), .int .i64 ((rd_T31 t1 x16_1).f4.f1), .int .i64 ((rd_T31 t1 x16_1).f4.f2), .int .i64 ((rd_T31 t1 x16_1).f5)] 31 (0, 0)) (by (with_reducible repeat (first|refine blk_drewN ?_ _|refine blk_drew ?_|refine blk_alloc ?_ _));refine blk_put (cs := #[.string ((rd_T31 t1 x16_1).f0), .string ((rd_T31 t1 x16_1).f1), .int .i64 ((rd_T31 t1 x16_1).f2.f0), .int .i64 ((rd_T31 t1 x16_1).f2.f1), .int .i64 ((rd_T31 t1 x16_1).f2.f2), .int .i64 ((rd_T31 t1 x16_1).f3.f0), .int .i64 ((rd_T31 t1 x16_1).f3.f1), .int .i64 ((rd_T31 t1 x16_1).f3.f2), .int .i64 ((rd_T31 t1 x16_1).f4.f0), .int .i64 ((rd_T31 t1 x16_1).f4.f1), .int .i64 ((rd_T31 t1 x16_1).f4.f2), .int .i64 0]) ?_ 11 _ rfl;(with_reducible repeat (first|refine blk_drewN ?_ _|refine blk_drew ?_|refine blk_alloc ?_ _));refine blk_put (cs := #[.string ((rd_T31 t1 x16_1).f0), .string ((rd_T31 t1 x16_1).f1), .int .i64 ((rd_T31 t1 x16_1).f2.f0), .int .i64 ((rd_T31 t1 x16_1).f2.f1), .int .i64 ((rd_T31 t1 x16_1).f2.f2), .int .i64 ((rd_T31 t1 x16_1).f3.f0), .int .i64 ((rd_T31 t1 x16_1).f3.f1), .int .i64 ((rd_T31 t1 x16_1).f3.f2), .int .i64 ((rd_T31 t1 x16_1).f4.f0), .int .i64 ((rd_T31 t1 x16_1).f4.f1), .int .i64 0, .int .i64 0]) ?_ 10 _ rfl;(with_reducible repeat (first|refine blk_drewN ?_ _|refine blk_drew ?_|refine blk_alloc ?_ _));refine blk_put (cs := #[.string ((rd_T31 t1 x16_1).f0), .string ((rd_T31 t1 x16_1).f1), .int .i64 ((rd_T31 t1 x16_1).f2.f0), .int .i64 ((rd_T31 t1 x16_1).f2.f1), .int .i64 ((rd_T31 t1 x16_1).f2.f2), .int .i64 ((rd_T31 t1 x16_1).f3.f0), .int .i64 ((rd_T31 t1 x16_1).f3.f1), .int .i64 ((rd_T31 t1 x16_1).f3.f2), .int .i64 ((rd_T31 t1 x16_1).f4.f0), .int .i64 0, .int .i64 0, .int .i64 0]) ?_ 9 _ rfl;(with_reducible repeat (first|refine blk_drewN ?_ _|refine blk_drew ?_|refine blk_alloc ?_ _));refine blk_put (cs := #[.string ((rd_T31 t1 x16_1).f0), .string ((rd_T31 t1 x16_1).f1), .int .i64 ((rd_T31 t1 x16_1).f2.f0), .int .i64 ((rd_T31 t1 x16_1).f2.f1), .int .i64 ((rd_T31 t1 x16_1).f2.f2), .int .i64 ((rd_T31 t1 x16_1).f3.f0), .int .i64 ((rd_T31 t1 x16_1).f3.f1), .int .i64 ((rd_T31 t1 x16_1).f3.f2), .int .i64 0, .int .i64 0, .int .i64 0, .int .i64 0]) ?_ 8 _ rfl;(with_reducible repeat (first|refine blk_drewN ?_ _|refine blk_drew ?_|refine blk_alloc ?_ _));refine blk_put (cs := #[.string ((rd_T31 t1 x16_1).f0), .string ((rd_T31 t1 x16_1).f1), .int .i64 ((rd_T31 t1 x16_1).f2.f0), .int .i64 ((rd_T31 t1 x16_1).f2.f1), .int .i64 ((rd_T31 t1 x16_1).f2.f2), .int .i64 ((rd_T31 t1 x16_1).f3.f0), .int .i64 ((rd_T31 t1 x16_1).f3.f1), .int .i64 0, .int .i64 0, .int .i64 0, .int .i64 0, .int .i64 0]) ?_ 7 _ rfl;(with_reducible repeat (first|refine blk_drewN ?_ _|refine blk_drew ?_|refine blk_alloc ?_ _));refine blk_put (cs := #[.string ((rd_T31 t1 x16_1).f0), .string ((rd_T31 t1 x16_1).f1), .int .i64 ((rd_T31 t1 x16_1).f2.f0), .int .i64 ((rd_T31 t1 x16_1).f2.f1), .int .i64 ((rd_T31 t1 x16_1).f2.f2), .int .i64 ((rd_T31 t1 x16_1).f3.f0), .int .i64 0, .int .i64 0, .int .i64 0, .int .i64 0, .int .i64 0, .int .i64 0]) ?_ 6 _ rfl;(with_reducible repeat (first|refine blk_drewN ?_ _|refine blk_drew ?_|refine blk_alloc ?_ _));refine blk_put (cs := #[.string ((rd_T31 t1 x16_1).f0), .string ((rd_T31 t1 x16_1).f1), .int .i64 ((rd_T31 t1 x16_1).f2.f0), .int .i64 ((rd_T31 t1 x16_1).f2.f1), .int .i64 ((rd_T31 t1 x16_1).f2.f2), .int .i64 0, .int .i64 0, .int .i64 0, .int .i64 0, .int .i64 0, .int .i64 0, .int .i64 0]) ?_ 5 _ rfl;(with_reducible repeat (first|refine blk_drewN ?_ _|refine blk_drew ?_|refine blk_alloc ?_ _));refine blk_put (cs := #[.string ((rd_T31 t1 x16_1).f0), .string ((rd_T31 t1 x16_1).f1), .int .i64 ((rd_T31 t1 x16_1).f2.f0), .int .i64 ((rd_T31 t1 x16_1).f2.f1), .int .i64 0, .int .i64 0, .int .i64 0, .int .i64 0, .int .i64 0, .int .i64 0, .int .i64 0, .int .i64 0]) ?_ 4 _ rfl;(with_reducible repeat (first|refine blk_drewN ?_ _|refine blk_drew ?_|refine blk_alloc ?_ _));refine blk_put (cs := #[.string ((rd_T31 t1 x16_1).f0), .string ((rd_T31 t1 x16_1).f1), .int .i64 ((rd_T31 t1 x16_1).f2.f0), .int .i64 0, .int .i64 0, .int .i64 0, .int .i64 0, .int .i64 0, .int .i64 0, .int .i64 0, .int .i64 0, .int .i64 0]) ?_ 3 _ rfl;(with_reducible repeat (first|refine blk_drewN ?_ _|refine blk_drew ?_|refine blk_alloc ?_ _));refine blk_put (cs := #[.string ((rd_T31 t1 x16_1).f0), .string ((rd_T31 t1 x16_1).f1), .int .i64 0, .int .i64 0, .int .i64 0, .int .i64 0, .int .i64 0, .int .i64 0, .int .i64 0, .int .i64 0, .int .i64 0, .int .i64 0]) ?_ 2 _ rfl;(with_reducible repeat (first|refine blk_drewN ?_ _|refine blk_drew ?_|refine blk_alloc ?_ _));refine blk_put (cs := #[.string ((rd_T31 t1 x16_1).f0), .string (⟨#[]⟩ : ByteArray), .int .i64 0, .int .i64 0, .int .i64 0, .int .i64 0, .int .i64 0, .int .i64 0, .int .i64 0, .int .i64 0, .int .i64 0, .int .i64 0]) ?_ 1 _ rfl;(with_reducible repeat (first|refine blk_drewN ?_ _|refine blk_drew ?_|refine blk_alloc ?_ _));refine blk_put (cs := #[.string (⟨#[]⟩ : ByteArray), .string (⟨#[]⟩ : ByteArray), .int .i64 0, .int .i64 0, .int .i64 0, .int .i64 0, .int .i64 0, .int .i64 0, .int .i64 0, .int .i64 0, .int .i64 0, .int .i64 0]) ?_ 0 _ rfl;(with_reducible repeat (first|refine blk_drewN ?_ _|refine blk_drew ?_|refine blk_alloc ?_ _));exact BK9.out) hb);have n5_ := Aside0.mk (below_step (by repeat (first|(with_reducible first|exact HB.out|apply below_alloc|apply pw_below_drewN|apply below_drew1|refine below_set ?_ GE7.out|refine below_set ?_ GE9.out)|exact HB.out)) hb);clear HO_6;clear HO_14;clear HO_8000;clear BK7;clear BK9;clear HB;have HO_6 := n0_;have HO_14 := n1_;have HO_8000 := n2_;have BK7 := n3_;have BK9 := n4_;have HB := n5_;clear n0_ n1_ n2_ n3_ n4_ n5_;(try clear hb);(try clear hb2);(try clear hk);(try clear hi);have hcz19_0 : w18.cell? ⟨gb9, 0, none⟩ = some (.string ((rd_T31 t1 x16_1).f0)) := (blk_cell BK9.out 0).trans rfl;have hcz19_1 : w18.cell? ⟨gb9, 1, none⟩ = some (.string ((rd_T31 t1 x16_1).f1)) := (blk_cell BK9.out 1).trans rfl;have hcz19_2 : w18.cell? ⟨gb9, 2, none⟩ = some (.int .i64 ((rd_T31 t1 x16_1).f2.f0)) := (blk_cell BK9.out 2).trans rfl;have hcz19_3 : w18.cell? ⟨gb9, 3, none⟩ = some (.int .i64 ((rd_T31 t1 x16_1).f2.f1)) := (blk_cell BK9.out 3).trans rfl;have hcz19_4 : w18.cell? ⟨gb9, 4, none⟩ = some (.int .i64 ((rd_T31 t1 x16_1).f2.f2)) := (blk_cell BK9.out 4).trans rfl;have hcz19_5 : w18.cell? ⟨gb9, 5, none⟩ = some (.int .i64 ((rd_T31 t1 x16_1).f3.f0)) := (blk_cell BK9.out 5).trans rfl;have hcz19_6 : w18.cell? ⟨gb9, 6, none⟩ = some (.int .i64 ((rd_T31 t1 x16_1).f3.f1)) := (blk_cell BK9.out 6).trans rfl;have hcz19_7 : w18.cell? ⟨gb9, 7, none⟩ = some (.int .i64 ((rd_T31 t1 x16_1).f3.f2)) := (blk_cell BK9.out 7).trans rfl;have hcz19_8 : w18.cell? ⟨gb9, 8, none⟩ = some (.int .i64 ((rd_T31 t1 x16_1).f4.f0)) := (blk_cell BK9.out 8).trans rfl;have hcz19_9 : w18.cell? ⟨gb9, 9, none⟩ = some (.int .i64 ((rd_T31 t1 x16_1).f4.f1)) := (blk_cell BK9.out 9).trans rfl;have hcz19_10 : w18.cell? ⟨gb9, 10, none⟩ = some (.int .i64 ((rd_T31 t1 x16_1).f4.f2)) := (blk_cell BK9.out 10).trans rfl;have hcz19_11 : w18.cell? ⟨gb9, 11, none⟩ = some (.int .i64 ((rd_T31 t1 x16_1).f5)) := (blk_cell BK9.out 11).trans rfl;have hfz19_0 := blk_frozen BK9.out 0;have hfz19_1 := blk_frozen BK9.out 1;have hfz19_2 := blk_frozen BK9.out 2;have hfz19_3 := blk_frozen BK9.out 3;have hfz19_4 := blk_frozen BK9.out 4;have hfz19_5 := blk_frozen BK9.out 5;have hfz19_6 := blk_frozen BK9.out 6;have hfz19_7 := blk_frozen BK9.out 7;have hfz19_8 := blk_frozen BK9.out 8;have hfz19_9 := blk_frozen BK9.out 9;have hfz19_10 := blk_frozen BK9.out 10;have hfz19_11 := blk_frozen BK9.out 11)|((with_reducible refine gate_builtin (b := .append) (xs := #[.tmp 23, .tmp 26]) rfl ?_);at_builtin;refine Kd.R_append Kd.string (w0 := w) w.heap.size rfl (.tmp 23) (.tmp 26) 74 9 (.string ⟨#[]⟩) 16 rfl Try.underlying74 info9 rfl (by decide) (by omega) u6 x6_1 ((rd_T31 t1 x16_1).f0) [.string ((rd_T31 t1 x16_1).f0)] (fun _ => True) (fun _ => False) rfl rfl ?aP (fun _ hk => hk.elim) ?aF ?aO ?aB ?aS ?aL ?_;(case aP => exact rfl);(case aB => exact (by repeat (first|(with_reducible first|exact HB.out|apply below_alloc|apply pw_below_drewN|apply below_drew1|refine below_set ?_ GE7.out|refine below_set ?_ GE9.out)|exact HB.out)));(case aF => exact (fun _ _ => trivial));(case aO => exact (by (with_reducible repeat (first|apply Kd.R_alloc|apply Kd.R_drewN|apply Kd.R_drew));exact HO_6.out));(case aS => exact (below_size (by repeat (first|(with_reducible first|exact HB.out|apply below_alloc|apply pw_below_drewN|apply below_drew1|refine below_set ?_ GE7.out|refine below_set ?_ GE9.out)|exact HB.out))));(case aL => have := LMc13.out;omega);intro v12 w20 ho hb hg hat;rw [← Ny11.out] at ho;have n0_ := Aside0.mk (Kd.R_over' (by (with_reducible repeat (first|apply Kd.R_alloc|apply Kd.R_drewN|apply Kd.R_drew));exact HO_14.out) (Kd.R_typed (by (with_reducible repeat (first|apply Kd.R_alloc|apply Kd.R_drewN|apply Kd.R_drew));exact HO_6.out)) (by decide) hg);have n1_ := Aside0.mk (Kd.R_over' (by (with_reducible repeat (first|apply Kd.R_alloc|apply Kd.R_drewN|apply Kd.R_drew));exact HO_8000.out) (Kd.R_typed (by (with_reducible repeat (first|apply Kd.R_alloc|apply Kd.R_drewN|apply Kd.R_drew));exact HO_6.out)) (by decide) hg);have n2_ := Aside0.mk (blk_grown (g := gb7) (o := .cells #[.slice (some ad8) t1.length co6, .int .i64 t4, .int .i64 t5, .int .i64 t6] 127 (0, 0)) (by (with_reducible repeat (first|refine blk_drewN ?_ _|refine blk_drew ?_|refine blk_alloc ?_ _));exact BK7.out) hg (Kd.R_ne HO_6.out BK7.out (by decide)));have n3_ := Aside0.mk (blk_grown (g := gb9) (o := .cells #[.string ((rd_T31 t1 x16_1).f0), .string ((rd_T31 t1 x16_1).f1), .int .i64 ((rd_T31 t1 x16_1).f2.f0), .int .i64 ((rd_T31 t1 x16_1).f2.f1), .int .i64 ((rd_T31 t1 x16_1).f2.f2), .int .i64 ((rd_T31 t1 x16_1).f3.f0), .int .i64 ((rd_T31 t1 x16_1).f3.f1), .int .i64 ((rd_T31 t1 x16_1).f3.f2), .int .i64 ((rd_T31 t1 x16_1).f4.f0), .int .i64 ((rd_T31 t1 x16_1).f4.f1), .int .i64 ((rd_T31 t1 x16_1).f4.f2), .int .i64 ((rd_T31 t1 x16_1).f5)] 31 (0, 0)) (by (with_reducible repeat (first|refine blk_drewN ?_ _|refine blk_drew ?_|refine blk_alloc ?_ _));exact BK9.out) hg (Kd.R_ne HO_6.out BK9.out (by decide)));have n4_ := Aside0.mk (hb);have n5_ := Aside0.mk (ho);clear HO_14;clear HO_8000;clear BK7;clear BK9;clear HB;clear HO_6;have HO_14 := n0_;have HO_8000 := n1_;have BK7 := n2_;have BK9 := n3_;have HB := n4_;have HO13 := n5_;clear n0_ n1_ n2_ n3_ n4_ n5_;clear ho hb hg hat))
        go_roundg k1
        case measure => have := HK1.out; omega
        case rel => exact ⟨(y11), (wrap64 (x16_1 + 1)), (by first|rfl|(simp;done)|(simp [*];done)), H', ⟨by have := HK1.out;omega⟩, ⟨by (with_reducible repeat (first|apply Kd.R_alloc|apply Kd.R_drewN|apply Kd.R_drew));exact HO13.out⟩, ⟨by (with_reducible repeat (first|apply Kd.R_alloc|apply Kd.R_drewN|apply Kd.R_drew));exact Kd.R_mono HO_14.out (fun _ hk => trivial)⟩, ⟨by (with_reducible repeat (first|apply Kd.R_alloc|apply Kd.R_drewN|apply Kd.R_drew));exact Kd.R_mono HO_8000.out (fun _ hk => trivial)⟩, ⟨by (with_reducible repeat (first|refine blk_drewN ?_ _|refine blk_drew ?_|refine blk_alloc ?_ _));exact BK7.out⟩, ⟨by repeat (first|(with_reducible first|exact HB.out|apply below_alloc|apply pw_below_drewN|apply below_drew1|refine below_set ?_ GE7.out|refine below_set ?_ GE9.out)|exact HB.out)⟩⟩
       ·rw [if_neg c13] at H
        exact absurd H (by simp)
      ·replace c12 := Bool.eq_false_iff.mpr c12
       subst c12
       have H1 : (room_Tight.l0 k1 x6_1 t1 (t1.length : Int) (wrap64 (x16_1 + 1)) t1 t4 t5 t6) = some r := by rw [if_neg (show ¬ (false = true) by decide)] at H; exact H
       clear H
       have H := H1
       clear H1
       have H' := Aside0.mk H
       clear H
       have p8 : 0 ≤ (x16_1 : Int) := of_decide_eq_true (by first|(with_reducible assumption)|assumption)
       have q8 : x16_1 < (t1.length : Int) := of_decide_eq_true (by first|(with_reducible assumption)|assumption)
       obtain ⟨ad8, e8, hx8_0, hx8_1, hx8_2, hx8_3, hx8_4, hx8_5, hx8_6, hx8_7, hx8_8, hx8_9, hx8_10, hx8_11⟩ := at_T31 (Kd.R_reads' HO_14.out).2.2 x16_1 p8 q8
       cases e8
       replace p8 := eq_true p8
       replace q8 := eq_true q8
       go_wp2_with (first|((with_reducible refine gate_dst (N := 8) rfl ?_);refine box_event ?hg (N := 8) ?hd (cs := #[.string (⟨#[]⟩ : ByteArray), .string (⟨#[]⟩ : ByteArray), .int .i64 0, .int .i64 0, .int .i64 0, .int .i64 0, .int .i64 0, .int .i64 0, .int .i64 0, .int .i64 0, .int .i64 0, .int .i64 0]) (t := 31) ?hr ?_;(case hd => rfl);(case hg => rfl);(case hr => first|(go_simp;done)|(go_simp;rfl));intro gb9 hg w21 hbox hb;have n0_ := Aside0.mk (Kd.R_below (by (with_reducible repeat (first|apply Kd.R_alloc|apply Kd.R_drewN|apply Kd.R_drew));exact HO_6.out) hb);have n1_ := Aside0.mk (Kd.R_below (Kd.R_elderB (by (with_reducible repeat (first|apply Kd.R_alloc|apply Kd.R_drewN|apply Kd.R_drew));exact HO_14.out) gb9 (Nat.le_of_eq hg.symm)) hb);have n2_ := Aside0.mk (Kd.R_below (Kd.R_elderB (by (with_reducible repeat (first|apply Kd.R_alloc|apply Kd.R_drewN|apply Kd.R_drew));exact HO_8000.out) gb9 (Nat.le_of_eq hg.symm)) hb);have n3_ := Aside0.mk (blk_below (g := gb7) (o := .cells #[.slice (some ad8) t1.length co6, .int .i64 t4, .int .i64 t5, .int .i64 t6] 127 (0, 0)) (by (with_reducible repeat (first|refine blk_drewN ?_ _|refine blk_drew ?_|refine blk_alloc ?_ _));exact BK7.out) hb);have n4_ := Aside0.mk (below_step (by repeat (first|(with_reducible first|exact HB.out|apply below_alloc|apply pw_below_drewN|apply below_drew1|refine below_set ?_ GE7.out)|exact HB.out)) hb);have n5_ := Aside0.mk (hbox);have n6_ := Aside0.mk ((by rw [hg];exact (below_size (by repeat (first|(with_reducible first|exact HB.out|apply below_alloc|apply pw_below_drewN|apply below_drew1|refine below_set ?_ GE7.out)|exact HB.out))) : w.heap.size ≤ gb9));have n7_ := Aside0.mk ((by rw [hg];exact (below_size (by repeat (first|(with_reducible first|exact HB.out|apply below_alloc|apply pw_below_drewN|apply below_drew1|refine below_set ?_ GE7.out)|exact HB.out))) : w.heap.size ≤ gb9));have n8_ := Aside0.mk ((by rw [hg];exact Nat.ne_of_lt (blk_lt (g := gb7) (o := .cells #[.slice (some ad8) t1.length co6, .int .i64 t4, .int .i64 t5, .int .i64 t6] 127 (0, 0)) (by (with_reducible repeat (first|refine blk_drewN ?_ _|refine blk_drew ?_|refine blk_alloc ?_ _));exact BK7.out)) : gb7 ≠ gb9));have n9_ := Aside0.mk ((by rw [hg];exact Nat.ne_of_gt (blk_lt (g := gb7) (o := .cells #[.slice (some ad8) t1.length co6, .int .i64 t4, .int .i64 t5, .int .i64 t6] 127 (0, 0)) (by (with_reducible repeat (first|refine blk_drewN ?_ _|refine blk_drew ?_|refine blk_alloc ?_ _));exact BK7.out)) : gb9 ≠ gb7));clear HO_6;clear HO_14;clear HO_8000;clear BK7;clear HB;have HO_6 := n0_;have HO_14 := n1_;have HO_8000 := n2_;have BK7 := n3_;have HB := n4_;have BK9 := n5_;have GW9 := n6_;have GE9 := n7_;have NB7_9 := n8_;have NB9_7 := n9_;clear n0_ n1_ n2_ n3_ n4_ n5_ n6_ n7_ n8_ n9_;clear hb hbox hg;have hnb22 := NB9_7.out;have hnc22 := NB7_9.out;have hcz23_0 : w21.cell? ⟨gb9, 0, none⟩ = some (.string (⟨#[]⟩ : ByteArray)) := (blk_cell BK9.out 0).trans rfl;have hcz23_1 : w21.cell? ⟨gb9, 1, none⟩ = some (.string (⟨#[]⟩ : ByteArray)) := (blk_cell BK9.out 1).trans rfl;have hcz23_2 : w21.cell? ⟨gb9, 2, none⟩ = some (.int .i64 0) := (blk_cell BK9.out 2).trans rfl;have hcz23_3 : w21.cell? ⟨gb9, 3, none⟩ = some (.int .i64 0) := (blk_cell BK9.out 3).trans rfl;have hcz23_4 : w21.cell? ⟨gb9, 4, none⟩ = some (.int .i64 0) := (blk_cell BK9.out 4).trans rfl;have hcz23_5 : w21.cell? ⟨gb9, 5, none⟩ = some (.int .i64 0) := (blk_cell BK9.out 5).trans rfl;have hcz23_6 : w21.cell? ⟨gb9, 6, none⟩ = some (.int .i64 0) := (blk_cell BK9.out 6).trans rfl;have hcz23_7 : w21.cell? ⟨gb9, 7, none⟩ = some (.int .i64 0) := (blk_cell BK9.out 7).trans rfl;have hcz23_8 : w21.cell? ⟨gb9, 8, none⟩ = some (.int .i64 0) := (blk_cell BK9.out 8).trans rfl;have hcz23_9 : w21.cell? ⟨gb9, 9, none⟩ = some (.int .i64 0) := (blk_cell BK9.out 9).trans rfl;have hcz23_10 : w21.cell? ⟨gb9, 10, none⟩ = some (.int .i64 0) := (blk_cell BK9.out 10).trans rfl;have hcz23_11 : w21.cell? ⟨gb9, 11, none⟩ = some (.int .i64 0) := (blk_cell BK9.out 11).trans rfl;have hfz23_0 := blk_frozen BK9.out 0;have hfz23_1 := blk_frozen BK9.out 1;have hfz23_2 := blk_frozen BK9.out 2;have hfz23_3 := blk_frozen BK9.out 3;have hfz23_4 := blk_frozen BK9.out 4;have hfz23_5 := blk_frozen BK9.out 5;have hfz23_6 := blk_frozen BK9.out 6;have hfz23_7 := blk_frozen BK9.out 7;have hfz23_8 := blk_frozen BK9.out 8;have hfz23_9 := blk_frozen BK9.out 9;have hfz23_10 := blk_frozen BK9.out 10;have hfz23_11 := blk_frozen BK9.out 11;have hcz24_0 : w21.cell? ⟨gb7, 0, none⟩ = some (.slice (some ad8) t1.length co6) := (blk_cell BK7.out 0).trans rfl;have hcz24_1 : w21.cell? ⟨gb7, 1, none⟩ = some (.int .i64 t4) := (blk_cell BK7.out 1).trans rfl;have hcz24_2 : w21.cell? ⟨gb7, 2, none⟩ = some (.int .i64 t5) := (blk_cell BK7.out 2).trans rfl;have hcz24_3 : w21.cell? ⟨gb7, 3, none⟩ = some (.int .i64 t6) := (blk_cell BK7.out 3).trans rfl;have hfz24_0 := blk_frozen BK7.out 0;have hfz24_1 := blk_frozen BK7.out 1;have hfz24_2 := blk_frozen BK7.out 2;have hfz24_3 := blk_frozen BK7.out 3)|((with_reducible refine gate_callee (f := 122) rfl ?_);refine goesL_ (some 22) rfl rfl Try.func122 (by kernel_rfl) rfl #[.agg #[.slice (some ad8) t1.length co6, .int .i64 t4, .int .i64 t5, .int .i64 t6], .agg #[.string ((rd_T31 t1 x16_1).f0), .string ((rd_T31 t1 x16_1).f1), .int .i64 ((rd_T31 t1 x16_1).f2.f0), .int .i64 ((rd_T31 t1 x16_1).f2.f1), .int .i64 ((rd_T31 t1 x16_1).f2.f2), .int .i64 ((rd_T31 t1 x16_1).f3.f0), .int .i64 ((rd_T31 t1 x16_1).f3.f1), .int .i64 ((rd_T31 t1 x16_1).f3.f2), .int .i64 ((rd_T31 t1 x16_1).f4.f0), .int .i64 ((rd_T31 t1 x16_1).f4.f1), .int .i64 ((rd_T31 t1 x16_1).f4.f2), .int .i64 ((rd_T31 t1 x16_1).f5)]] rfl (by (try simp only [List.map_toArray, List.map_cons, List.map_nil]);first|done|rfl|(simp only [List.length_drop, List.length_take];rfl)) ?_;(with_reducible refine (room_looker_tight.calls _ _ t1 t4 t5 t6 ((rd_T31 t1 x16_1).f0) ((rd_T31 t1 x16_1).f1) ((rd_T31 t1 x16_1).f2.f0) ((rd_T31 t1 x16_1).f2.f1) ((rd_T31 t1 x16_1).f2.f2) ((rd_T31 t1 x16_1).f3.f0) ((rd_T31 t1 x16_1).f3.f1) ((rd_T31 t1 x16_1).f3.f2) ((rd_T31 t1 x16_1).f4.f0) ((rd_T31 t1 x16_1).f4.f1) ((rd_T31 t1 x16_1).f4.f2) ((rd_T31 t1 x16_1).f5) false _ ?side1 ?side2 A11.out).mono ?_);(case side1 => refine (Kd.R_reads' (e := 31) (base := w.heap.size) (ok := fun k_ => (True ∧ k_ ≠ gb9)) (n := t1.length) (c := co6) ?_).2.2;exact (by (with_reducible repeat (first|apply Kd.R_alloc|apply Kd.R_drewN|apply Kd.R_drew));exact (Kd.R_mono (Kd.R_far (p := ⟨gb9, 11, none⟩) (Kd.R_far (p := ⟨gb9, 10, none⟩) (Kd.R_far (p := ⟨gb9, 9, none⟩) (Kd.R_far (p := ⟨gb9, 8, none⟩) (Kd.R_far (p := ⟨gb9, 7, none⟩) (Kd.R_far (p := ⟨gb9, 6, none⟩) (Kd.R_far (p := ⟨gb9, 5, none⟩) (Kd.R_far (p := ⟨gb9, 4, none⟩) (Kd.R_far (p := ⟨gb9, 3, none⟩) (Kd.R_far (p := ⟨gb9, 2, none⟩) (Kd.R_far (p := ⟨gb9, 1, none⟩) (Kd.R_far (p := ⟨gb9, 0, none⟩) (Kd.R_mono HO_8000.out (fun k_ hk => (⟨hk, hk.2⟩ : _ ∧ k_ ≠ gb9))) (fun _ hk => hk.2) (.string ((rd_T31 t1 x16_1).f0))) (fun _ hk => hk.2) (.string ((rd_T31 t1 x16_1).f1))) (fun _ hk => hk.2) (.int .i64 ((rd_T31 t1 x16_1).f2.f0))) (fun _ hk => hk.2) (.int .i64 ((rd_T31 t1 x16_1).f2.f1))) (fun _ hk => hk.2) (.int .i64 ((rd_T31 t1 x16_1).f2.f2))) (fun _ hk => hk.2) (.int .i64 ((rd_T31 t1 x16_1).f3.f0))) (fun _ hk => hk.2) (.int .i64 ((rd_T31 t1 x16_1).f3.f1))) (fun _ hk => hk.2) (.int .i64 ((rd_T31 t1 x16_1).f3.f2))) (fun _ hk => hk.2) (.int .i64 ((rd_T31 t1 x16_1).f4.f0))) (fun _ hk => hk.2) (.int .i64 ((rd_T31 t1 x16_1).f4.f1))) (fun _ hk => hk.2) (.int .i64 ((rd_T31 t1 x16_1).f4.f2))) (fun _ hk => hk.2) (.int .i64 ((rd_T31 t1 x16_1).f5))) (fun _ h_ => h_.1))));(case side2 => exact (Kd.R_reads' HO_8000.out).2.1);rintro e w25 ⟨rfl, hb⟩;refine ⟨_, rfl, ?_⟩;have n0_ := Aside0.mk (Kd.R_below (by (with_reducible repeat (first|apply Kd.R_alloc|apply Kd.R_drewN|apply Kd.R_drew));exact (Kd.R_mono (Kd.R_far (p := ⟨gb9, 11, none⟩) (Kd.R_far (p := ⟨gb9, 10, none⟩) (Kd.R_far (p := ⟨gb9, 9, none⟩) (Kd.R_far (p := ⟨gb9, 8, none⟩) (Kd.R_far (p := ⟨gb9, 7, none⟩) (Kd.R_far (p := ⟨gb9, 6, none⟩) (Kd.R_far (p := ⟨gb9, 5, none⟩) (Kd.R_far (p := ⟨gb9, 4, none⟩) (Kd.R_far (p := ⟨gb9, 3, none⟩) (Kd.R_far (p := ⟨gb9, 2, none⟩) (Kd.R_far (p := ⟨gb9, 1, none⟩) (Kd.R_far (p := ⟨gb9, 0, none⟩) (Kd.R_types HO_6.out BK9.out (by decide)) (fun _ hk => hk.2) (.string ((rd_T31 t1 x16_1).f0))) (fun _ hk => hk.2) (.string ((rd_T31 t1 x16_1).f1))) (fun _ hk => hk.2) (.int .i64 ((rd_T31 t1 x16_1).f2.f0))) (fun _ hk => hk.2) (.int .i64 ((rd_T31 t1 x16_1).f2.f1))) (fun _ hk => hk.2) (.int .i64 ((rd_T31 t1 x16_1).f2.f2))) (fun _ hk => hk.2) (.int .i64 ((rd_T31 t1 x16_1).f3.f0))) (fun _ hk => hk.2) (.int .i64 ((rd_T31 t1 x16_1).f3.f1))) (fun _ hk => hk.2) (.int .i64 ((rd_T31 t1 x16_1).f3.f2))) (fun _ hk => hk.2) (.int .i64 ((rd_T31 t1 x16_1).f4.f0))) (fun _ hk => hk.2) (.int .i64 ((rd_T31 t1 x16_1).f4.f1))) (fun _ hk => hk.2) (.int .i64 ((rd_T31 t1 x16_1).f4.f2))) (fun _ hk => hk.2) (.int .i64 ((rd_T31 t1 x16_1).f5))) (fun _ h_ => h_.1))) hb);have n1_ := Aside0.mk (Kd.R_below (by (with_reducible repeat (first|apply Kd.R_alloc|apply Kd.R_drewN|apply Kd.R_drew));exact (Kd.R_mono (Kd.R_far (p := ⟨gb9, 11, none⟩) (Kd.R_far (p := ⟨gb9, 10, none⟩) (Kd.R_far (p := ⟨gb9, 9, none⟩) (Kd.R_far (p := ⟨gb9, 8, none⟩) (Kd.R_far (p := ⟨gb9, 7, none⟩) (Kd.R_far (p := ⟨gb9, 6, none⟩) (Kd.R_far (p := ⟨gb9, 5, none⟩) (Kd.R_far (p := ⟨gb9, 4, none⟩) (Kd.R_far (p := ⟨gb9, 3, none⟩) (Kd.R_far (p := ⟨gb9, 2, none⟩) (Kd.R_far (p := ⟨gb9, 1, none⟩) (Kd.R_far (p := ⟨gb9, 0, none⟩) (Kd.R_mono HO_14.out (fun k_ hk => (⟨hk, hk.2⟩ : _ ∧ k_ ≠ gb9))) (fun _ hk => hk.2) (.string ((rd_T31 t1 x16_1).f0))) (fun _ hk => hk.2) (.string ((rd_T31 t1 x16_1).f1))) (fun _ hk => hk.2) (.int .i64 ((rd_T31 t1 x16_1).f2.f0))) (fun _ hk => hk.2) (.int .i64 ((rd_T31 t1 x16_1).f2.f1))) (fun _ hk => hk.2) (.int .i64 ((rd_T31 t1 x16_1).f2.f2))) (fun _ hk => hk.2) (.int .i64 ((rd_T31 t1 x16_1).f3.f0))) (fun _ hk => hk.2) (.int .i64 ((rd_T31 t1 x16_1).f3.f1))) (fun _ hk => hk.2) (.int .i64 ((rd_T31 t1 x16_1).f3.f2))) (fun _ hk => hk.2) (.int .i64 ((rd_T31 t1 x16_1).f4.f0))) (fun _ hk => hk.2) (.int .i64 ((rd_T31 t1 x16_1).f4.f1))) (fun _ hk => hk.2) (.int .i64 ((rd_T31 t1 x16_1).f4.f2))) (fun _ hk => hk.2) (.int .i64 ((rd_T31 t1 x16_1).f5))) (fun _ h_ => h_.1))) hb);have n2_ := Aside0.mk (Kd.R_below (by (with_reducible repeat (first|apply Kd.R_alloc|apply Kd.R_drewN|apply Kd.R_drew));exact (Kd.R_mono (Kd.R_far (p := ⟨gb9, 11, none⟩) (Kd.R_far (p := ⟨gb9, 10, none⟩) (Kd.R_far (p := ⟨gb9, 9, none⟩) (Kd.R_far (p := ⟨gb9, 8, none⟩) (Kd.R_far (p := ⟨gb9, 7, none⟩) (Kd.R_far (p := ⟨gb9, 6, none⟩) (Kd.R_far (p := ⟨gb9, 5, none⟩) (Kd.R_far (p := ⟨gb9, 4, none⟩) (Kd.R_far (p := ⟨gb9, 3, none⟩) (Kd.R_far (p := ⟨gb9, 2, none⟩) (Kd.R_far (p := ⟨gb9, 1, none⟩) (Kd.R_far (p := ⟨gb9, 0, none⟩) (Kd.R_mono HO_8000.out (fun k_ hk => (⟨hk, hk.2⟩ : _ ∧ k_ ≠ gb9))) (fun _ hk => hk.2) (.string ((rd_T31 t1 x16_1).f0))) (fun _ hk => hk.2) (.string ((rd_T31 t1 x16_1).f1))) (fun _ hk => hk.2) (.int .i64 ((rd_T31 t1 x16_1).f2.f0))) (fun _ hk => hk.2) (.int .i64 ((rd_T31 t1 x16_1).f2.f1))) (fun _ hk => hk.2) (.int .i64 ((rd_T31 t1 x16_1).f2.f2))) (fun _ hk => hk.2) (.int .i64 ((rd_T31 t1 x16_1).f3.f0))) (fun _ hk => hk.2) (.int .i64 ((rd_T31 t1 x16_1).f3.f1))) (fun _ hk => hk.2) (.int .i64 ((rd_T31 t1 x16_1).f3.f2))) (fun _ hk => hk.2) (.int .i64 ((rd_T31 t1 x16_1).f4.f0))) (fun _ hk => hk.2) (.int .i64 ((rd_T31 t1 x16_1).f4.f1))) (fun _ hk => hk.2) (.int .i64 ((rd_T31 t1 x16_1).f4.f2))) (fun _ hk => hk.2) (.int .i64 ((rd_T31 t1 x16_1).f5))) (fun _ h_ => h_.1))) hb);have n3_ := Aside0.mk (blk_below (g := gb7) (o := .cells #[.slice (some ad8) t1.length co6, .int .i64 t4, .int .i64 t5, .int .i64 t6] 127 (0, 0)) (by (with_reducible repeat (first|refine blk_drewN ?_ _|refine blk_drew ?_|refine blk_alloc ?_ _));refine blk_far ?_ NB7_9.out _;(with_reducible repeat (first|refine blk_drewN ?_ _|refine blk_drew ?_|refine blk_alloc ?_ _));refine blk_far ?_ NB7_9.out _;(with_reducible repeat (first|refine blk_drewN ?_ _|refine blk_drew ?_|refine blk_alloc ?_ _));refine blk_far ?_ NB7_9.out _;(with_reducible repeat (first|refine blk_drewN ?_ _|refine blk_drew ?_|refine blk_alloc ?_ _));refine blk_far ?_ NB7_9.out _;(with_reducible repeat (first|refine blk_drewN ?_ _|refine blk_drew ?_|refine blk_alloc ?_ _));refine blk_far ?_ NB7_9.out _;(with_reducible repeat (first|refine blk_drewN ?_ _|refine blk_drew ?_|refine blk_alloc ?_ _));refine blk_far ?_ NB7_9.out _;(with_reducible repeat (first|refine blk_drewN ?_ _|refine blk_drew ?_|refine blk_alloc ?_ _));refine blk_far ?_ NB7_9.out _;(with_reducible repeat (first|refine blk_drewN ?_ _|refine blk_drew ?_|refine blk_alloc ?_ _));refine blk_far ?_ NB7_9.out _;(with_reducible repeat (first|refine blk_drewN ?_ _|refine blk_drew ?_|refine blk_alloc ?_ _));refine blk_far ?_ NB7_9.out _;(with_reducible repeat (first|refine blk_drewN ?_ _|refine blk_drew ?_|refine blk_alloc ?_ _));refine blk_far ?_ NB7_9.out _;(with_reducible repeat (first|refine blk_drewN ?_ _|refine blk_drew ?_|refine blk_alloc ?_ _));refine blk_far ?_ NB7_9.out _;(with_reducible repeat (first|refine blk_drewN ?_ _|refine blk_drew ?_|refine blk_alloc ?_ _));refine blk_far ?_ NB7_9.out _;(with_reducible repeat (first|refine blk_drewN ?_ _|refine blk_drew ?_|refine blk_alloc ?_ _));exact BK7.out) hb);have n4_ := Aside0.mk (blk_below (g := gb9) (o := .cells #[.string ((rd_T31 t1 x16_1).f0), .string ((rd_T31 t1 x16_1).f1), .int .i64 ((rd_T31 t1 x16_1).f2.f0), .int .i64 ((rd_T31 t1 x16_1).f2.f1), .int .i64 ((rd_T31 t1 x16_1).f2.f2), .int .i64 ((rd_T31 t1 x16_1).f3.f0), .int .i64 ((rd_T31 t1 x16_1).f3.f1), .int .i64 ((rd_T31 t1 x16_1).f3.f2), .int .i64 ((rd_T31 t1 x16_1).f4.f0), .int .i64 ((rd_T31 t1 x16_1).f4.f1), .int .i64 ((rd_T31 t1 x16_1).f4.f2), .int .i64 ((rd_T31 t1 x16_1).f5)] 31 (0, 0)) (by (with_reducible repeat (first|refine blk_drewN ?_ _|refine blk_drew ?_|refine blk_alloc ?_ _));refine blk_put (cs := #[.string ((rd_T31 t1 x16_1).f0), .string ((rd_T31 t1 x16_1).f1), .int .i64 ((rd_T31 t1 x16_1).f2.f0), .int .i64 ((rd_T31 t1 x16_1).f2.f1), .int .i64 ((rd_T31 t1 x16_1).f2.f2), .int .i64 ((rd_T31 t1 x16_1).f3.f0), .int .i64 ((rd_T31 t1 x16_1).f3.f1), .int .i64 ((rd_T31 t1 x16_1).f3.f2), .int .i64 ((rd_T31 t1 x16_1).f4.f0), .int .i64 ((rd_T31 t1 x16_1).f4.f1), .int .i64 ((rd_T31 t1 x16_1).f4.f2), .int .i64 0]) ?_ 11 _ rfl;(with_reducible repeat (first|refine blk_drewN ?_ _|refine blk_drew ?_|refine blk_alloc ?_ _));refine blk_put (cs := #[.string ((rd_T31 t1 x16_1).f0), .string ((rd_T31 t1 x16_1).f1), .int .i64 ((rd_T31 t1 x16_1).f2.f0), .int .i64 ((rd_T31 t1 x16_1).f2.f1), .int .i64 ((rd_T31 t1 x16_1).f2.f2), .int .i64 ((rd_T31 t1 x16_1).f3.f0), .int .i64 ((rd_T31 t1 x16_1).f3.f1), .int .i64 ((rd_T31 t1 x16_1).f3.f2), .int .i64 ((rd_T31 t1 x16_1).f4.f0), .int .i64 ((rd_T31 t1 x16_1).f4.f1), .int .i64 0, .int .i64 0]) ?_ 10 _ rfl;(with_reducible repeat (first|refine blk_drewN ?_ _|refine blk_drew ?_|refine blk_alloc ?_ _));refine blk_put (cs := #[.string ((rd_T31 t1 x16_1).f0), .string ((rd_T31 t1 x16_1).f1), .int .i64 ((rd_T31 t1 x16_1).f2.f0), .int .i64 ((rd_T31 t1 x16_1).f2.f1), .int .i64 ((rd_T31 t1 x16_1).f2.f2), .int .i64 ((rd_T31 t1 x16_1).f3.f0), .int .i64 ((rd_T31 t1 x16_1).f3.f1), .int .i64 ((rd_T31 t1 x16_1).f3.f2), .int .i64 ((rd_T31 t1 x16_1).f4.f0), .int .i64 0, .int .i64 0, .int .i64 0]) ?_ 9 _ rfl;(with_reducible repeat (first|refine blk_drewN ?_ _|refine blk_drew ?_|refine blk_alloc ?_ _));refine blk_put (cs := #[.string ((rd_T31 t1 x16_1).f0), .string ((rd_T31 t1 x16_1).f1), .int .i64 ((rd_T31 t1 x16_1).f2.f0), .int .i64 ((rd_T31 t1 x16_1).f2.f1), .int .i64 ((rd_T31 t1 x16_1).f2.f2), .int .i64 ((rd_T31 t1 x16_1).f3.f0), .int .i64 ((rd_T31 t1 x16_1).f3.f1), .int .i64 ((rd_T31 t1 x16_1).f3.f2), .int .i64 0, .int .i64 0, .int .i64 0, .int .i64 0]) ?_ 8 _ rfl;(with_reducible repeat (first|refine blk_drewN ?_ _|refine blk_drew ?_|refine blk_alloc ?_ _));refine blk_put (cs := #[.string ((rd_T31 t1 x16_1).f0), .string ((rd_T31 t1 x16_1).f1), .int .i64 ((rd_T31 t1 x16_1).f2.f0), .int .i64 ((rd_T31 t1 x16_1).f2.f1), .int .i64 ((rd_T31 t1 x16_1).f2.f2), .int .i64 ((rd_T31 t1 x16_1).f3.f0), .int .i64 ((rd_T31 t1 x16_1).f3.f1), .int .i64 0, .int .i64 0, .int .i64 0, .int .i64 0, .int .i64 0]) ?_ 7 _ rfl;(with_reducible repeat (first|refine blk_drewN ?_ _|refine blk_drew ?_|refine blk_alloc ?_ _));refine blk_put (cs := #[.string ((rd_T31 t1 x16_1).f0), .string ((rd_T31 t1 x16_1).f1), .int .i64 ((rd_T31 t1 x16_1).f2.f0), .int .i64 ((rd_T31 t1 x16_1).f2.f1), .int .i64 ((rd_T31 t1 x16_1).f2.f2), .int .i64 ((rd_T31 t1 x16_1).f3.f0), .int .i64 0, .int .i64 0, .int .i64 0, .int .i64 0, .int .i64 0, .int .i64 0]) ?_ 6 _ rfl;(with_reducible repeat (first|refine blk_drewN ?_ _|refine blk_drew ?_|refine blk_alloc ?_ _));refine blk_put (cs := #[.string ((rd_T31 t1 x16_1).f0), .string ((rd_T31 t1 x16_1).f1), .int .i64 ((rd_T31 t1 x16_1).f2.f0), .int .i64 ((rd_T31 t1 x16_1).f2.f1), .int .i64 ((rd_T31 t1 x16_1).f2.f2), .int .i64 0, .int .i64 0, .int .i64 0, .int .i64 0, .int .i64 0, .int .i64 0, .int .i64 0]) ?_ 5 _ rfl;(with_reducible repeat (first|refine blk_drewN ?_ _|refine blk_drew ?_|refine blk_alloc ?_ _));refine blk_put (cs := #[.string ((rd_T31 t1 x16_1).f0), .string ((rd_T31 t1 x16_1).f1), .int .i64 ((rd_T31 t1 x16_1).f2.f0), .int .i64 ((rd_T31 t1 x16_1).f2.f1), .int .i64 0, .int .i64 0, .int .i64 0, .int .i64 0, .int .i64 0, .int .i64 0, .int .i64 0, .int .i64 0]) ?_ 4 _ rfl;(with_reducible repeat (first|refine blk_drewN ?_ _|refine blk_drew ?_|refine blk_alloc ?_ _));refine blk_put (cs := #[.string ((rd_T31 t1 x16_1).f0), .string ((rd_T31 t1 x16_1).f1), .int .i64 ((rd_T31 t1 x16_1).f2.f0), .int .i64 0, .int .i64 0, .int .i64 0, .int .i64 0, .int .i64 0, .int .i64 0, .int .i64 0, .int .i64 0, .int .i64 0]) ?_ 3 _ rfl;(with_reducible repeat (first|refine blk_drewN ?_ _|refine blk_drew ?_|refine blk_alloc ?_ _));refine blk_put (cs := #[.string ((rd_T31 t1 x16_1).f0), .string ((rd_T31 t1 x16_1).f1), .int .i64 0, .int .i64 0, .int .i64 0, .int .i64 0, .int .i64 0, .int .i64 0, .int .i64 0, .int .i64 0, .int .i64 0, .int .i64 0]) ?_ 2 _ rfl;(with_reducible repeat (first|refine blk_drewN ?_ _|refine blk_drew ?_|refine blk_alloc ?_ _));refine blk_put (cs := #[.string ((rd_T31 t1 x16_1).f0), .string (⟨#[]⟩ : ByteArray), .int .i64 0, .int .i64 0, .int .i64 0, .int .i64 0, .int .i64 0, .int .i64 0, .int .i64 0, .int .i64 0, .int .i64 0, .int .i64 0]) ?_ 1 _ rfl;(with_reducible repeat (first|refine blk_drewN ?_ _|refine blk_drew ?_|refine blk_alloc ?_ _));refine blk_put (cs := #[.string (⟨#[]⟩ : ByteArray), .string (⟨#[]⟩ : ByteArray), .int .i64 0, .int .i64 0, .int .i64 0, .int .i64 0, .int .i64 0, .int .i64 0, .int .i64 0, .int .i64 0, .int .i64 0, .int .i64 0]) ?_ 0 _ rfl;(with_reducible repeat (first|refine blk_drewN ?_ _|refine blk_drew ?_|refine blk_alloc ?_ _));exact BK9.out) hb);have n5_ := Aside0.mk (below_step (by repeat (first|(with_reducible first|exact HB.out|apply below_alloc|apply pw_below_drewN|apply below_drew1|refine below_set ?_ GE7.out|refine below_set ?_ GE9.out)|exact HB.out)) hb);clear HO_6;clear HO_14;clear HO_8000;clear BK7;clear BK9;clear HB;have HO_6 := n0_;have HO_14 := n1_;have HO_8000 := n2_;have BK7 := n3_;have BK9 := n4_;have HB := n5_;clear n0_ n1_ n2_ n3_ n4_ n5_;(try clear hb);(try clear hb2);(try clear hk);(try clear hi)))
       go_roundg k1
       case measure => have := HK1.out; omega
       case rel => exact ⟨(x6_1), (wrap64 (x16_1 + 1)), (by first|rfl|(simp;done)|(simp [*];done)), H', ⟨by have := HK1.out;omega⟩, ⟨by (with_reducible repeat (first|apply Kd.R_alloc|apply Kd.R_drewN|apply Kd.R_drew));exact HO_6.out⟩, ⟨by (with_reducible repeat (first|apply Kd.R_alloc|apply Kd.R_drewN|apply Kd.R_drew));exact Kd.R_mono HO_14.out (fun _ hk => trivial)⟩, ⟨by (with_reducible repeat (first|apply Kd.R_alloc|apply Kd.R_drewN|apply Kd.R_drew));exact Kd.R_mono HO_8000.out (fun _ hk => trivial)⟩, ⟨by (with_reducible repeat (first|refine blk_drewN ?_ _|refine blk_drew ?_|refine blk_alloc ?_ _));exact BK7.out⟩, ⟨by repeat (first|(with_reducible first|exact HB.out|apply below_alloc|apply pw_below_drewN|apply below_drew1|refine below_set ?_ GE7.out|refine below_set ?_ GE9.out)|exact HB.out)⟩⟩
     ·rw [if_neg c10] at H
      exact absurd H (by simp)
    ·rw [if_neg c9] at H
     exact absurd H (by simp)
   ·rw [if_neg c8] at H
    have c8b0 : decide (x16_1 < (t1.length : Int)) = false := decide_eq_false c8
    clear c8
    obtain rfl := Option.some.inj H
    go_wp2
    go_ret
    exact ⟨_, by first|rfl|(simp [errW_none, errW_some] <;> rfl)|(simp [*, errW_none, errW_some] <;> rfl), by (with_reducible repeat (first|apply Kd.R_alloc|apply Kd.R_drewN|apply Kd.R_drew));exact HO_6.out, by repeat (first|(with_reducible first|exact HB.out|apply below_alloc|apply pw_below_drewN|apply below_drew1|refine below_set ?_ GE7.out)|exact HB.out)⟩
end Go.Proofs.Ytcgefpklljclgaa.Print

namespace Go.Proofs.Ytcgefpklljclgaa.Print
open Go.RowKit Go.Proofs.YtcgefpklljclgaaW.PrintWords Go.Proofs.YtcgefpklljclgaaW.PrintLast Go.Proofs.YtcgefpklljclgaaW.PrintMore
attribute [local go_sem] max2_int min2_int max_two min_two max_three min_three max_four min_four   -- for this text's walks alone
set_option linter.unusedVariables false
set_option linter.unusedSimpArgs false
/-! ### idx_Str: function 164 -/
theorem at_str {w : World} {A : Option Addr} {n : Nat} {xs : List ByteArray} (h : Kd.C Kd.string w A n xs) (i : Int) (h0 : 0 ≤ i) (h1 : i < n) : ∃ ad, A = some ad ∧ w.cell? (ad.add i.toNat) = some (.string (rdOf ByteArray.empty xs i)) := by
  obtain ⟨ad, c, e, _, hK, hc⟩ := Kd.C_get h ByteArray.empty i h0 h1
  have hc0 : ∀ j u, c[j]? = some u → w.cell? (ad.add (i.toNat * 1 + j)) = some u := hc
  obtain rfl : c = [.string (xs.getD i.toNat ByteArray.empty)] := hK
  have := hc0 0 _ rfl
  rw [Nat.mul_one, Nat.add_zero] at this
  exact ⟨ad, e, this⟩
-- uses fidx
set_option maxHeartbeats 1000000 in
set_option maxRecDepth 100000 in
theorem idxStr_calls (g : Nat) (lb : Array Value) (p : ByteArray → Bool) (eg : ∀ args w, (callFunc g args).run Try.prog w = .ok (.enter g args) w) (w : World) (A : Option Addr) (c : Nat) (l : List ByteArray)
    (hp : ∀ W x, x ∈ l → Below w.heap.size w W → Calls Try.prog g (#[.string x] ++ lb) W fun e w' => e = .returned (.bool (p x)) ∧ Below W.heap.size W w')
    (hr0 : Kd.C Kd.string w A l.length l) (hc0 : l.length ≤ c) :
    Calls Try.prog 164 #[.slice A l.length c, .func (.func g) #[] lb] w fun e w' => e = .returned (.int .i64 (fidx p l 0)) ∧ Below w.heap.size w w' := by
  have HR0 := Aside0.mk hr0
  have HP := Aside0.mk hp
  have HEG := Aside0.mk eg
  have hm : l.length ≤ 9223372036854775807 := hr0.2.1
  clear hr0 hp eg
  go_enter Try.func164, Try.ntmps164
  go_wp2
  go_loopg [5, 8] l.length (fun kq s5 s8 wr => ∃ i : Nat, i ≤ l.length ∧ l.length - i ≤ kq ∧ s8 = .int .i64 i ∧ Aside0 (Below w.heap.size w wr) ∧ Aside0 (fidx p l 0 = fidx p (l.drop i) i))
  case atStart => exact ⟨0, by omega, by omega, rfl, ⟨Below.refl _ _⟩, ⟨rfl⟩⟩
  case round =>
    obtain ⟨i, hi, hg, rfl, HB, HF⟩ := hrel
    by_cases hlt : i < l.length
    · have hltz : (i : Int) < (l.length : Int) := by omega
      obtain ⟨ad, e1, h0⟩ := at_str HR0.out (i : Int) (by omega) (by omega)
      cases e1
      simp only [Int.toNat_natCast] at h0
      replace h0 := (HB.out.cell (World.block_lt_of_cell? w _ h0)).trans h0
      have hd : Aside0 _ := ⟨fidx_drop p ByteArray.empty l i hlt⟩
      have HC := Aside0.mk (HP.out wr (rdOf ByteArray.empty l i) (by simp [rdOf, hlt]) HB.out)
      generalize hy : rdOf ByteArray.empty l i = y at h0 HC
      have hq : p (l.getD i ByteArray.empty) = p y := by rw [← hy]; simp [rdOf]
      have HQ := Aside0.mk hq
      clear hy hq
      have eg := HEG.out
      cases hb : p y with
      | true =>
        rw [hb] at HC HQ
        clear hb
        go_wp2_with (go_at_fn g;refine HC.out.mono ?_;rintro e w' ⟨rfl, hb'⟩;have HB' := Aside0.mk (below_step HB.out hb');clear hb')
        go_ret
        refine ⟨?_, HB'.out⟩
        rw [HF.out, hd.out, HQ.out]
        rfl
      | false =>
        rw [hb] at HC HQ
        clear hb
        go_wp2_with (go_at_fn g;refine HC.out.mono ?_;rintro e w' ⟨rfl, hb'⟩;have HB' := Aside0.mk (below_step HB.out hb');clear hb')
        go_roundg (l.length - (i + 1))
        case measure => omega
        case rel => exact ⟨i + 1, by omega, by omega, by go_num, HB', ⟨by rw [HF.out, hd.out, HQ.out];rfl⟩⟩
    · obtain rfl : i = l.length := by omega
      go_wp2
      go_ret
      refine ⟨?_, HB.out⟩
      rw [HF.out, List.drop_length]
      rfl
end Go.Proofs.Ytcgefpklljclgaa.Print

namespace Go.Proofs.Ytcgefpklljclgaa.Print
open Go.RowKit Go.Proofs.YtcgefpklljclgaaW.PrintWords Go.Proofs.YtcgefpklljclgaaW.PrintLast Go.Proofs.YtcgefpklljclgaaW.PrintMore
attribute [local go_sem] max2_int min2_int max_two min_two max_three min_three max_four min_four   -- for this text's walks alone
set_option linter.unusedVariables false
set_option linter.unusedSimpArgs false
/-! ### contains_Str: function 129 -/
theorem fidx_any {α : Type} (p : α → Bool) : ∀ (l : List α) (i : Int), 0 ≤ i → decide (0 ≤ fidx p l i) = l.any p
  | [], _, _ => rfl
  | x :: l, i, h => by
    unfold fidx
    rw [List.any_cons]
    by_cases hx : p x = true
    · rw [if_pos hx, hx]; simpa using h
    · rw [if_neg hx, fidx_any p l (i + 1) (by omega)]
      simp [hx]
set_option maxHeartbeats 1000000 in
set_option maxRecDepth 100000 in
theorem containsStr_calls (g : Nat) (lb : Array Value) (p : ByteArray → Bool) (eg : ∀ args w, (callFunc g args).run Try.prog w = .ok (.enter g args) w) (w : World) (A : Option Addr) (c : Nat) (l : List ByteArray)
    (hp : ∀ W x, x ∈ l → Below w.heap.size w W → Calls Try.prog g (#[.string x] ++ lb) W fun e w' => e = .returned (.bool (p x)) ∧ Below W.heap.size W w')
    (hr0 : Kd.C Kd.string w A l.length l) (hc0 : l.length ≤ c) :
    Calls Try.prog 129 #[.slice A l.length c, .func (.func g) #[] lb] w fun e w' => e = .returned (.bool (l.any p)) ∧ Below w.heap.size w w' := by
  have HC := Aside0.mk (idxStr_calls g lb p eg w A c l hp hr0 hc0)
  rw [← fidx_any p l 0 (by omega)]
  generalize fidx p l 0 = r at HC
  clear hp hr0 eg
  go_enter Try.func129, Try.ntmps129
  go_wp2_with (go_at_call 164;refine HC.out.mono ?_;rintro e w' ⟨rfl, hb'⟩;have HB' := Aside0.mk hb';clear hb')
  go_ret
  exact ⟨rfl, HB'.out⟩
end Go.Proofs.Ytcgefpklljclgaa.Print

namespace Go.Proofs.Ytcgefpklljclgaa.Print
open Go.RowKit Go.Proofs.YtcgefpklljclgaaW.PrintWords Go.Proofs.YtcgefpklljclgaaW.PrintLast Go.Proofs.YtcgefpklljclgaaW.PrintMore
attribute [local go_sem] max2_int min2_int max_two min_two max_three min_three max_four min_four   -- for this text's walks alone
set_option linter.unusedVariables false
set_option linter.unusedSimpArgs false
/-! ### slices_Index_string_string: function 165 -/
def slices_Index_string_string.l0 : Nat → List ByteArray → ByteArray → Int → Int → Option (Int)
 | 0, _, _, _, _ => none
 | k + 1, x0, x1, x7, x8 => if x8 < x7 then (if 0 ≤ x8 then (if x8 < (x0.length : Int) then (if x1.toList = (rdOf ByteArray.empty x0 x8).toList then (some x8) else (slices_Index_string_string.l0 k x0 x1 x7 (wrap64 (x8 + 1)))) else (none)) else (none)) else (some (-1))
def slices_Index_string_string.f (k : Nat) (l0 : List ByteArray) (a1 : ByteArray) : Option (Int) := slices_Index_string_string.l0 k l0 a1 (l0.length : Int) 0
theorem slices_Index_string_string.mono_l : ∀ k, (∀ y0 y1 y2 y3, LeO (slices_Index_string_string.l0 k y0 y1 y2 y3) (slices_Index_string_string.l0 (k + 1) y0 y1 y2 y3))
 | 0 => fun _ _ _ _ r h => by simp [slices_Index_string_string.l0] at h
 | k + 1 => by
  have ih0 := slices_Index_string_string.mono_l k
  ·intro y0 y1 y2 y3
   unfold slices_Index_string_string.l0
   repeat' first
   | (with_reducible exact ih0 _ _ _ _)
   | (with_reducible exact LeO.refl _)
   | (with_reducible exact LeO.none _)
   | (with_reducible refine LeO.ite ?_ ?_)
   | (with_reducible refine LeO.bind ?_ (fun _ => ?_))
   | exact ih0 _ _ _ _
   | exact LeO.none _
   | refine LeO.ite ?_ ?_
   | refine LeO.bind ?_ (fun _ => ?_)
theorem slices_Index_string_string.mono : ∀ a0 a1 k, LeO (slices_Index_string_string.f k a0 a1) (slices_Index_string_string.f (k + 1) a0 a1) := by
 intro a0 a1 k
 have ih0 := slices_Index_string_string.mono_l k
 unfold slices_Index_string_string.f
 repeat' first
   | (with_reducible exact ih0 _ _ _ _)
   | (with_reducible exact LeO.refl _)
   | (with_reducible exact LeO.none _)
   | (with_reducible refine LeO.ite ?_ ?_)
   | (with_reducible refine LeO.bind ?_ (fun _ => ?_))
   | exact ih0 _ _ _ _
   | exact LeO.none _
   | refine LeO.ite ?_ ?_
   | refine LeO.bind ?_ (fun _ => ?_)
set_option maxHeartbeats 8000000 in
set_option maxRecDepth 100000 in
theorem slices_Index_string_string.calls (k : Nat) (A0 : Option Addr) (c0 : Nat) (l0 : List ByteArray) (a1 : ByteArray) (r : Int) (w : World) (hr0 : Kd.C Kd.string w A0 l0.length l0) (hc0 : l0.length ≤ c0) (h : slices_Index_string_string.f k l0 a1 = some r) :
  Calls Try.prog 165 #[.slice A0 l0.length c0, .string a1] w fun e w' => e = .returned (.int .i64 r) ∧ Drawn0 w w' := by
 have HR0 := Aside0.mk hr0
 have HC0 := Aside0.mk hc0
 clear hr0 hc0
 have H : (slices_Index_string_string.l0 k l0 a1 (l0.length : Int) 0) = some r := h
 clear h
 have H' := Aside0.mk H
 clear H
 go_enter Try.func165, Try.ntmps165
 go_wp2
 go_loopg [8] k (fun kq v8 w' => ∃ (x8_1 : Int), v8 = .int .i64 x8_1 ∧ Aside0 (slices_Index_string_string.l0 kq l0 a1 (l0.length : Int) x8_1 = some r) ∧ Aside0 (kq ≤ k) ∧ Drawn0 w w')
 case atStart => exact ⟨(0), (by first | rfl | (simp; done) | (simp [*]; done)), H', ⟨Nat.le_refl _⟩, by repeat (first | exact Drawn0.refl _ | apply Drawn0.step)⟩
 case round =>
  clear H'
  try clear c1
  try clear p2
  obtain ⟨x8_1, rfl, HA, HK1, ⟨m1, rfl⟩⟩ := hrel
  cases gk with
  | zero => exact absurd HA.out (by simp [slices_Index_string_string.l0])
  | succ k1 =>
   have H := HA.out
   clear HA
   simp only [slices_Index_string_string.l0] at H
   by_cases c3 : x8_1 < (l0.length : Int)
   ·rw [if_pos c3] at H
    have c3b0 : decide (x8_1 < (l0.length : Int)) = true := decide_eq_true c3
    clear c3
    by_cases c4 : 0 ≤ x8_1
    ·rw [if_pos c4] at H
     have c4b0 : decide (0 ≤ x8_1) = true := decide_eq_true c4
     clear c4
     by_cases c5 : x8_1 < (l0.length : Int)
     ·rw [if_pos c5] at H
      have c5b0 : decide (x8_1 < (l0.length : Int)) = true := decide_eq_true c5
      clear c5
      by_cases c6 : a1.toList = (rdOf ByteArray.empty l0 x8_1).toList
      ·rw [if_pos c6] at H
       have c6b0 : (a1.toList == (rdOf ByteArray.empty l0 x8_1).toList) = true := beq_iff_eq.mpr c6
       have c6b1 : (a1.toList != (rdOf ByteArray.empty l0 x8_1).toList) = false := bne_eq_false_iff_eq.mpr c6
       clear c6
       obtain rfl := Option.some.inj H
       have p1 : 0 ≤ (x8_1 : Int) := of_decide_eq_true (by first|(with_reducible assumption)|assumption)
       have q1 : x8_1 < (l0.length : Int) := of_decide_eq_true (by first|(with_reducible assumption)|assumption)
       obtain ⟨ad1, e1, hx1_0⟩ := Kd.at_string HR0.out x8_1 p1 q1
       cases e1
       replace p1 := eq_true p1
       replace q1 := eq_true q1
       go_wp2
       go_ret
       exact ⟨by first | rfl | (simp; done) | (simp [*]; done), by repeat (first | exact Drawn0.refl _ | apply Drawn0.step)⟩
      ·rw [if_neg c6] at H
       have c6b0 : (a1.toList == (rdOf ByteArray.empty l0 x8_1).toList) = false := beq_eq_false_iff_ne.mpr c6
       have c6b1 : (a1.toList != (rdOf ByteArray.empty l0 x8_1).toList) = true := bne_iff_ne.mpr c6
       have H' := Aside0.mk H
       clear H
       have p1 : 0 ≤ (x8_1 : Int) := of_decide_eq_true (by first|(with_reducible assumption)|assumption)
       have q1 : x8_1 < (l0.length : Int) := of_decide_eq_true (by first|(with_reducible assumption)|assumption)
       obtain ⟨ad1, e1, hx1_0⟩ := Kd.at_string HR0.out x8_1 p1 q1
       cases e1
       replace p1 := eq_true p1
       replace q1 := eq_true q1
       go_wp2
       go_roundg k1
       case measure => have := HK1.out; omega
       case rel => exact ⟨(wrap64 (x8_1 + 1)), (by first|rfl|(simp;done)|(simp [*];done)), H', ⟨by have := HK1.out;omega⟩, by repeat (first|exact Drawn0.refl _|apply Drawn0.step)⟩
     ·rw [if_neg c5] at H
      exact absurd H (by simp)
    ·rw [if_neg c4] at H
     exact absurd H (by simp)
   ·rw [if_neg c3] at H
    have c3b0 : decide (x8_1 < (l0.length : Int)) = false := decide_eq_false c3
    clear c3
    obtain rfl := Option.some.inj H
    go_wp2
    go_ret
    exact ⟨by first | rfl | (simp; done) | (simp [*]; done), by repeat (first | exact Drawn0.refl _ | apply Drawn0.step)⟩
end Go.Proofs.Ytcgefpklljclgaa.Print

namespace Go.Proofs.Ytcgefpklljclgaa.Print
open Go.RowKit Go.Proofs.YtcgefpklljclgaaW.PrintWords Go.Proofs.YtcgefpklljclgaaW.PrintLast Go.Proofs.YtcgefpklljclgaaW.PrintMore
attribute [local go_sem] max2_int min2_int max_two min_two max_three min_three max_four min_four   -- for this text's walks alone
set_option linter.unusedVariables false
set_option linter.unusedSimpArgs false
/-! ### slices_Contains_string_string: function 131 -/
def slices_Contains_string_string.f (k : Nat) (l0 : List ByteArray) (a1 : ByteArray) : Option (Bool) := (slices_Index_string_string.f k l0 a1).bind fun t1 => (some (decide (t1 ≥ 0)))
theorem slices_Contains_string_string.mono : ∀ a0 a1 k, LeO (slices_Contains_string_string.f k a0 a1) (slices_Contains_string_string.f (k + 1) a0 a1) := by
 intro a0 a1 k
 unfold slices_Contains_string_string.f
 repeat' first
   | (with_reducible exact slices_Index_string_string.mono _ _ _)
   | (with_reducible exact LeO.refl _)
   | (with_reducible exact LeO.none _)
   | (with_reducible refine LeO.ite ?_ ?_)
   | (with_reducible refine LeO.bind ?_ (fun _ => ?_))
   | exact slices_Index_string_string.mono _ _ _
   | exact LeO.none _
   | refine LeO.ite ?_ ?_
   | refine LeO.bind ?_ (fun _ => ?_)
set_option maxHeartbeats 8000000 in
set_option maxRecDepth 100000 in
theorem slices_Contains_string_string.calls (k : Nat) (A0 : Option Addr) (c0 : Nat) (l0 : List ByteArray) (a1 : ByteArray) (r : Bool) (w : World) (hr0 : Kd.C Kd.string w A0 l0.length l0) (hc0 : l0.length ≤ c0) (h : slices_Contains_string_string.f k l0 a1 = some r) :
  Calls Try.prog 131 #[.slice A0 l0.length c0, .string a1] w fun e w' => e = .returned (.bool r) ∧ Drawn0 w w' := by
 have HR0 := Aside0.mk hr0
 have HC0 := Aside0.mk hc0
 clear hr0 hc0
 have H : ((slices_Index_string_string.f k l0 a1).bind fun t1 => (some (decide (t1 ≥ 0)))) = some r := h
 clear h
 replace H := Option.bind_eq_some_iff.mp H
 obtain ⟨t1, A30, H⟩ := H
 replace H : (some (decide (t1 ≥ 0))) = some r := H
 have A3 := Aside0.mk A30
 clear A30
 obtain rfl := Option.some.inj H
 go_enter Try.func131, Try.ntmps131
 go_wp2_with (first|((with_reducible refine gate_callee (f := 165) rfl ?_);refine goesL_ (some 7) rfl rfl Try.func165 (by kernel_rfl) rfl #[.slice A0 l0.length c0, .string a1] rfl (by (try simp only [List.map_toArray, List.map_cons, List.map_nil]);first|done|rfl|(simp only [List.length_drop, List.length_take];rfl)) ?_;(with_reducible refine (slices_Index_string_string.calls k _ _ l0 a1 t1 _ ?side1 ?side2 A3.out).mono ?_);(case side1 => repeat (first|exact HR0.out|(with_reducible refine Kd.C_alloc ?_ _)|(with_reducible refine Kd.C_drewN ?_ _)|(with_reducible refine Kd.C_drew ?_)));(case side2 => exact HC0.out);rintro e w' ⟨rfl, ⟨nd, rfl⟩⟩;refine ⟨_, rfl, ?_⟩))
 go_ret
 exact ⟨by first | rfl | (simp; done) | (simp [*]; done), by repeat (first | exact Drawn0.refl _ | apply Drawn0.step)⟩
end Go.Proofs.Ytcgefpklljclgaa.Print

namespace Go.Proofs.Ytcgefpklljclgaa.Print
open Go.RowKit Go.Proofs.YtcgefpklljclgaaW.PrintWords Go.Proofs.YtcgefpklljclgaaW.PrintLast Go.Proofs.YtcgefpklljclgaaW.PrintMore
attribute [local go_sem] max2_int min2_int max_two min_two max_three min_three max_four min_four   -- for this text's walks alone
set_option linter.unusedVariables false
set_option linter.unusedSimpArgs false
/-! ### room_Share: function 74 -/
/-- is the string among these? -/
def hasStr (l : List ByteArray) (s : ByteArray) : Bool := l.any (fun x => decide (s.toList = x.toList))
theorem index_some (l : List ByteArray) (s : ByteArray) (hl : l.length < 1000000000) : ∀ (d i : Nat), l.length - i = d → i ≤ l.length → ∃ r, slices_Index_string_string.l0 (d + 1) l s l.length i = some r ∧ decide (r ≥ 0) = hasStr (l.drop i) s
  | 0, i, hd, hi => by
    obtain rfl : i = l.length := by omega
    refine ⟨-1, ?_, by rw [List.drop_length]; rfl⟩
    simp only [slices_Index_string_string.l0]
    rw [if_neg (by omega)]
  | d + 1, i, hd, hi => by
    have hlt : i < l.length := by omega
    have hrd : rdOf ByteArray.empty l (i : Int) = l[i] := by simp [rdOf, hlt]
    rw [List.drop_eq_getElem_cons hlt]
    obtain ⟨r, h1, h2⟩ := index_some l s hl d (i + 1) (by omega) (by omega)
    rw [slices_Index_string_string.l0, if_pos (by omega), if_pos (by omega), if_pos (by omega), hrd]
    by_cases e : s.toList = l[i].toList
    · refine ⟨i, if_pos e, ?_⟩
      unfold hasStr
      rw [List.any_cons, decide_eq_true e]
      simp
    · refine ⟨r, ?_, ?_⟩
      · rw [if_neg e, show wrap64 ((i : Int) + 1) = ((i + 1 : Nat) : Int) from by unfold wrap64; omega]; exact h1
      · rw [h2]; unfold hasStr; rw [List.any_cons, decide_eq_false e, Bool.false_or]
theorem contains_some (l : List ByteArray) (s : ByteArray) (hl : l.length < 1000000000) : ∃ k, slices_Contains_string_string.f k l s = some (hasStr l s) := by
  obtain ⟨r, h1, h2⟩ := index_some l s hl _ 0 rfl (by omega)
  refine ⟨l.length - 0 + 1, ?_⟩
  unfold slices_Contains_string_string.f slices_Index_string_string.f
  rw [show ((0 : Nat) : Int) = 0 from rfl] at h1
  rw [h1, Option.bind_some, h2]
  rfl
set_option maxHeartbeats 1000000 in
set_option maxRecDepth 100000 in
theorem share1_calls (W : World) (b : Nat) (An : Option Addr) (cn : Nat) (ns : List ByteArray) (s : ByteArray) (hb : W.heap[b]? = some (.cells #[.slice An ns.length cn] 74 (0, 0))) (hr : Kd.C Kd.string W An ns.length ns) (hc : ns.length ≤ cn) (hl : ns.length < 1000000000) :
    Calls Try.prog 130 #[.string s, .pointer (some ⟨b, 0, none⟩)] W fun e w' => e = .returned (.bool (hasStr ns s)) ∧ Below W.heap.size W w' := by
  obtain ⟨k, hk⟩ := contains_some ns s hl
  have h0 := (blk_cell hb 0).trans rfl
  have HK := Aside0.mk (slices_Contains_string_string.calls k An cn ns s _ W hr hc hk)
  clear hk hr hb
  go_enter Try.func130, Try.ntmps130
  go_wp2_with (go_at_call 131;refine HK.out.mono ?_;rintro e w' ⟨rfl, hb'⟩;have HB' := Aside0.mk hb';clear hb')
  go_ret
  exact ⟨rfl, HB'.out.below⟩
/-- what is shared: the nodes of these names of which none is below another's -/
def room_Share.l0 : Nat → List S31 → List ByteArray → Int → List S27 → Option (List S27)
  | 0, _, _, _, _ => none
  | k + 1, l, ns, i, acc => if i < (l.length : Int) then (if 0 ≤ i then ((tree_Up.f k l (rd_T31 l i).f0).bind fun us => if 1 ≤ us.length then (if hasStr ns (rd_T31 l i).f0 = true ∧ (us.drop 1).any (hasStr ns) = false then (if acc.length < 1000000000 then room_Share.l0 k l ns (wrap64 (i + 1)) (acc ++ [(rd_T31 l i).f4]) else none) else room_Share.l0 k l ns (wrap64 (i + 1)) acc) else none) else none) else some acc
def room_Share.f (k : Nat) (l0 : List (S31)) (l1 : List ByteArray) : Option (Int × Int × Int) := if l1.length < 1000000000 then (room_Share.l0 k l0 l1 0 []).bind fun all => vec_Add.f all else none
theorem room_Share.mono_l : ∀ k, (∀ y0 y1 y2 y3, LeO (room_Share.l0 k y0 y1 y2 y3) (room_Share.l0 (k + 1) y0 y1 y2 y3))
  | 0 => fun _ _ _ _ r h => by simp [room_Share.l0] at h
  | k + 1 => by
    have ih0 := room_Share.mono_l k
    intro y0 y1 y2 y3
    unfold room_Share.l0
    repeat' first
      | (with_reducible exact ih0 _ _ _ _)
      | (with_reducible exact tree_Up.mono _ _ _)
      | (with_reducible exact LeO.refl _)
      | (with_reducible exact LeO.none _)
      | (with_reducible refine LeO.ite ?_ ?_)
      | (with_reducible refine LeO.bind ?_ (fun _ => ?_))
theorem room_Share.mono : ∀ a0 a1 k, LeO (room_Share.f k a0 a1) (room_Share.f (k + 1) a0 a1) := by
  intro a0 a1 k
  unfold room_Share.f
  exact LeO.ite (LeO.bind (room_Share.mono_l k _ _ _ _) (fun _ => LeO.refl _)) (LeO.refl _)
set_option maxHeartbeats 8000000 in
set_option maxRecDepth 100000 in
theorem room_Share.calls (k : Nat) (A0 : Option Addr) (c0 : Nat) (l0 : List (S31)) (A1 : Option Addr) (c1 : Nat) (l1 : List ByteArray) (r1 : Int) (r2 : Int) (r3 : Int) (w : World) (hr0 : Kd.C k31 w A0 l0.length l0) (hc0 : l0.length ≤ c0) (hr1 : Kd.C Kd.string w A1 l1.length l1) (hc1 : l1.length ≤ c1) (h : room_Share.f k l0 l1 = some (r1, r2, r3)) :
    Calls Try.prog 74 #[.slice A0 l0.length c0, .slice A1 l1.length c1] w fun e w' => e = .returned (.agg #[.int .i64 r1, .int .i64 r2, .int .i64 r3]) ∧ Below w.heap.size w w' := by
  have hu31 := Try.underlying31
  have hu27 := Try.underlying27
  have hx : l1.length < 1000000000 ∧ ∃ all, room_Share.l0 k l0 l1 0 [] = some all ∧ vec_Add.f all = some (r1, r2, r3) := by
    unfold room_Share.f at h
    split at h
    · obtain ⟨all, h1, h2⟩ := Option.bind_eq_some_iff.1 h
      exact ⟨by assumption, all, h1, h2⟩
    · cases h
  obtain ⟨hl1, all, hall, hadd⟩ := hx
  have hm0 : l0.length ≤ 9223372036854775807 := hr0.2.1
  have HR0 := Aside0.mk hr0
  have HR1 := Aside0.mk hr1
  have HC0 := Aside0.mk hc0
  have HC1 := Aside0.mk hc1
  have HL1 := Aside0.mk hl1
  have HADD := Aside0.mk hadd
  have H' := Aside0.mk hall
  clear h hr0 hr1 hc0 hc1 hall hadd hl1
  obtain ⟨w2, hw2⟩ : ∃ w2, w2 = (w.alloc (.cells #[.slice A1 l1.length c1] 74)).alloc (.cells #[.int .i64 0, .int .i64 0, .int .i64 0] 27) := ⟨_, rfl⟩
  have HN := Aside0.mk (show w2.heap[w.heap.size]? = some (.cells #[.slice A1 l1.length c1] 74 (0, 0)) from by rw [hw2]; exact blk_alloc (blk_new _ _) _)
  have HZ := Aside0.mk (show w2.heap[w.heap.size + 1]? = some (.cells #[.int .i64 0, .int .i64 0, .int .i64 0] 27 (0, 0)) from by
    rw [hw2]
    have := blk_new (w.alloc (.cells #[.slice A1 l1.length c1] 74)) (.cells #[.int .i64 0, .int .i64 0, .int .i64 0] 27)
    simpa using this)
  have HB := Aside0.mk (show Below w.heap.size w w2 from by rw [hw2]; exact below_alloc (below_alloc (Below.refl _ _) _) _)
  have HS := Aside0.mk (show w.heap.size + 2 ≤ w2.heap.size from by rw [hw2]; simp)
  go_enter Try.func74, Try.ntmps74
  go_wp2
  rw [← hw2]
  clear hw2
  go_loopg [5, 12] k (fun kq v5 v12 wr => ∃ (i : Int) (acc : List S27), v12 = .int .i64 i ∧ Aside0 (room_Share.l0 kq l0 l1 i acc = some all) ∧ Aside0 (kq ≤ k) ∧ Aside0 (Below w.heap.size w wr) ∧ Aside0 (w.heap.size + 2 ≤ wr.heap.size) ∧ Aside0 (wr.heap[w.heap.size]? = some (.cells #[.slice A1 l1.length c1] 74 (0, 0))) ∧ Aside0 (wr.heap[w.heap.size + 1]? = some (.cells #[.int .i64 0, .int .i64 0, .int .i64 0] 27 (0, 0))) ∧ Aside0 (Kd.R k27 27 wr (w.heap.size + 2) (fun _ => True) v5 acc))
  case atStart => exact ⟨0, [], rfl, H', ⟨Nat.le_refl _⟩, HB, HS, HN, HZ, ⟨Kd.R_nil _ _ _ _ _⟩⟩
  case round =>
    clear H' HB HS HN HZ
    obtain ⟨i, acc, rfl, HA, HK1, HB, HS, HN, HZ, HO⟩ := hrel
    cases gk with
    | zero => exact absurd HA.out (by simp [room_Share.l0])
    | succ k1 =>
      have H := HA.out
      clear HA
      rw [room_Share.l0] at H
      by_cases hi : i < (l0.length : Int)
      · rw [if_pos hi] at H
        by_cases hi0 : 0 ≤ i
        · rw [if_pos hi0] at H
          obtain ⟨us, hus, H⟩ := Option.bind_eq_some_iff.1 H
          by_cases h1 : 1 ≤ us.length
          · rw [if_pos h1] at H
            have HH := Aside0.mk H
            clear H
            obtain ⟨ad, e1, x0, x1, x2, x3, x4, x5, x6, x7, x8, x9, x10, x11⟩ := at_T31 (Kd.C_below HR0.out HB.out) i hi0 hi
            cases e1
            generalize hx : rd_T31 l0 i = x at x0 x1 x2 x3 x4 x5 x6 x7 x8 x9 x10 x11 hus HH
            have HX := Aside0.mk hx
            have HUS := Aside0.mk hus
            have H1 := Aside0.mk h1
            have q0 := eq_true hi0
            have q1 := eq_true hi
            have HI := Aside0.mk hi
            have HI0 := Aside0.mk hi0
            clear hx hus h1 hi hi0
            obtain ⟨w3, hw3⟩ : ∃ w3, w3 = wr.alloc (.cells #[.string x.f0, .string x.f1, .int .i64 x.f2.f0, .int .i64 x.f2.f1, .int .i64 x.f2.f2, .int .i64 x.f3.f0, .int .i64 x.f3.f1, .int .i64 x.f3.f2, .int .i64 x.f4.f0, .int .i64 x.f4.f1, .int .i64 x.f4.f2, .int .i64 x.f5] 31) := ⟨_, rfl⟩
            have hb3 : Below wr.heap.size wr w3 := by rw [hw3]; exact below_alloc (Below.refl _ _) _
            have HI3 := Aside0.mk (show w3.heap[wr.heap.size]? = some (.cells #[.string x.f0, .string x.f1, .int .i64 x.f2.f0, .int .i64 x.f2.f1, .int .i64 x.f2.f2, .int .i64 x.f3.f0, .int .i64 x.f3.f1, .int .i64 x.f3.f2, .int .i64 x.f4.f0, .int .i64 x.f4.f1, .int .i64 x.f4.f2, .int .i64 x.f5] 31 (0, 0)) from by rw [hw3]; exact blk_new _ _)
            have HB3 := Aside0.mk hb3
            clear hb3
            go_wp2_with fail
            rw [← hw3]
            clear hw3 x0 x1 x2 x3 x4 x5 x6 x7 x8 x9 x10 x11
            refine (tree_Up.calls k1 _ _ l0 x.f0 us _ (Kd.C_below (Kd.C_below HR0.out HB.out) HB3.out) HC0.out HUS.out).mono ?_
            rintro e w4 ⟨v, rfl, ho, hb⟩
            obtain ⟨Au, cu, rfl, hcu, hU⟩ := Kd.R_reads ho
            have hcut : ∃ (A2 : Option Addr) (c2 : Nat), (∀ W : World, (Instr.slice 74 (.slice Au us.length cu) (some (.int .i64 1)) none none).run Try.prog W = .ok (.slice A2 (us.drop 1).length c2) W) ∧ (us.drop 1).length ≤ c2 ∧ Kd.C Kd.string w4 A2 (us.drop 1).length (us.drop 1) := by
              obtain ⟨i0, hi0, _, hsz, _⟩ := info_parts info9
              have h1 := H1.out
              refine ⟨_, cu - 1, fun W => ?_, by rw [List.length_drop]; omega, Kd.C_drop (m := 1) hU h1 hcu⟩
              rw [List.length_drop]
              exact cut_from (P := Try.prog) 74 9 .i64 Try.underlying74 hi0 1 hsz Au us.length cu 1 (by omega) (by omega) W
            obtain ⟨A2, c2, hcut, hc2, hC2⟩ := hcut
            have HB4 := Aside0.mk (below_step HB3.out hb)
            have HI4 := Aside0.mk (blk_below HI3.out hb)
            have HN4 := Aside0.mk (blk_below HN.out HB4.out)
            have HCS := Aside0.mk (containsStr_calls 130 #[.pointer (some ⟨w.heap.size, 0, none⟩)] (hasStr l1) (enters_of Try.func130 (by kernel_rfl) rfl) w4 A2 c2 (us.drop 1)
              (fun W' s _ hb' => share1_calls W' w.heap.size A1 c1 l1 s (blk_below HN4.out hb') (Kd.C_below (Kd.C_below (Kd.C_below HR1.out HB.out) HB4.out) hb') HC1.out HL1.out) hC2 hc2)
            clear hb ho hC2 hU HB3 HI3
            generalize hqa : (us.drop 1).any (hasStr l1) = qa at HCS HH
            generalize hL2 : (us.drop 1).length = n2 at hcut HCS
            go_wp2_with fail
            refine HCS.out.mono ?_
            rintro e w5 ⟨rfl, hb⟩
            have HB5 := Aside0.mk (below_step HB4.out hb)
            have HI5 := Aside0.mk (blk_below HI4.out hb)
            have HN5 := Aside0.mk (blk_below HN4.out hb)
            obtain ⟨kc, hkc⟩ := contains_some l1 x.f0 HL1.out
            have HCN := Aside0.mk (slices_Contains_string_string.calls kc A1 c1 l1 x.f0 _ w5 (Kd.C_below (Kd.C_below HR1.out HB.out) HB5.out) HC1.out hkc)
            generalize hasStr l1 x.f0 = qb at HCN HH
            have n0 := (blk_cell HN5.out 0).trans rfl
            have y0 := (blk_cell HI5.out 0).trans rfl
            clear hb HB4 HI4 HN4 HCS hkc hcut hqa hL2
            go_wp2_with fail
            refine HCN.out.mono ?_
            rintro e w6 ⟨rfl, hd⟩
            have hb := hd.below
            have HB6 := Aside0.mk (below_step HB5.out hb)
            have HI6 := Aside0.mk (blk_below HI5.out hb)
            have HB7 := Aside0.mk (below_step HB.out HB6.out)
            have HN7 := Aside0.mk (blk_below HN.out HB6.out)
            have HZ7 := Aside0.mk (blk_below HZ.out HB6.out)
            have HO7 := Aside0.mk (Kd.R_below HO.out HB6.out)
            have HS7 := Aside0.mk (Nat.le_trans HS.out HB6.out.size)
            clear hb hd HB5 HI5 HN5 HCN n0 y0 HB HN HZ HO HS
            by_cases hq : qb = true ∧ qa = false
            · obtain ⟨rfl, rfl⟩ := hq
              have h2 := (if_pos ⟨rfl, rfl⟩).symm.trans HH.out
              clear HH
              by_cases hl : acc.length < 1000000000
              · have H' := Aside0.mk ((if_pos hl).symm.trans h2)
                have HL := Aside0.mk hl
                have y8 := (blk_cell HI6.out 8).trans rfl
                have y9 := (blk_cell HI6.out 9).trans rfl
                have y10 := (blk_cell HI6.out 10).trans rfl
                clear h2 hl
                go_wp2_with ((with_reducible refine gate_builtin (b := .append) (xs := #[.tmp 32, .tmp 35]) rfl ?_);at_builtin;refine Kd.R_append k27 (w0 := w6) (w.heap.size + 2) rfl (.tmp 32) (.tmp 35) 157 27 (.agg #[(.int .i64 0), (.int .i64 0), (.int .i64 0)]) 24 rfl Try.underlying157 info27 rfl (by decide) (by omega) u5 acc x.f4 [.int .i64 x.f4.f0, .int .i64 x.f4.f1, .int .i64 x.f4.f2] (fun _ => True) (fun _ => False) rfl (by first|(go_simp;done)|(go_simp;rfl)) ?aP (fun _ hk => hk.elim) ?aF ?aO ?aB ?aS ?aL ?_;(case aP => exact k27_mkM _ _ _ x.f4);(case aF => exact fun _ _ => trivial);(case aO => exact HO7.out);(case aB => exact Below.refl _ _);(case aS => exact HS7.out);(case aL => have := HL.out;omega);intro v5 w8 ho hb hg hat;have HB8 := Aside0.mk (show Below w.heap.size w w8 from ⟨hb.os.trans HB7.out.os, hb.tape.trans HB7.out.tape, hb.output.trans HB7.out.output, Nat.le_trans HB7.out.size hb.size, fun k hk => (hb.block k (by omega)).trans (HB7.out.block k hk)⟩);have HN8 := Aside0.mk ((hb.block w.heap.size (by omega)).trans HN7.out);have HZ8 := Aside0.mk ((hb.block (w.heap.size + 1) (by omega)).trans HZ7.out);have HS8 := Aside0.mk (Nat.le_trans HS7.out hb.size);have HO8 := Aside0.mk ho;clear ho hb hg hat)
                go_roundg k1
                case measure => have := HK1.out; omega
                case rel => exact ⟨wrap64 (i + 1), acc ++ [x.f4], by go_num, H', ⟨by have := HK1.out;omega⟩, HB8, HS8, HN8, HZ8, HO8⟩
              · rw [if_neg hl] at h2
                cases h2
            · have H' := Aside0.mk ((if_neg hq).symm.trans HH.out)
              clear HH
              have hgo : ∀ (qc : Bool), qb = qc → True := fun _ _ => trivial
              clear hgo
              cases qb with
              | false =>
                go_wp2
                go_roundg k1
                case measure => have := HK1.out; omega
                case rel => exact ⟨wrap64 (i + 1), acc, by go_num, H', ⟨by have := HK1.out;omega⟩, HB7, HS7, HN7, HZ7, HO7⟩
              | true =>
                cases qa with
                | false => exact absurd ⟨rfl, rfl⟩ hq
                | true =>
                  go_wp2
                  go_roundg k1
                  case measure => have := HK1.out; omega
                  case rel => exact ⟨wrap64 (i + 1), acc, by go_num, H', ⟨by have := HK1.out;omega⟩, HB7, HS7, HN7, HZ7, HO7⟩
          · rw [if_neg h1] at H
            cases H
        · rw [if_neg hi0] at H
          cases H
      · rw [if_neg hi] at H
        obtain rfl := Option.some.inj H
        have qd : decide (i < (l0.length : Int)) = false := decide_eq_false hi
        obtain ⟨Av, cv, rfl, hcv, hV⟩ := Kd.R_reads HO.out
        have HV := Aside0.mk (vec_Add.calls Av cv acc r1 r2 r3 _ hV hcv HADD.out)
        clear hi hV hcv
        go_wp2_with fail
        refine HV.out.mono ?_
        rintro e w3 ⟨rfl, hb⟩
        have HB3 := Aside0.mk (below_step HB.out hb)
        have HZ3 := Aside0.mk (blk_below HZ.out hb)
        clear hb HV
        have g0 := (blk_cell HZ3.out 0).trans rfl
        have g1 := (blk_cell HZ3.out 1).trans rfl
        have g2 := (blk_cell HZ3.out 2).trans rfl
        have z0 := blk_frozen HZ3.out 0
        have z1 := blk_frozen HZ3.out 1
        have z2 := blk_frozen HZ3.out 2
        have hs1 : w.heap.size + 1 < w3.heap.size := blk_lt HZ3.out
        go_wp2
        refine bodyPost_ret (results_cell_row rfl _ _ (w.heap.size + 1) 27 #[.int .i64 r1, .int .i64 r2, .int .i64 r3] (0, 0) _ rfl (blk_put (blk_put (blk_put HZ3.out 0 _ rfl) 1 _ rfl) 2 _ rfl) Try.underlying27 rfl (by kernel_rfl)) rfl ?_
        have hle : w.heap.size ≤ w.heap.size + 1 := by omega
        exact ⟨rfl, below_set (below_set (below_set HB3.out hle) hle) hle⟩
end Go.Proofs.Ytcgefpklljclgaa.Print

namespace Go.Proofs.Ytcgefpklljclgaa.Print
open Go.RowKit Go.Proofs.YtcgefpklljclgaaW.PrintWords Go.Proofs.YtcgefpklljclgaaW.PrintLast Go.Proofs.YtcgefpklljclgaaW.PrintMore
attribute [local go_sem] max2_int min2_int max_two min_two max_three min_three max_four min_four   -- for this text's walks alone
set_option linter.unusedVariables false
set_option linter.unusedSimpArgs false
/-! ### r10_Sub: function 35 -/
def r10_Sub.f (a0_0 : Int) (a0_1 : Int) (a0_2 : Int) (a1_0 : Int) (a1_1 : Int) (a1_2 : Int) : Option (Int × Int × Int) := some (wrap64 (a0_0 - a1_0), wrap64 (a0_1 - a1_1), wrap64 (a0_2 - a1_2))
set_option maxHeartbeats 8000000 in
set_option maxRecDepth 100000 in
theorem r10_Sub.calls (a0_0 : Int) (a0_1 : Int) (a0_2 : Int) (a1_0 : Int) (a1_1 : Int) (a1_2 : Int) (r1 : Int) (r2 : Int) (r3 : Int) (w : World) (h : r10_Sub.f a0_0 a0_1 a0_2 a1_0 a1_1 a1_2 = some (r1, r2, r3)) :
  Calls Try.prog 35 #[.agg #[.int .i64 a0_0, .int .i64 a0_1, .int .i64 a0_2], .agg #[.int .i64 a1_0, .int .i64 a1_1, .int .i64 a1_2]] w fun e w' => e = .returned (.agg #[.int .i64 r1, .int .i64 r2, .int .i64 r3]) ∧ Below w.heap.size w w' := by
 have hu27 := Try.underlying27
 have HB := Aside0.mk (Below.refl w.heap.size w)
 have H : (some (wrap64 (a0_0 - a1_0), wrap64 (a0_1 - a1_1), wrap64 (a0_2 - a1_2))) = some (r1, r2, r3) := h
 clear h
 simp only [Option.some.injEq, Prod.mk.injEq] at H
 obtain ⟨rfl, rfl, rfl⟩ := H
 go_enter Try.func35, Try.ntmps35
 go_wp2_with (first|((with_reducible refine gate_dst (N := 2) rfl ?_);refine box_event ?hg (N := 2) ?hd (cs := #[.int .i64 a0_0, .int .i64 a0_1, .int .i64 a0_2]) (t := 27) ?hr ?_;(case hd => rfl);(case hg => rfl);(case hr => first|(go_simp;done)|(go_simp;rfl));intro gb1 hg w3 hbox hb;have n0_ := Aside0.mk (below_step (by repeat (first|(with_reducible first|exact HB.out|apply below_alloc|apply pw_below_drewN|apply below_drew1)|exact HB.out)) hb);have n1_ := Aside0.mk (hbox);have n2_ := Aside0.mk ((by rw [hg];exact (below_size (by repeat (first|(with_reducible first|exact HB.out|apply below_alloc|apply pw_below_drewN|apply below_drew1)|exact HB.out))) : w.heap.size ≤ gb1));have n3_ := Aside0.mk ((by rw [hg];exact (below_size (by repeat (first|(with_reducible first|exact HB.out|apply below_alloc|apply pw_below_drewN|apply below_drew1)|exact HB.out))) : w.heap.size ≤ gb1));clear HB;have HB := n0_;have BK1 := n1_;have GW1 := n2_;have GE1 := n3_;clear n0_ n1_ n2_ n3_;clear hb hbox hg)|((with_reducible refine gate_dst (N := 3) rfl ?_);refine box_event ?hg (N := 3) ?hd (cs := #[.int .i64 a1_0, .int .i64 a1_1, .int .i64 a1_2]) (t := 27) ?hr ?_;(case hd => rfl);(case hg => rfl);(case hr => first|(go_simp;done)|(go_simp;rfl));intro gb2 hg w4 hbox hb;have n0_ := Aside0.mk (blk_below (g := gb1) (o := .cells #[.int .i64 a0_0, .int .i64 a0_1, .int .i64 a0_2] 27 (0, 0)) (by (with_reducible repeat (first|refine blk_drewN ?_ _|refine blk_drew ?_|refine blk_alloc ?_ _));exact BK1.out) hb);have n1_ := Aside0.mk (below_step (by repeat (first|(with_reducible first|exact HB.out|apply below_alloc|apply pw_below_drewN|apply below_drew1|refine below_set ?_ GE1.out)|exact HB.out)) hb);have n2_ := Aside0.mk (hbox);have n3_ := Aside0.mk ((by rw [hg];exact (below_size (by repeat (first|(with_reducible first|exact HB.out|apply below_alloc|apply pw_below_drewN|apply below_drew1|refine below_set ?_ GE1.out)|exact HB.out))) : w.heap.size ≤ gb2));have n4_ := Aside0.mk ((by rw [hg];exact (below_size (by repeat (first|(with_reducible first|exact HB.out|apply below_alloc|apply pw_below_drewN|apply below_drew1|refine below_set ?_ GE1.out)|exact HB.out))) : w.heap.size ≤ gb2));have n5_ := Aside0.mk ((by rw [hg];exact Nat.ne_of_lt (blk_lt (g := gb1) (o := .cells #[.int .i64 a0_0, .int .i64 a0_1, .int .i64 a0_2] 27 (0, 0)) (by (with_reducible repeat (first|refine blk_drewN ?_ _|refine blk_drew ?_|refine blk_alloc ?_ _));exact BK1.out)) : gb1 ≠ gb2));have n6_ := Aside0.mk ((by rw [hg];exact Nat.ne_of_gt (blk_lt (g := gb1) (o := .cells #[.int .i64 a0_0, .int .i64 a0_1, .int .i64 a0_2] 27 (0, 0)) (by (with_reducible repeat (first|refine blk_drewN ?_ _|refine blk_drew ?_|refine blk_alloc ?_ _));exact BK1.out)) : gb2 ≠ gb1));clear BK1;clear HB;have BK1 := n0_;have HB := n1_;have BK2 := n2_;have GW2 := n3_;have GE2 := n4_;have NB1_2 := n5_;have NB2_1 := n6_;clear n0_ n1_ n2_ n3_ n4_ n5_ n6_;clear hb hbox hg)|((with_reducible refine gate_dst (N := 4) rfl ?_);refine box_event ?hg (N := 4) ?hd (cs := #[.int .i64 0, .int .i64 0, .int .i64 0]) (t := 27) ?hr ?_;(case hd => rfl);(case hg => rfl);(case hr => first|(go_simp;done)|(go_simp;rfl));intro gb3 hg w5 hbox hb;have n0_ := Aside0.mk (blk_below (g := gb1) (o := .cells #[.int .i64 a0_0, .int .i64 a0_1, .int .i64 a0_2] 27 (0, 0)) (by (with_reducible repeat (first|refine blk_drewN ?_ _|refine blk_drew ?_|refine blk_alloc ?_ _));exact BK1.out) hb);have n1_ := Aside0.mk (blk_below (g := gb2) (o := .cells #[.int .i64 a1_0, .int .i64 a1_1, .int .i64 a1_2] 27 (0, 0)) (by (with_reducible repeat (first|refine blk_drewN ?_ _|refine blk_drew ?_|refine blk_alloc ?_ _));exact BK2.out) hb);have n2_ := Aside0.mk (below_step (by repeat (first|(with_reducible first|exact HB.out|apply below_alloc|apply pw_below_drewN|apply below_drew1|refine below_set ?_ GE1.out|refine below_set ?_ GE2.out)|exact HB.out)) hb);have n3_ := Aside0.mk (hbox);have n4_ := Aside0.mk ((by rw [hg];exact (below_size (by repeat (first|(with_reducible first|exact HB.out|apply below_alloc|apply pw_below_drewN|apply below_drew1|refine below_set ?_ GE1.out|refine below_set ?_ GE2.out)|exact HB.out))) : w.heap.size ≤ gb3));have n5_ := Aside0.mk ((by rw [hg];exact (below_size (by repeat (first|(with_reducible first|exact HB.out|apply below_alloc|apply pw_below_drewN|apply below_drew1|refine below_set ?_ GE1.out|refine below_set ?_ GE2.out)|exact HB.out))) : w.heap.size ≤ gb3));have n6_ := Aside0.mk ((by rw [hg];exact Nat.ne_of_lt (blk_lt (g := gb1) (o := .cells #[.int .i64 a0_0, .int .i64 a0_1, .int .i64 a0_2] 27 (0, 0)) (by (with_reducible repeat (first|refine blk_drewN ?_ _|refine blk_drew ?_|refine blk_alloc ?_ _));exact BK1.out)) : gb1 ≠ gb3));have n7_ := Aside0.mk ((by rw [hg];exact Nat.ne_of_gt (blk_lt (g := gb1) (o := .cells #[.int .i64 a0_0, .int .i64 a0_1, .int .i64 a0_2] 27 (0, 0)) (by (with_reducible repeat (first|refine blk_drewN ?_ _|refine blk_drew ?_|refine blk_alloc ?_ _));exact BK1.out)) : gb3 ≠ gb1));have n8_ := Aside0.mk ((by rw [hg];exact Nat.ne_of_lt (blk_lt (g := gb2) (o := .cells #[.int .i64 a1_0, .int .i64 a1_1, .int .i64 a1_2] 27 (0, 0)) (by (with_reducible repeat (first|refine blk_drewN ?_ _|refine blk_drew ?_|refine blk_alloc ?_ _));exact BK2.out)) : gb2 ≠ gb3));have n9_ := Aside0.mk ((by rw [hg];exact Nat.ne_of_gt (blk_lt (g := gb2) (o := .cells #[.int .i64 a1_0, .int .i64 a1_1, .int .i64 a1_2] 27 (0, 0)) (by (with_reducible repeat (first|refine blk_drewN ?_ _|refine blk_drew ?_|refine blk_alloc ?_ _));exact BK2.out)) : gb3 ≠ gb2));clear BK1;clear BK2;clear HB;have BK1 := n0_;have BK2 := n1_;have HB := n2_;have BK3 := n3_;have GW3 := n4_;have GE3 := n5_;have NB1_3 := n6_;have NB3_1 := n7_;have NB2_3 := n8_;have NB3_2 := n9_;clear n0_ n1_ n2_ n3_ n4_ n5_ n6_ n7_ n8_ n9_;clear hb hbox hg;have hnb6 := NB1_2.out;have hnc6 := NB2_1.out;have hnb7 := NB1_3.out;have hnc7 := NB3_1.out;have hcz8_0 : w5.cell? ⟨gb1, 0, none⟩ = some (.int .i64 a0_0) := (blk_cell BK1.out 0).trans rfl;have hcz8_1 : w5.cell? ⟨gb1, 1, none⟩ = some (.int .i64 a0_1) := (blk_cell BK1.out 1).trans rfl;have hcz8_2 : w5.cell? ⟨gb1, 2, none⟩ = some (.int .i64 a0_2) := (blk_cell BK1.out 2).trans rfl;have hfz8_0 := blk_frozen BK1.out 0;have hfz8_1 := blk_frozen BK1.out 1;have hfz8_2 := blk_frozen BK1.out 2;have hnb9 := NB2_3.out;have hnc9 := NB3_2.out;have hcz10_0 : w5.cell? ⟨gb2, 0, none⟩ = some (.int .i64 a1_0) := (blk_cell BK2.out 0).trans rfl;have hcz10_1 : w5.cell? ⟨gb2, 1, none⟩ = some (.int .i64 a1_1) := (blk_cell BK2.out 1).trans rfl;have hcz10_2 : w5.cell? ⟨gb2, 2, none⟩ = some (.int .i64 a1_2) := (blk_cell BK2.out 2).trans rfl;have hfz10_0 := blk_frozen BK2.out 0;have hfz10_1 := blk_frozen BK2.out 1;have hfz10_2 := blk_frozen BK2.out 2;have hcz11_0 : w5.cell? ⟨gb3, 0, none⟩ = some (.int .i64 0) := (blk_cell BK3.out 0).trans rfl;have hcz11_1 : w5.cell? ⟨gb3, 1, none⟩ = some (.int .i64 0) := (blk_cell BK3.out 1).trans rfl;have hcz11_2 : w5.cell? ⟨gb3, 2, none⟩ = some (.int .i64 0) := (blk_cell BK3.out 2).trans rfl;have hfz11_0 := blk_frozen BK3.out 0;have hfz11_1 := blk_frozen BK3.out 1;have hfz11_2 := blk_frozen BK3.out 2))
 refine bodyPost_ret (results_cell_row rfl _ _ gb3 27 #[.int .i64 (wrap64 (a0_0 - a1_0)), .int .i64 (wrap64 (a0_1 - a1_1)), .int .i64 (wrap64 (a0_2 - a1_2))] (0, 0) _ rfl (by (with_reducible repeat (first|refine blk_drewN ?_ _|refine blk_drew ?_|refine blk_alloc ?_ _));refine blk_put (cs := #[.int .i64 (wrap64 (a0_0 - a1_0)), .int .i64 (wrap64 (a0_1 - a1_1)), .int .i64 0]) ?_ 2 _ rfl;(with_reducible repeat (first|refine blk_drewN ?_ _|refine blk_drew ?_|refine blk_alloc ?_ _));refine blk_put (cs := #[.int .i64 (wrap64 (a0_0 - a1_0)), .int .i64 0, .int .i64 0]) ?_ 1 _ rfl;(with_reducible repeat (first|refine blk_drewN ?_ _|refine blk_drew ?_|refine blk_alloc ?_ _));refine blk_put (cs := #[.int .i64 0, .int .i64 0, .int .i64 0]) ?_ 0 _ rfl;(with_reducible repeat (first|refine blk_drewN ?_ _|refine blk_drew ?_|refine blk_alloc ?_ _));exact BK3.out) Try.underlying27 rfl (by kernel_rfl)) rfl ?_
 exact ⟨by first|rfl|(simp [errW_none, errW_some] <;> rfl)|(simp [*, errW_none, errW_some] <;> rfl), by repeat (first|(with_reducible first|exact HB.out|apply below_alloc|apply pw_below_drewN|apply below_drew1|refine below_set ?_ GE1.out|refine below_set ?_ GE2.out|refine below_set ?_ GE3.out)|exact HB.out)⟩
end Go.Proofs.Ytcgefpklljclgaa.Print

namespace Go.Proofs.Ytcgefpklljclgaa.Print
open Go.RowKit Go.Proofs.YtcgefpklljclgaaW.PrintWords Go.Proofs.YtcgefpklljclgaaW.PrintLast Go.Proofs.YtcgefpklljclgaaW.PrintMore
attribute [local go_sem] max2_int min2_int max_two min_two max_three min_three max_four min_four   -- for this text's walks alone
set_option linter.unusedVariables false
set_option linter.unusedSimpArgs false
/-! ### r10_free: function 135 -/
def r10_free.f (a0_0 : ByteArray) (a0_1 : ByteArray) (a0_2 : Int) (a0_3 : Int) (a0_4 : Int) (a0_5 : Int) (a0_6 : Int) (a0_7 : Int) (a0_8 : Int) (a0_9 : Int) (a0_10 : Int) (a0_11 : Int) : Option (Int × Int × Int) := (r10_Sub.f a0_2 a0_3 a0_4 a0_8 a0_9 a0_10).bind fun bt3 => (some (bt3.1, bt3.2.1, bt3.2.2))
set_option maxHeartbeats 8000000 in
set_option maxRecDepth 100000 in
theorem r10_free.calls (a0_0 : ByteArray) (a0_1 : ByteArray) (a0_2 : Int) (a0_3 : Int) (a0_4 : Int) (a0_5 : Int) (a0_6 : Int) (a0_7 : Int) (a0_8 : Int) (a0_9 : Int) (a0_10 : Int) (a0_11 : Int) (r1 : Int) (r2 : Int) (r3 : Int) (w : World) (h : r10_free.f a0_0 a0_1 a0_2 a0_3 a0_4 a0_5 a0_6 a0_7 a0_8 a0_9 a0_10 a0_11 = some (r1, r2, r3)) :
  Calls Try.prog 135 #[.agg #[.string a0_0, .string a0_1, .int .i64 a0_2, .int .i64 a0_3, .int .i64 a0_4, .int .i64 a0_5, .int .i64 a0_6, .int .i64 a0_7, .int .i64 a0_8, .int .i64 a0_9, .int .i64 a0_10, .int .i64 a0_11]] w fun e w' => e = .returned (.agg #[.int .i64 r1, .int .i64 r2, .int .i64 r3]) ∧ Below w.heap.size w w' := by
 have hu31 := Try.underlying31
 have hu27 := Try.underlying27
 have HB := Aside0.mk (Below.refl w.heap.size w)
 have H : ((r10_Sub.f a0_2 a0_3 a0_4 a0_8 a0_9 a0_10).bind fun bt3 => (some (bt3.1, bt3.2.1, bt3.2.2))) = some (r1, r2, r3) := h
 clear h
 replace H := Option.bind_eq_some_iff.mp H
 obtain ⟨⟨t3, t4, t5⟩, A20, H⟩ := H
 replace H : (some (t3, t4, t5)) = some (r1, r2, r3) := H
 have A2 := Aside0.mk A20
 clear A20
 simp only [Option.some.injEq, Prod.mk.injEq] at H
 obtain ⟨rfl, rfl, rfl⟩ := H
 go_enter Try.func135, Try.ntmps135
 go_wp2_with (first|((with_reducible refine gate_dst (N := 1) rfl ?_);refine box_event ?hg (N := 1) ?hd (cs := #[.string a0_0, .string a0_1, .int .i64 a0_2, .int .i64 a0_3, .int .i64 a0_4, .int .i64 a0_5, .int .i64 a0_6, .int .i64 a0_7, .int .i64 a0_8, .int .i64 a0_9, .int .i64 a0_10, .int .i64 a0_11]) (t := 31) ?hr ?_;(case hd => rfl);(case hg => rfl);(case hr => first|(go_simp;done)|(go_simp;rfl));intro gb1 hg w3 hbox hb;have n0_ := Aside0.mk (below_step (by repeat (first|(with_reducible first|exact HB.out|apply below_alloc|apply pw_below_drewN|apply below_drew1)|exact HB.out)) hb);have n1_ := Aside0.mk (hbox);have n2_ := Aside0.mk ((by rw [hg];exact (below_size (by repeat (first|(with_reducible first|exact HB.out|apply below_alloc|apply pw_below_drewN|apply below_drew1)|exact HB.out))) : w.heap.size ≤ gb1));have n3_ := Aside0.mk ((by rw [hg];exact (below_size (by repeat (first|(with_reducible first|exact HB.out|apply below_alloc|apply pw_below_drewN|apply below_drew1)|exact HB.out))) : w.heap.size ≤ gb1));clear HB;have HB := n0_;have BK1 := n1_;have GW1 := n2_;have GE1 := n3_;clear n0_ n1_ n2_ n3_;clear hb hbox hg)|((with_reducible refine gate_dst (N := 2) rfl ?_);refine box_event ?hg (N := 2) ?hd (cs := #[.int .i64 0, .int .i64 0, .int .i64 0]) (t := 27) ?hr ?_;(case hd => rfl);(case hg => rfl);(case hr => first|(go_simp;done)|(go_simp;rfl));intro gb2 hg w4 hbox hb;have n0_ := Aside0.mk (blk_below (g := gb1) (o := .cells #[.string a0_0, .string a0_1, .int .i64 a0_2, .int .i64 a0_3, .int .i64 a0_4, .int .i64 a0_5, .int .i64 a0_6, .int .i64 a0_7, .int .i64 a0_8, .int .i64 a0_9, .int .i64 a0_10, .int .i64 a0_11] 31 (0, 0)) (by (with_reducible repeat (first|refine blk_drewN ?_ _|refine blk_drew ?_|refine blk_alloc ?_ _));exact BK1.out) hb);have n1_ := Aside0.mk (below_step (by repeat (first|(with_reducible first|exact HB.out|apply below_alloc|apply pw_below_drewN|apply below_drew1|refine below_set ?_ GE1.out)|exact HB.out)) hb);have n2_ := Aside0.mk (hbox);have n3_ := Aside0.mk ((by rw [hg];exact (below_size (by repeat (first|(with_reducible first|exact HB.out|apply below_alloc|apply pw_below_drewN|apply below_drew1|refine below_set ?_ GE1.out)|exact HB.out))) : w.heap.size ≤ gb2));have n4_ := Aside0.mk ((by rw [hg];exact (below_size (by repeat (first|(with_reducible first|exact HB.out|apply below_alloc|apply pw_below_drewN|apply below_drew1|refine below_set ?_ GE1.out)|exact HB.out))) : w.heap.size ≤ gb2));have n5_ := Aside0.mk ((by rw [hg];exact Nat.ne_of_lt (blk_lt (g := gb1) (o := .cells #[.string a0_0, .string a0_1, .int .i64 a0_2, .int .i64 a0_3, .int .i64 a0_4, .int .i64 a0_5, .int .i64 a0_6, .int .i64 a0_7, .int .i64 a0_8, .int .i64 a0_9, .int .i64 a0_10, .int .i64 a0_11] 31 (0, 0)) (by (with_reducible repeat (first|refine blk_drewN ?_ _|refine blk_drew ?_|refine blk_alloc ?_ _));exact BK1.out)) : gb1 ≠ gb2));have n6_ := Aside0.mk ((by rw [hg];exact Nat.ne_of_gt (blk_lt (g := gb1) (o := .cells #[.string a0_0, .string a0_1, .int .i64 a0_2, .int .i64 a0_3, .int .i64 a0_4, .int .i64 a0_5, .int .i64 a0_6, .int .i64 a0_7, .int .i64 a0_8, .int .i64 a0_9, .int .i64 a0_10, .int .i64 a0_11] 31 (0, 0)) (by (with_reducible repeat (first|refine blk_drewN ?_ _|refine blk_drew ?_|refine blk_alloc ?_ _));exact BK1.out)) : gb2 ≠ gb1));clear BK1;clear HB;have BK1 := n0_;have HB := n1_;have BK2 := n2_;have GW2 := n3_;have GE2 := n4_;have NB1_2 := n5_;have NB2_1 := n6_;clear n0_ n1_ n2_ n3_ n4_ n5_ n6_;clear hb hbox hg;have hnb5 := NB1_2.out;have hnc5 := NB2_1.out;have hcz6_0 : w4.cell? ⟨gb1, 0, none⟩ = some (.string a0_0) := (blk_cell BK1.out 0).trans rfl;have hcz6_1 : w4.cell? ⟨gb1, 1, none⟩ = some (.string a0_1) := (blk_cell BK1.out 1).trans rfl;have hcz6_2 : w4.cell? ⟨gb1, 2, none⟩ = some (.int .i64 a0_2) := (blk_cell BK1.out 2).trans rfl;have hcz6_3 : w4.cell? ⟨gb1, 3, none⟩ = some (.int .i64 a0_3) := (blk_cell BK1.out 3).trans rfl;have hcz6_4 : w4.cell? ⟨gb1, 4, none⟩ = some (.int .i64 a0_4) := (blk_cell BK1.out 4).trans rfl;have hcz6_5 : w4.cell? ⟨gb1, 5, none⟩ = some (.int .i64 a0_5) := (blk_cell BK1.out 5).trans rfl;have hcz6_6 : w4.cell? ⟨gb1, 6, none⟩ = some (.int .i64 a0_6) := (blk_cell BK1.out 6).trans rfl;have hcz6_7 : w4.cell? ⟨gb1, 7, none⟩ = some (.int .i64 a0_7) := (blk_cell BK1.out 7).trans rfl;have hcz6_8 : w4.cell? ⟨gb1, 8, none⟩ = some (.int .i64 a0_8) := (blk_cell BK1.out 8).trans rfl;have hcz6_9 : w4.cell? ⟨gb1, 9, none⟩ = some (.int .i64 a0_9) := (blk_cell BK1.out 9).trans rfl;have hcz6_10 : w4.cell? ⟨gb1, 10, none⟩ = some (.int .i64 a0_10) := (blk_cell BK1.out 10).trans rfl;have hcz6_11 : w4.cell? ⟨gb1, 11, none⟩ = some (.int .i64 a0_11) := (blk_cell BK1.out 11).trans rfl;have hfz6_0 := blk_frozen BK1.out 0;have hfz6_1 := blk_frozen BK1.out 1;have hfz6_2 := blk_frozen BK1.out 2;have hfz6_3 := blk_frozen BK1.out 3;have hfz6_4 := blk_frozen BK1.out 4;have hfz6_5 := blk_frozen BK1.out 5;have hfz6_6 := blk_frozen BK1.out 6;have hfz6_7 := blk_frozen BK1.out 7;have hfz6_8 := blk_frozen BK1.out 8;have hfz6_9 := blk_frozen BK1.out 9;have hfz6_10 := blk_frozen BK1.out 10;have hfz6_11 := blk_frozen BK1.out 11)|((with_reducible refine gate_callee (f := 35) rfl ?_);refine goesL_ (some 7) rfl rfl Try.func35 (by kernel_rfl) rfl #[.agg #[.int .i64 a0_2, .int .i64 a0_3, .int .i64 a0_4], .agg #[.int .i64 a0_8, .int .i64 a0_9, .int .i64 a0_10]] rfl (by (try simp only [List.map_toArray, List.map_cons, List.map_nil]);first|done|rfl|(simp only [List.length_drop, List.length_take];rfl)) ?_;(with_reducible refine (r10_Sub.calls a0_2 a0_3 a0_4 a0_8 a0_9 a0_10 t3 t4 t5 _ A2.out).mono ?_);rintro e w7 ⟨rfl, hb⟩;refine ⟨_, rfl, ?_⟩;have n0_ := Aside0.mk (blk_below (g := gb1) (o := .cells #[.string a0_0, .string a0_1, .int .i64 a0_2, .int .i64 a0_3, .int .i64 a0_4, .int .i64 a0_5, .int .i64 a0_6, .int .i64 a0_7, .int .i64 a0_8, .int .i64 a0_9, .int .i64 a0_10, .int .i64 a0_11] 31 (0, 0)) (by (with_reducible repeat (first|refine blk_drewN ?_ _|refine blk_drew ?_|refine blk_alloc ?_ _));exact BK1.out) hb);have n1_ := Aside0.mk (blk_below (g := gb2) (o := .cells #[.int .i64 0, .int .i64 0, .int .i64 0] 27 (0, 0)) (by (with_reducible repeat (first|refine blk_drewN ?_ _|refine blk_drew ?_|refine blk_alloc ?_ _));exact BK2.out) hb);have n2_ := Aside0.mk (below_step (by repeat (first|(with_reducible first|exact HB.out|apply below_alloc|apply pw_below_drewN|apply below_drew1|refine below_set ?_ GE1.out|refine below_set ?_ GE2.out)|exact HB.out)) hb);clear BK1;clear BK2;clear HB;have BK1 := n0_;have BK2 := n1_;have HB := n2_;clear n0_ n1_ n2_;(try clear hb);(try clear hb2);(try clear hk);(try clear hi);have hcz8_0 : w7.cell? ⟨gb2, 0, none⟩ = some (.int .i64 0) := (blk_cell BK2.out 0).trans rfl;have hcz8_1 : w7.cell? ⟨gb2, 1, none⟩ = some (.int .i64 0) := (blk_cell BK2.out 1).trans rfl;have hcz8_2 : w7.cell? ⟨gb2, 2, none⟩ = some (.int .i64 0) := (blk_cell BK2.out 2).trans rfl;have hfz8_0 := blk_frozen BK2.out 0;have hfz8_1 := blk_frozen BK2.out 1;have hfz8_2 := blk_frozen BK2.out 2))
 refine bodyPost_ret (results_cell_row rfl _ _ gb2 27 #[.int .i64 t3, .int .i64 t4, .int .i64 t5] (0, 0) _ rfl (by (with_reducible repeat (first|refine blk_drewN ?_ _|refine blk_drew ?_|refine blk_alloc ?_ _));refine blk_put (cs := #[.int .i64 t3, .int .i64 t4, .int .i64 0]) ?_ 2 _ rfl;(with_reducible repeat (first|refine blk_drewN ?_ _|refine blk_drew ?_|refine blk_alloc ?_ _));refine blk_put (cs := #[.int .i64 t3, .int .i64 0, .int .i64 0]) ?_ 1 _ rfl;(with_reducible repeat (first|refine blk_drewN ?_ _|refine blk_drew ?_|refine blk_alloc ?_ _));refine blk_put (cs := #[.int .i64 0, .int .i64 0, .int .i64 0]) ?_ 0 _ rfl;(with_reducible repeat (first|refine blk_drewN ?_ _|refine blk_drew ?_|refine blk_alloc ?_ _));exact BK2.out) Try.underlying27 rfl (by kernel_rfl)) rfl ?_
 exact ⟨by first|rfl|(simp [errW_none, errW_some] <;> rfl)|(simp [*, errW_none, errW_some] <;> rfl), by repeat (first|(with_reducible first|exact HB.out|apply below_alloc|apply pw_below_drewN|apply below_drew1|refine below_set ?_ GE1.out|refine below_set ?_ GE2.out)|exact HB.out)⟩
end Go.Proofs.Ytcgefpklljclgaa.Print

namespace Go.Proofs.Ytcgefpklljclgaa.Print
open Go.RowKit Go.Proofs.YtcgefpklljclgaaW.PrintWords Go.Proofs.YtcgefpklljclgaaW.PrintLast Go.Proofs.YtcgefpklljclgaaW.PrintMore
attribute [local go_sem] max2_int min2_int max_two min_two max_three min_three max_four min_four   -- for this text's walks alone
set_option linter.unusedVariables false
set_option linter.unusedSimpArgs false
/-! ### r10_Room: function 78 -/
def r10_Room.l0 : Nat → List (S31) → List ByteArray → Int → Int → Int → Int → Option (Int × Int × Int × Bool)
 | 0, _, _, _, _, _, _ => none
 | k + 1, x0, x6, x8, x12000, x12001, x12002 => if x8 < (x6.length : Int) then (if 0 ≤ x8 then ((r10_Find.f k x0 (rdOf ByteArray.empty x6 x8)).bind fun t13 => (if 0 ≤ t13 then (if t13 < (x0.length : Int) then ((r10_free.f ((rd_T31 x0 t13).f0) ((rd_T31 x0 t13).f1) ((rd_T31 x0 t13).f2.f0) ((rd_T31 x0 t13).f2.f1) ((rd_T31 x0 t13).f2.f2) ((rd_T31 x0 t13).f3.f0) ((rd_T31 x0 t13).f3.f1) ((rd_T31 x0 t13).f3.f2) ((rd_T31 x0 t13).f4.f0) ((rd_T31 x0 t13).f4.f1) ((rd_T31 x0 t13).f4.f2) ((rd_T31 x0 t13).f5)).bind fun bt15 => (r10_Room.l0 k x0 x6 (wrap64 (x8 + 1)) (mn x12000 bt15.1) (mn x12001 bt15.2.1) (mn x12002 bt15.2.2))) else (none)) else (none))) else (none)) else (some (x12000, x12001, x12002, true))
def r10_Room.f (k : Nat) (l0 : List (S31)) (a1 : ByteArray) : Option (Int × Int × Int × Bool) := (r10_Up.f k l0 a1).bind fun t2 => (if (t2.length : Int) = 0 then (some (0, 0, 0, false)) else (if 0 < (t2.length : Int) then ((r10_Find.f k l0 (rdOf ByteArray.empty t2 0)).bind fun t6 => (if 0 ≤ t6 then (if t6 < (l0.length : Int) then ((r10_free.f ((rd_T31 l0 t6).f0) ((rd_T31 l0 t6).f1) ((rd_T31 l0 t6).f2.f0) ((rd_T31 l0 t6).f2.f1) ((rd_T31 l0 t6).f2.f2) ((rd_T31 l0 t6).f3.f0) ((rd_T31 l0 t6).f3.f1) ((rd_T31 l0 t6).f3.f2) ((rd_T31 l0 t6).f4.f0) ((rd_T31 l0 t6).f4.f1) ((rd_T31 l0 t6).f4.f2) ((rd_T31 l0 t6).f5)).bind fun bt8 => (r10_Room.l0 k l0 t2 1 bt8.1 bt8.2.1 bt8.2.2)) else (none)) else (none))) else (none)))
theorem r10_Room.mono_l : ∀ k, (∀ y0 y1 y2 y3 y4 y5, LeO (r10_Room.l0 k y0 y1 y2 y3 y4 y5) (r10_Room.l0 (k + 1) y0 y1 y2 y3 y4 y5))
 | 0 => fun _ _ _ _ _ _ r h => by simp [r10_Room.l0] at h
 | k + 1 => by
  have ih0 := r10_Room.mono_l k
  ·intro y0 y1 y2 y3 y4 y5
   unfold r10_Room.l0
   repeat' first
   | (with_reducible exact ih0 _ _ _ _ _ _)
   | (with_reducible exact r10_Find.mono _ _ _)
   | (with_reducible exact r10_Up.mono _ _ _)
   | (with_reducible exact LeO.refl _)
   | (with_reducible exact LeO.none _)
   | (with_reducible refine LeO.ite ?_ ?_)
   | (with_reducible refine LeO.bind ?_ (fun _ => ?_))
   | exact ih0 _ _ _ _ _ _
   | exact r10_Find.mono _ _ _
   | exact r10_Up.mono _ _ _
   | exact LeO.none _
   | refine LeO.ite ?_ ?_
   | refine LeO.bind ?_ (fun _ => ?_)
theorem r10_Room.mono : ∀ a0 a1 k, LeO (r10_Room.f k a0 a1) (r10_Room.f (k + 1) a0 a1) := by
 intro a0 a1 k
 have ih0 := r10_Room.mono_l k
 unfold r10_Room.f
 repeat' first
   | (with_reducible exact ih0 _ _ _ _ _ _)
   | (with_reducible exact r10_Find.mono _ _ _)
   | (with_reducible exact r10_Up.mono _ _ _)
   | (with_reducible exact LeO.refl _)
   | (with_reducible exact LeO.none _)
   | (with_reducible refine LeO.ite ?_ ?_)
   | (with_reducible refine LeO.bind ?_ (fun _ => ?_))
   | exact ih0 _ _ _ _ _ _
   | exact r10_Find.mono _ _ _
   | exact r10_Up.mono _ _ _
   | exact LeO.none _
   | refine LeO.ite ?_ ?_
   | refine LeO.bind ?_ (fun _ => ?_)
set_option maxHeartbeats 8000000 in
set_option maxRecDepth 100000 in
theorem r10_Room.calls (k : Nat) (A0 : Option Addr) (c0 : Nat) (l0 : List (S31)) (a1 : ByteArray) (r1 : Int) (r2 : Int) (r3 : Int) (r4 : Bool) (w : World) (hr0 : Kd.C k31 w A0 l0.length l0) (hc0 : l0.length ≤ c0) (h : r10_Room.f k l0 a1 = some (r1, r2, r3, r4)) :
  Calls Try.prog 78 #[.slice A0 l0.length c0, .string a1] w fun e w' => e = .returned (.tuple #[.agg #[.int .i64 r1, .int .i64 r2, .int .i64 r3], .bool r4]) ∧ Below w.heap.size w w' := by
 have hu27 := Try.underlying27
 have hu31 := Try.underlying31
 have HR0 := Aside0.mk hr0
 have HC0 := Aside0.mk hc0
 clear hr0 hc0
 have HB := Aside0.mk (Below.refl w.heap.size w)
 have H : ((r10_Up.f k l0 a1).bind fun t2 => (if (t2.length : Int) = 0 then (some (0, 0, 0, false)) else (if 0 < (t2.length : Int) then ((r10_Find.f k l0 (rdOf ByteArray.empty t2 0)).bind fun t6 => (if 0 ≤ t6 then (if t6 < (l0.length : Int) then ((r10_free.f ((rd_T31 l0 t6).f0) ((rd_T31 l0 t6).f1) ((rd_T31 l0 t6).f2.f0) ((rd_T31 l0 t6).f2.f1) ((rd_T31 l0 t6).f2.f2) ((rd_T31 l0 t6).f3.f0) ((rd_T31 l0 t6).f3.f1) ((rd_T31 l0 t6).f3.f2) ((rd_T31 l0 t6).f4.f0) ((rd_T31 l0 t6).f4.f1) ((rd_T31 l0 t6).f4.f2) ((rd_T31 l0 t6).f5)).bind fun bt8 => (r10_Room.l0 k l0 t2 1 bt8.1 bt8.2.1 bt8.2.2)) else (none)) else (none))) else (none)))) = some (r1, r2, r3, r4) := h
 clear h
 replace H := Option.bind_eq_some_iff.mp H
 obtain ⟨t2, A30, H⟩ := H
 replace H : (if (t2.length : Int) = 0 then (some (0, 0, 0, false)) else (if 0 < (t2.length : Int) then ((r10_Find.f k l0 (rdOf ByteArray.empty t2 0)).bind fun t6 => (if 0 ≤ t6 then (if t6 < (l0.length : Int) then ((r10_free.f ((rd_T31 l0 t6).f0) ((rd_T31 l0 t6).f1) ((rd_T31 l0 t6).f2.f0) ((rd_T31 l0 t6).f2.f1) ((rd_T31 l0 t6).f2.f2) ((rd_T31 l0 t6).f3.f0) ((rd_T31 l0 t6).f3.f1) ((rd_T31 l0 t6).f3.f2) ((rd_T31 l0 t6).f4.f0) ((rd_T31 l0 t6).f4.f1) ((rd_T31 l0 t6).f4.f2) ((rd_T31 l0 t6).f5)).bind fun bt8 => (r10_Room.l0 k l0 t2 1 bt8.1 bt8.2.1 bt8.2.2)) else (none)) else (none))) else (none))) = some (r1, r2, r3, r4) := H
 have A3 := Aside0.mk A30
 clear A30
 by_cases c4 : (t2.length : Int) = 0
 ·rw [if_pos c4] at H
  have c4b0 : ((t2.length : Int) == 0) = true := beq_iff_eq.mpr c4
  have c4b1 : ((t2.length : Int) != 0) = false := bne_eq_false_iff_eq.mpr c4
  clear c4
  simp only [Option.some.injEq, Prod.mk.injEq] at H
  obtain ⟨rfl, rfl, rfl, rfl⟩ := H
  go_enter Try.func78, Try.ntmps78
  go_wp2_with (first|((with_reducible refine gate_dst (N := 4) rfl ?_);refine box_event ?hg (N := 4) ?hd (cs := #[.int .i64 0, .int .i64 0, .int .i64 0]) (t := 27) ?hr ?_;(case hd => rfl);(case hg => rfl);(case hr => first|(go_simp;done)|(go_simp;rfl));intro gb1 hg w5 hbox hb;have n0_ := Aside0.mk (below_step (by repeat (first|(with_reducible first|exact HB.out|apply below_alloc|apply pw_below_drewN|apply below_drew1)|exact HB.out)) hb);have n1_ := Aside0.mk (hbox);have n2_ := Aside0.mk ((by rw [hg];exact (below_size (by repeat (first|(with_reducible first|exact HB.out|apply below_alloc|apply pw_below_drewN|apply below_drew1)|exact HB.out))) : w.heap.size ≤ gb1));have n3_ := Aside0.mk ((by rw [hg];exact (below_size (by repeat (first|(with_reducible first|exact HB.out|apply below_alloc|apply pw_below_drewN|apply below_drew1)|exact HB.out))) : w.heap.size ≤ gb1));clear HB;have HB := n0_;have BK1 := n1_;have GW1 := n2_;have GE1 := n3_;clear n0_ n1_ n2_ n3_;clear hb hbox hg)|((with_reducible refine gate_callee (f := 106) rfl ?_);refine goesL_ (some 12) rfl rfl Try.func106 (by kernel_rfl) rfl #[.slice A0 l0.length c0, .string a1] rfl (by (try simp only [List.map_toArray, List.map_cons, List.map_nil]);first|done|rfl|(simp only [List.length_drop, List.length_take];rfl)) ?_;(with_reducible refine (r10_Up.calls k _ _ l0 a1 t2 _ ?side1 ?side2 A3.out).mono ?_);(case side1 => repeat (first|exact (Kd.C_below HR0.out HB.out)|(with_reducible refine Kd.C_alloc ?_ _)|(with_reducible refine Kd.C_drewN ?_ _)|(with_reducible refine Kd.C_drew ?_)));(case side2 => exact HC0.out);rintro e w6 ⟨v3, rfl, ho0, hb⟩;refine ⟨_, rfl, ?_⟩;have n0_ := Aside0.mk (Kd.R_lower ho0 (below_size (by repeat (first|(with_reducible first|exact HB.out|apply below_alloc|apply pw_below_drewN|apply below_drew1|refine below_set ?_ GE1.out)|exact HB.out))));have n1_ := Aside0.mk (blk_below (g := gb1) (o := .cells #[.int .i64 0, .int .i64 0, .int .i64 0] 27 (0, 0)) (by (with_reducible repeat (first|refine blk_drewN ?_ _|refine blk_drew ?_|refine blk_alloc ?_ _));exact BK1.out) hb);have n2_ := Aside0.mk (below_step (by repeat (first|(with_reducible first|exact HB.out|apply below_alloc|apply pw_below_drewN|apply below_drew1|refine below_set ?_ GE1.out)|exact HB.out)) hb);clear BK1;clear HB;have HO4 := n0_;have BK1 := n1_;have HB := n2_;clear n0_ n1_ n2_;(try clear hb);(try clear hb2);(try clear hk);(try clear hi);(try clear ho0);obtain ⟨Ao7, co7, eo7⟩ := Kd.R_slice HO4.out;subst eo7;have hcz8_0 : w6.cell? ⟨gb1, 0, none⟩ = some (.int .i64 0) := (blk_cell BK1.out 0).trans rfl;have hcz8_1 : w6.cell? ⟨gb1, 1, none⟩ = some (.int .i64 0) := (blk_cell BK1.out 1).trans rfl;have hcz8_2 : w6.cell? ⟨gb1, 2, none⟩ = some (.int .i64 0) := (blk_cell BK1.out 2).trans rfl;have hfz8_0 := blk_frozen BK1.out 0;have hfz8_1 := blk_frozen BK1.out 1;have hfz8_2 := blk_frozen BK1.out 2))
  refine bodyPost_ret (results_ct rfl _ _ gb1 27 #[.int .i64 0, .int .i64 0, .int .i64 0] (0, 0) _ rfl (by (with_reducible repeat (first|refine blk_drewN ?_ _|refine blk_drew ?_|refine blk_alloc ?_ _));refine blk_put (cs := #[.int .i64 0, .int .i64 0, .int .i64 0]) ?_ 2 _ rfl;(with_reducible repeat (first|refine blk_drewN ?_ _|refine blk_drew ?_|refine blk_alloc ?_ _));refine blk_put (cs := #[.int .i64 0, .int .i64 0, .int .i64 0]) ?_ 1 _ rfl;(with_reducible repeat (first|refine blk_drewN ?_ _|refine blk_drew ?_|refine blk_alloc ?_ _));refine blk_put (cs := #[.int .i64 0, .int .i64 0, .int .i64 0]) ?_ 0 _ rfl;(with_reducible repeat (first|refine blk_drewN ?_ _|refine blk_drew ?_|refine blk_alloc ?_ _));exact BK1.out) Try.underlying27 rfl (by kernel_rfl)) rfl ?_
  exact ⟨by first|rfl|(simp [errW_none, errW_some] <;> rfl)|(simp [*, errW_none, errW_some] <;> rfl), by repeat (first|(with_reducible first|exact HB.out|apply below_alloc|apply pw_below_drewN|apply below_drew1|refine below_set ?_ GE1.out)|exact HB.out)⟩
 ·rw [if_neg c4] at H
  have c4b0 : ((t2.length : Int) == 0) = false := beq_eq_false_iff_ne.mpr c4
  have c4b1 : ((t2.length : Int) != 0) = true := bne_iff_ne.mpr c4
  have c4b2 : ¬ (t2 = []) := fun h_ => c4 (by rw [h_]; rfl)
  by_cases c9 : 0 < (t2.length : Int)
  ·rw [if_pos c9] at H
   have c9b0 : decide (0 < (t2.length : Int)) = true := decide_eq_true c9
   have c9b1 : decide (0 < t2.length) = true := decide_eq_true (by omega)
   clear c9
   replace H := Option.bind_eq_some_iff.mp H
   obtain ⟨t6, A100, H⟩ := H
   replace H : (if 0 ≤ t6 then (if t6 < (l0.length : Int) then ((r10_free.f ((rd_T31 l0 t6).f0) ((rd_T31 l0 t6).f1) ((rd_T31 l0 t6).f2.f0) ((rd_T31 l0 t6).f2.f1) ((rd_T31 l0 t6).f2.f2) ((rd_T31 l0 t6).f3.f0) ((rd_T31 l0 t6).f3.f1) ((rd_T31 l0 t6).f3.f2) ((rd_T31 l0 t6).f4.f0) ((rd_T31 l0 t6).f4.f1) ((rd_T31 l0 t6).f4.f2) ((rd_T31 l0 t6).f5)).bind fun bt8 => (r10_Room.l0 k l0 t2 1 bt8.1 bt8.2.1 bt8.2.2)) else (none)) else (none)) = some (r1, r2, r3, r4) := H
   have A10 := Aside0.mk A100
   clear A100
   by_cases c11 : 0 ≤ t6
   ·rw [if_pos c11] at H
    have c11b0 : decide (0 ≤ t6) = true := decide_eq_true c11
    clear c11
    by_cases c12 : t6 < (l0.length : Int)
    ·rw [if_pos c12] at H
     have c12b0 : decide (t6 < (l0.length : Int)) = true := decide_eq_true c12
     clear c12
     replace H := Option.bind_eq_some_iff.mp H
     obtain ⟨⟨t8, t9, t10⟩, A130, H⟩ := H
     replace H : (r10_Room.l0 k l0 t2 1 t8 t9 t10) = some (r1, r2, r3, r4) := H
     have A13 := Aside0.mk A130
     clear A130
     have H' := Aside0.mk H
     clear H
     go_enter Try.func78, Try.ntmps78
     go_wp2_with (first|((with_reducible refine gate_dst (N := 4) rfl ?_);refine box_event ?hg (N := 4) ?hd (cs := #[.int .i64 0, .int .i64 0, .int .i64 0]) (t := 27) ?hr ?_;(case hd => rfl);(case hg => rfl);(case hr => first|(go_simp;done)|(go_simp;rfl));intro gb1 hg w14 hbox hb;have n0_ := Aside0.mk (below_step (by repeat (first|(with_reducible first|exact HB.out|apply below_alloc|apply pw_below_drewN|apply below_drew1)|exact HB.out)) hb);have n1_ := Aside0.mk (hbox);have n2_ := Aside0.mk ((by rw [hg];exact (below_size (by repeat (first|(with_reducible first|exact HB.out|apply below_alloc|apply pw_below_drewN|apply below_drew1)|exact HB.out))) : w.heap.size ≤ gb1));have n3_ := Aside0.mk ((by rw [hg];exact (below_size (by repeat (first|(with_reducible first|exact HB.out|apply below_alloc|apply pw_below_drewN|apply below_drew1)|exact HB.out))) : w.heap.size ≤ gb1));clear HB;have HB := n0_;have BK1 := n1_;have GW1 := n2_;have GE1 := n3_;clear n0_ n1_ n2_ n3_;clear hb hbox hg)|((with_reducible refine gate_callee (f := 106) rfl ?_);refine goesL_ (some 12) rfl rfl Try.func106 (by kernel_rfl) rfl #[.slice A0 l0.length c0, .string a1] rfl (by (try simp only [List.map_toArray, List.map_cons, List.map_nil]);first|done|rfl|(simp only [List.length_drop, List.length_take];rfl)) ?_;(with_reducible refine (r10_Up.calls k _ _ l0 a1 t2 _ ?side1 ?side2 A3.out).mono ?_);(case side1 => repeat (first|exact (Kd.C_below HR0.out HB.out)|(with_reducible refine Kd.C_alloc ?_ _)|(with_reducible refine Kd.C_drewN ?_ _)|(with_reducible refine Kd.C_drew ?_)));(case side2 => exact HC0.out);rintro e w15 ⟨v3, rfl, ho0, hb⟩;refine ⟨_, rfl, ?_⟩;have n0_ := Aside0.mk (Kd.R_lower ho0 (below_size (by repeat (first|(with_reducible first|exact HB.out|apply below_alloc|apply pw_below_drewN|apply below_drew1|refine below_set ?_ GE1.out)|exact HB.out))));have n1_ := Aside0.mk (blk_below (g := gb1) (o := .cells #[.int .i64 0, .int .i64 0, .int .i64 0] 27 (0, 0)) (by (with_reducible repeat (first|refine blk_drewN ?_ _|refine blk_drew ?_|refine blk_alloc ?_ _));exact BK1.out) hb);have n2_ := Aside0.mk (below_step (by repeat (first|(with_reducible first|exact HB.out|apply below_alloc|apply pw_below_drewN|apply below_drew1|refine below_set ?_ GE1.out)|exact HB.out)) hb);clear BK1;clear HB;have HO4 := n0_;have BK1 := n1_;have HB := n2_;clear n0_ n1_ n2_;(try clear hb);(try clear hb2);(try clear hk);(try clear hi);(try clear ho0);obtain ⟨Ao16, co16, eo16⟩ := Kd.R_slice HO4.out;subst eo16;have p5 : 0 ≤ (0 : Int) := (by omega);have q5 : 0 < (t2.length : Int) := of_decide_eq_true (by first|(with_reducible assumption)|assumption);obtain ⟨ad5, e5, hx5_0⟩ := Kd.at_string (Kd.R_reads' HO4.out).2.2 0 p5 q5;cases e5;have qi5 : (0 < t2.length) = True := eq_true (by omega);(try rw [show ((0 : Int)).toNat = 0 from rfl] at hx5_0);(try rw [Addr.add_zero'] at hx5_0);replace p5 := eq_true p5;replace q5 := eq_true q5)|((with_reducible refine gate_callee (f := 50) rfl ?_);refine goesL_ (some 22) rfl rfl Try.func50 (by kernel_rfl) rfl #[.slice A0 l0.length c0, .string (rdOf ByteArray.empty t2 0)] rfl (by (try simp only [List.map_toArray, List.map_cons, List.map_nil]);first|done|rfl|(simp only [List.length_drop, List.length_take];rfl)) ?_;(with_reducible refine (r10_Find.calls k _ _ l0 (rdOf ByteArray.empty t2 0) t6 _ ?side1 ?side2 A10.out).mono ?_);(case side1 => repeat (first|exact (Kd.C_below HR0.out HB.out)|(with_reducible refine Kd.C_alloc ?_ _)|(with_reducible refine Kd.C_drewN ?_ _)|(with_reducible refine Kd.C_drew ?_)));(case side2 => exact HC0.out);rintro e w' ⟨rfl, ⟨nd, rfl⟩⟩;refine ⟨_, rfl, ?_⟩;(try (rw [drewN_self w15];generalize hq_ : World.drewN w15 _ = w15;have n0_ : Aside0 (Kd.R Kd.string 9 w15 w.heap.size (fun _ => True) (.slice (some ad5) t2.length co16) t2) := ⟨by rw [← hq_];exact (by (with_reducible repeat (first|apply Kd.R_alloc|apply Kd.R_drewN|apply Kd.R_drew));exact HO4.out)⟩;have n1_ : Aside0 (w15.heap[gb1]? = some (.cells #[.int .i64 0, .int .i64 0, .int .i64 0] 27 (0, 0))) := ⟨by rw [← hq_];exact (by (with_reducible repeat (first|refine blk_drewN ?_ _|refine blk_drew ?_|refine blk_alloc ?_ _));exact BK1.out)⟩;have n2_ : Aside0 (Below w.heap.size w w15) := ⟨by rw [← hq_];exact (by repeat (first|(with_reducible first|exact HB.out|apply below_alloc|apply pw_below_drewN|apply below_drew1|refine below_set ?_ GE1.out)|exact HB.out))⟩;clear HO4 BK1 HB hq_;have HO4 := n0_;have BK1 := n1_;have HB := n2_;clear n0_ n1_ n2_));have p7 : 0 ≤ (t6 : Int) := of_decide_eq_true (by first|(with_reducible assumption)|assumption);have q7 : t6 < (l0.length : Int) := of_decide_eq_true (by first|(with_reducible assumption)|assumption);obtain ⟨ad7, e7, hx7_0, hx7_1, hx7_2, hx7_3, hx7_4, hx7_5, hx7_6, hx7_7, hx7_8, hx7_9, hx7_10, hx7_11⟩ := at_T31 HR0.out t6 p7 q7;cases e7;replace hx7_0 := (HB.out.cell (World.block_lt_of_cell? w _ hx7_0)).trans hx7_0;replace hx7_1 := (HB.out.cell (World.block_lt_of_cell? w _ hx7_1)).trans hx7_1;replace hx7_2 := (HB.out.cell (World.block_lt_of_cell? w _ hx7_2)).trans hx7_2;replace hx7_3 := (HB.out.cell (World.block_lt_of_cell? w _ hx7_3)).trans hx7_3;replace hx7_4 := (HB.out.cell (World.block_lt_of_cell? w _ hx7_4)).trans hx7_4;replace hx7_5 := (HB.out.cell (World.block_lt_of_cell? w _ hx7_5)).trans hx7_5;replace hx7_6 := (HB.out.cell (World.block_lt_of_cell? w _ hx7_6)).trans hx7_6;replace hx7_7 := (HB.out.cell (World.block_lt_of_cell? w _ hx7_7)).trans hx7_7;replace hx7_8 := (HB.out.cell (World.block_lt_of_cell? w _ hx7_8)).trans hx7_8;replace hx7_9 := (HB.out.cell (World.block_lt_of_cell? w _ hx7_9)).trans hx7_9;replace hx7_10 := (HB.out.cell (World.block_lt_of_cell? w _ hx7_10)).trans hx7_10;replace hx7_11 := (HB.out.cell (World.block_lt_of_cell? w _ hx7_11)).trans hx7_11;replace p7 := eq_true p7;replace q7 := eq_true q7)|((with_reducible refine gate_callee (f := 135) rfl ?_);refine goesL_ (some 25) rfl rfl Try.func135 (by kernel_rfl) rfl #[.agg #[.string ((rd_T31 l0 t6).f0), .string ((rd_T31 l0 t6).f1), .int .i64 ((rd_T31 l0 t6).f2.f0), .int .i64 ((rd_T31 l0 t6).f2.f1), .int .i64 ((rd_T31 l0 t6).f2.f2), .int .i64 ((rd_T31 l0 t6).f3.f0), .int .i64 ((rd_T31 l0 t6).f3.f1), .int .i64 ((rd_T31 l0 t6).f3.f2), .int .i64 ((rd_T31 l0 t6).f4.f0), .int .i64 ((rd_T31 l0 t6).f4.f1), .int .i64 ((rd_T31 l0 t6).f4.f2), .int .i64 ((rd_T31 l0 t6).f5)]] rfl (by (try simp only [List.map_toArray, List.map_cons, List.map_nil]);first|done|rfl|(simp only [List.length_drop, List.length_take];rfl)) ?_;(with_reducible refine (r10_free.calls ((rd_T31 l0 t6).f0) ((rd_T31 l0 t6).f1) ((rd_T31 l0 t6).f2.f0) ((rd_T31 l0 t6).f2.f1) ((rd_T31 l0 t6).f2.f2) ((rd_T31 l0 t6).f3.f0) ((rd_T31 l0 t6).f3.f1) ((rd_T31 l0 t6).f3.f2) ((rd_T31 l0 t6).f4.f0) ((rd_T31 l0 t6).f4.f1) ((rd_T31 l0 t6).f4.f2) ((rd_T31 l0 t6).f5) t8 t9 t10 _ A13.out).mono ?_);rintro e w17 ⟨rfl, hb⟩;refine ⟨_, rfl, ?_⟩;have n0_ := Aside0.mk (Kd.R_below (by (with_reducible repeat (first|apply Kd.R_alloc|apply Kd.R_drewN|apply Kd.R_drew));exact HO4.out) hb);have n1_ := Aside0.mk (blk_below (g := gb1) (o := .cells #[.int .i64 0, .int .i64 0, .int .i64 0] 27 (0, 0)) (by (with_reducible repeat (first|refine blk_drewN ?_ _|refine blk_drew ?_|refine blk_alloc ?_ _));exact BK1.out) hb);have n2_ := Aside0.mk (below_step (by repeat (first|(with_reducible first|exact HB.out|apply below_alloc|apply pw_below_drewN|apply below_drew1|refine below_set ?_ GE1.out)|exact HB.out)) hb);clear HO4;clear BK1;clear HB;have HO4 := n0_;have BK1 := n1_;have HB := n2_;clear n0_ n1_ n2_;(try clear hb);(try clear hb2);(try clear hk);(try clear hi))|((with_reducible refine gate_dst (N := 7) rfl ?_);refine box_event ?hg (N := 7) ?hd (cs := #[.int .i64 0, .int .i64 0, .int .i64 0]) (t := 27) ?hr ?_;(case hd => rfl);(case hg => rfl);(case hr => first|(go_simp;done)|(go_simp;rfl));intro gb11 hg w18 hbox hb;have n0_ := Aside0.mk (Kd.R_below (by (with_reducible repeat (first|apply Kd.R_alloc|apply Kd.R_drewN|apply Kd.R_drew));exact HO4.out) hb);have n1_ := Aside0.mk (blk_below (g := gb1) (o := .cells #[.int .i64 0, .int .i64 0, .int .i64 0] 27 (0, 0)) (by (with_reducible repeat (first|refine blk_drewN ?_ _|refine blk_drew ?_|refine blk_alloc ?_ _));exact BK1.out) hb);have n2_ := Aside0.mk (below_step (by repeat (first|(with_reducible first|exact HB.out|apply below_alloc|apply pw_below_drewN|apply below_drew1|refine below_set ?_ GE1.out)|exact HB.out)) hb);have n3_ := Aside0.mk (hbox);have n4_ := Aside0.mk ((by rw [hg];exact (below_size (by repeat (first|(with_reducible first|exact HB.out|apply below_alloc|apply pw_below_drewN|apply below_drew1|refine below_set ?_ GE1.out)|exact HB.out))) : w.heap.size ≤ gb11));have n5_ := Aside0.mk ((by rw [hg];exact (below_size (by repeat (first|(with_reducible first|exact HB.out|apply below_alloc|apply pw_below_drewN|apply below_drew1|refine below_set ?_ GE1.out)|exact HB.out))) : w.heap.size ≤ gb11));have n6_ := Aside0.mk ((by rw [hg];exact Nat.ne_of_lt (blk_lt (g := gb1) (o := .cells #[.int .i64 0, .int .i64 0, .int .i64 0] 27 (0, 0)) (by (with_reducible repeat (first|refine blk_drewN ?_ _|refine blk_drew ?_|refine blk_alloc ?_ _));exact BK1.out)) : gb1 ≠ gb11));have n7_ := Aside0.mk ((by rw [hg];exact Nat.ne_of_gt (blk_lt (g := gb1) (o := .cells #[.int .i64 0, .int .i64 0, .int .i64 0] 27 (0, 0)) (by (with_reducible repeat (first|refine blk_drewN ?_ _|refine blk_drew ?_|refine blk_alloc ?_ _));exact BK1.out)) : gb11 ≠ gb1));clear HO4;clear BK1;clear HB;have HO4 := n0_;have BK1 := n1_;have HB := n2_;have BK11 := n3_;have GW11 := n4_;have GE11 := n5_;have NB1_11 := n6_;have NB11_1 := n7_;clear n0_ n1_ n2_ n3_ n4_ n5_ n6_ n7_;clear hb hbox hg;have hnb19 := NB11_1.out;have hnc19 := NB1_11.out;have hcz20_0 : w18.cell? ⟨gb11, 0, none⟩ = some (.int .i64 0) := (blk_cell BK11.out 0).trans rfl;have hcz20_1 : w18.cell? ⟨gb11, 1, none⟩ = some (.int .i64 0) := (blk_cell BK11.out 1).trans rfl;have hcz20_2 : w18.cell? ⟨gb11, 2, none⟩ = some (.int .i64 0) := (blk_cell BK11.out 2).trans rfl;have hfz20_0 := blk_frozen BK11.out 0;have hfz20_1 := blk_frozen BK11.out 1;have hfz20_2 := blk_frozen BK11.out 2))
     go_loopg [8] k (fun kq v8 w' => ∃ (x8_1 : Int) (x12000_1 : Int) (x12001_1 : Int) (x12002_1 : Int), v8 = .int .i64 x8_1 ∧ Aside0 (r10_Room.l0 kq l0 t2 x8_1 x12000_1 x12001_1 x12002_1 = some (r1, r2, r3, r4)) ∧ Aside0 (kq ≤ k) ∧ Aside0 (Kd.R Kd.string 9 w' w.heap.size (fun _ => True) (.slice (some ad5) t2.length co16) t2) ∧ Aside0 (w'.heap[gb1]? = some (.cells #[.int .i64 0, .int .i64 0, .int .i64 0] 27 (0, 0))) ∧ Aside0 (w'.heap[gb11]? = some (.cells #[.int .i64 x12000_1, .int .i64 x12001_1, .int .i64 x12002_1] 27 (0, 0))) ∧ Aside0 (Below w.heap.size w w'))
     case atStart => exact ⟨(1), (t8), (t9), (t10), (by first|rfl|(simp;done)|(simp [*];done)), H', ⟨Nat.le_refl _⟩, ⟨by (with_reducible repeat (first|apply Kd.R_alloc|apply Kd.R_drewN|apply Kd.R_drew));exact Kd.R_mono (Kd.R_far (p := ⟨gb11, 2, none⟩) (Kd.R_far (p := ⟨gb11, 1, none⟩) (Kd.R_far (p := ⟨gb11, 0, none⟩) (Kd.R_types HO4.out BK11.out (by decide)) (fun _ hk => hk.2) (.int .i64 t8)) (fun _ hk => hk.2) (.int .i64 t9)) (fun _ hk => hk.2) (.int .i64 t10)) (fun _ hk => trivial)⟩, ⟨by (with_reducible repeat (first|refine blk_drewN ?_ _|refine blk_drew ?_|refine blk_alloc ?_ _));refine blk_far ?_ NB1_11.out _;(with_reducible repeat (first|refine blk_drewN ?_ _|refine blk_drew ?_|refine blk_alloc ?_ _));refine blk_far ?_ NB1_11.out _;(with_reducible repeat (first|refine blk_drewN ?_ _|refine blk_drew ?_|refine blk_alloc ?_ _));refine blk_far ?_ NB1_11.out _;(with_reducible repeat (first|refine blk_drewN ?_ _|refine blk_drew ?_|refine blk_alloc ?_ _));exact BK1.out⟩, ⟨by (with_reducible repeat (first|refine blk_drewN ?_ _|refine blk_drew ?_|refine blk_alloc ?_ _));refine blk_put (cs := #[.int .i64 t8, .int .i64 t9, .int .i64 0]) ?_ 2 _ rfl;(with_reducible repeat (first|refine blk_drewN ?_ _|refine blk_drew ?_|refine blk_alloc ?_ _));refine blk_put (cs := #[.int .i64 t8, .int .i64 0, .int .i64 0]) ?_ 1 _ rfl;(with_reducible repeat (first|refine blk_drewN ?_ _|refine blk_drew ?_|refine blk_alloc ?_ _));refine blk_put (cs := #[.int .i64 0, .int .i64 0, .int .i64 0]) ?_ 0 _ rfl;(with_reducible repeat (first|refine blk_drewN ?_ _|refine blk_drew ?_|refine blk_alloc ?_ _));exact BK11.out⟩, ⟨by repeat (first|(with_reducible first|exact HB.out|apply below_alloc|apply pw_below_drewN|apply below_drew1|refine below_set ?_ GE1.out|refine below_set ?_ GE11.out)|exact HB.out)⟩⟩
     case round =>
      clear H'
      try clear c1
      try clear p2
      try clear c4
      try clear c4b0
      try clear c4b1
      try clear c4b2
      try clear c5
      try clear p5
      try clear q5
      try clear hx5
      try clear qi5
      try clear c7
      try clear p7
      try clear q7
      try clear hx7
      try clear c9
      try clear c9b0
      try clear c9b1
      try clear c10
      try clear c11
      try clear c11b0
      try clear c12
      try clear c12b0
      try clear c13
      try clear c19
      try clear hcz20_0
      try clear hcz20_1
      try clear hcz20_2
      try clear hcz8_0
      try clear hcz8_1
      try clear hcz8_2
      try clear hfz20_0
      try clear hfz20_1
      try clear hfz20_2
      try clear hfz8_0
      try clear hfz8_1
      try clear hfz8_2
      try clear hx5_0
      try clear hx7_0
      try clear hx7_1
      try clear hx7_10
      try clear hx7_11
      try clear hx7_2
      try clear hx7_3
      try clear hx7_4
      try clear hx7_5
      try clear hx7_6
      try clear hx7_7
      try clear hx7_8
      try clear hx7_9
      try clear p5
      try clear p7
      try clear q5
      try clear q7
      obtain ⟨x8_1, x12000_1, x12001_1, x12002_1, rfl, HA, HK1, HO_6, BK1, BK11, HB⟩ := hrel
      cases gk with
      | zero => exact absurd HA.out (by simp [r10_Room.l0])
      | succ k1 =>
       have H := HA.out
       clear HA
       simp only [r10_Room.l0] at H
       by_cases c21 : x8_1 < (t2.length : Int)
       ·rw [if_pos c21] at H
        have c21b0 : decide (x8_1 < (t2.length : Int)) = true := decide_eq_true c21
        clear c21
        by_cases c22 : 0 ≤ x8_1
        ·rw [if_pos c22] at H
         have c22b0 : decide (0 ≤ x8_1) = true := decide_eq_true c22
         clear c22
         replace H := Option.bind_eq_some_iff.mp H
         obtain ⟨t13, A230, H⟩ := H
         replace H : (if 0 ≤ t13 then (if t13 < (l0.length : Int) then ((r10_free.f ((rd_T31 l0 t13).f0) ((rd_T31 l0 t13).f1) ((rd_T31 l0 t13).f2.f0) ((rd_T31 l0 t13).f2.f1) ((rd_T31 l0 t13).f2.f2) ((rd_T31 l0 t13).f3.f0) ((rd_T31 l0 t13).f3.f1) ((rd_T31 l0 t13).f3.f2) ((rd_T31 l0 t13).f4.f0) ((rd_T31 l0 t13).f4.f1) ((rd_T31 l0 t13).f4.f2) ((rd_T31 l0 t13).f5)).bind fun bt15 => (r10_Room.l0 k1 l0 t2 (wrap64 (x8_1 + 1)) (mn x12000_1 bt15.1) (mn x12001_1 bt15.2.1) (mn x12002_1 bt15.2.2))) else (none)) else (none)) = some (r1, r2, r3, r4) := H
         have A23 := Aside0.mk A230
         clear A230
         by_cases c24 : 0 ≤ t13
         ·rw [if_pos c24] at H
          have c24b0 : decide (0 ≤ t13) = true := decide_eq_true c24
          clear c24
          by_cases c25 : t13 < (l0.length : Int)
          ·rw [if_pos c25] at H
           have c25b0 : decide (t13 < (l0.length : Int)) = true := decide_eq_true c25
           clear c25
           replace H := Option.bind_eq_some_iff.mp H
           obtain ⟨⟨t15, t16, t17⟩, A260, H⟩ := H
           replace H : (r10_Room.l0 k1 l0 t2 (wrap64 (x8_1 + 1)) (mn x12000_1 t15) (mn x12001_1 t16) (mn x12002_1 t17)) = some (r1, r2, r3, r4) := H
           have A26 := Aside0.mk A260
           clear A260
           obtain ⟨ji27, hji27⟩ : ∃ j_ : Int, (mn x12000_1 t15) = j_ := ⟨_, rfl⟩
           replace H : (r10_Room.l0 k1 l0 t2 (wrap64 (x8_1 + 1)) ji27 (mn x12001_1 t16) (mn x12002_1 t17)) = some (r1, r2, r3, r4) := by first | (rw [hji27] at H; exact H) | (simp only [hji27] at H ⊢; exact H)
           (try rw [hji27] at A23)
           (try rw [hji27] at A26)
           have hji27_ : (if t15 < x12000_1 then t15 else x12000_1) = ji27 := hji27
           obtain ⟨ji28, hji28⟩ : ∃ j_ : Int, (mn x12001_1 t16) = j_ := ⟨_, rfl⟩
           replace H : (r10_Room.l0 k1 l0 t2 (wrap64 (x8_1 + 1)) ji27 ji28 (mn x12002_1 t17)) = some (r1, r2, r3, r4) := by first | (rw [hji28] at H; exact H) | (simp only [hji28] at H ⊢; exact H)
           (try rw [hji28] at A23)
           (try rw [hji28] at A26)
           have hji28_ : (if t16 < x12001_1 then t16 else x12001_1) = ji28 := hji28
           obtain ⟨ji29, hji29⟩ : ∃ j_ : Int, (mn x12002_1 t17) = j_ := ⟨_, rfl⟩
           replace H : (r10_Room.l0 k1 l0 t2 (wrap64 (x8_1 + 1)) ji27 ji28 ji29) = some (r1, r2, r3, r4) := by first | (rw [hji29] at H; exact H) | (simp only [hji29] at H ⊢; exact H)
           (try rw [hji29] at A23)
           (try rw [hji29] at A26)
           have hji29_ : (if t17 < x12002_1 then t17 else x12002_1) = ji29 := hji29
           have H' := Aside0.mk H
           clear H
           have p12 : 0 ≤ (x8_1 : Int) := of_decide_eq_true (by first|(with_reducible assumption)|assumption)
           have q12 : x8_1 < (t2.length : Int) := of_decide_eq_true (by first|(with_reducible assumption)|assumption)
           obtain ⟨ad12, e12, hx12_0⟩ := Kd.at_string (Kd.R_reads' HO_6.out).2.2 x8_1 p12 q12
           obtain rfl : ad5 = ad12 := (by injection e12)
           replace p12 := eq_true p12
           replace q12 := eq_true q12
           go_wp2_with (first|((with_reducible refine gate_callee (f := 50) rfl ?_);refine goesL_ (some 38) rfl rfl Try.func50 (by kernel_rfl) rfl #[.slice (some ad7) l0.length c0, .string (rdOf ByteArray.empty t2 x8_1)] rfl (by (try simp only [List.map_toArray, List.map_cons, List.map_nil]);first|done|rfl|(simp only [List.length_drop, List.length_take];rfl)) ?_;(with_reducible refine (r10_Find.calls k1 _ _ l0 (rdOf ByteArray.empty t2 x8_1) t13 _ ?side1 ?side2 A23.out).mono ?_);(case side1 => repeat (first|exact (Kd.C_below HR0.out HB.out)|(with_reducible refine Kd.C_alloc ?_ _)|(with_reducible refine Kd.C_drewN ?_ _)|(with_reducible refine Kd.C_drew ?_)));(case side2 => exact HC0.out);rintro e w' ⟨rfl, ⟨nd, rfl⟩⟩;refine ⟨_, rfl, ?_⟩;(try (rw [drewN_self wr];generalize hq_ : World.drewN wr _ = wr;have n0_ : Aside0 (Kd.R Kd.string 9 wr w.heap.size (fun _ => True) (.slice (some ad5) t2.length co16) t2) := ⟨by rw [← hq_];exact (by (with_reducible repeat (first|apply Kd.R_alloc|apply Kd.R_drewN|apply Kd.R_drew));exact HO_6.out)⟩;have n1_ : Aside0 (wr.heap[gb1]? = some (.cells #[.int .i64 0, .int .i64 0, .int .i64 0] 27 (0, 0))) := ⟨by rw [← hq_];exact (by (with_reducible repeat (first|refine blk_drewN ?_ _|refine blk_drew ?_|refine blk_alloc ?_ _));exact BK1.out)⟩;have n2_ : Aside0 (wr.heap[gb11]? = some (.cells #[.int .i64 x12000_1, .int .i64 x12001_1, .int .i64 x12002_1] 27 (0, 0))) := ⟨by rw [← hq_];exact (by (with_reducible repeat (first|refine blk_drewN ?_ _|refine blk_drew ?_|refine blk_alloc ?_ _));exact BK11.out)⟩;have n3_ : Aside0 (Below w.heap.size w wr) := ⟨by rw [← hq_];exact (by repeat (first|(with_reducible first|exact HB.out|apply below_alloc|apply pw_below_drewN|apply below_drew1|refine below_set ?_ GE1.out|refine below_set ?_ GE11.out)|exact HB.out))⟩;clear HO_6 BK1 BK11 HB hq_;have HO_6 := n0_;have BK1 := n1_;have BK11 := n2_;have HB := n3_;clear n0_ n1_ n2_ n3_));have p14 : 0 ≤ (t13 : Int) := of_decide_eq_true (by first|(with_reducible assumption)|assumption);have q14 : t13 < (l0.length : Int) := of_decide_eq_true (by first|(with_reducible assumption)|assumption);obtain ⟨ad14, e14, hx14_0, hx14_1, hx14_2, hx14_3, hx14_4, hx14_5, hx14_6, hx14_7, hx14_8, hx14_9, hx14_10, hx14_11⟩ := at_T31 HR0.out t13 p14 q14;obtain rfl : ad7 = ad14 := (by injection e14);replace hx14_0 := (HB.out.cell (World.block_lt_of_cell? w _ hx14_0)).trans hx14_0;replace hx14_1 := (HB.out.cell (World.block_lt_of_cell? w _ hx14_1)).trans hx14_1;replace hx14_2 := (HB.out.cell (World.block_lt_of_cell? w _ hx14_2)).trans hx14_2;replace hx14_3 := (HB.out.cell (World.block_lt_of_cell? w _ hx14_3)).trans hx14_3;replace hx14_4 := (HB.out.cell (World.block_lt_of_cell? w _ hx14_4)).trans hx14_4;replace hx14_5 := (HB.out.cell (World.block_lt_of_cell? w _ hx14_5)).trans hx14_5;replace hx14_6 := (HB.out.cell (World.block_lt_of_cell? w _ hx14_6)).trans hx14_6;replace hx14_7 := (HB.out.cell (World.block_lt_of_cell? w _ hx14_7)).trans hx14_7;replace hx14_8 := (HB.out.cell (World.block_lt_of_cell? w _ hx14_8)).trans hx14_8;replace hx14_9 := (HB.out.cell (World.block_lt_of_cell? w _ hx14_9)).trans hx14_9;replace hx14_10 := (HB.out.cell (World.block_lt_of_cell? w _ hx14_10)).trans hx14_10;replace hx14_11 := (HB.out.cell (World.block_lt_of_cell? w _ hx14_11)).trans hx14_11;replace p14 := eq_true p14;replace q14 := eq_true q14)|((with_reducible refine gate_callee (f := 135) rfl ?_);refine goesL_ (some 41) rfl rfl Try.func135 (by kernel_rfl) rfl #[.agg #[.string ((rd_T31 l0 t13).f0), .string ((rd_T31 l0 t13).f1), .int .i64 ((rd_T31 l0 t13).f2.f0), .int .i64 ((rd_T31 l0 t13).f2.f1), .int .i64 ((rd_T31 l0 t13).f2.f2), .int .i64 ((rd_T31 l0 t13).f3.f0), .int .i64 ((rd_T31 l0 t13).f3.f1), .int .i64 ((rd_T31 l0 t13).f3.f2), .int .i64 ((rd_T31 l0 t13).f4.f0), .int .i64 ((rd_T31 l0 t13).f4.f1), .int .i64 ((rd_T31 l0 t13).f4.f2), .int .i64 ((rd_T31 l0 t13).f5)]] rfl (by (try simp only [List.map_toArray, List.map_cons, List.map_nil]);first|done|rfl|(simp only [List.length_drop, List.length_take];rfl)) ?_;(with_reducible refine (r10_free.calls ((rd_T31 l0 t13).f0) ((rd_T31 l0 t13).f1) ((rd_T31 l0 t13).f2.f0) ((rd_T31 l0 t13).f2.f1) ((rd_T31 l0 t13).f2.f2) ((rd_T31 l0 t13).f3.f0) ((rd_T31 l0 t13).f3.f1) ((rd_T31 l0 t13).f3.f2) ((rd_T31 l0 t13).f4.f0) ((rd_T31 l0 t13).f4.f1) ((rd_T31 l0 t13).f4.f2) ((rd_T31 l0 t13).f5) t15 t16 t17 _ A26.out).mono ?_);rintro e w30 ⟨rfl, hb⟩;refine ⟨_, rfl, ?_⟩;have n0_ := Aside0.mk (Kd.R_below (by (with_reducible repeat (first|apply Kd.R_alloc|apply Kd.R_drewN|apply Kd.R_drew));exact HO_6.out) hb);have n1_ := Aside0.mk (blk_below (g := gb1) (o := .cells #[.int .i64 0, .int .i64 0, .int .i64 0] 27 (0, 0)) (by (with_reducible repeat (first|refine blk_drewN ?_ _|refine blk_drew ?_|refine blk_alloc ?_ _));exact BK1.out) hb);have n2_ := Aside0.mk (blk_below (g := gb11) (o := .cells #[.int .i64 x12000_1, .int .i64 x12001_1, .int .i64 x12002_1] 27 (0, 0)) (by (with_reducible repeat (first|refine blk_drewN ?_ _|refine blk_drew ?_|refine blk_alloc ?_ _));exact BK11.out) hb);have n3_ := Aside0.mk (below_step (by repeat (first|(with_reducible first|exact HB.out|apply below_alloc|apply pw_below_drewN|apply below_drew1|refine below_set ?_ GE1.out|refine below_set ?_ GE11.out)|exact HB.out)) hb);clear HO_6;clear BK1;clear BK11;clear HB;have HO_6 := n0_;have BK1 := n1_;have BK11 := n2_;have HB := n3_;clear n0_ n1_ n2_ n3_;(try clear hb);(try clear hb2);(try clear hk);(try clear hi))|((with_reducible refine gate_dst (N := 9) rfl ?_);refine box_event ?hg (N := 9) ?hd (cs := #[.int .i64 0, .int .i64 0, .int .i64 0]) (t := 27) ?hr ?_;(case hd => rfl);(case hg => rfl);(case hr => first|(go_simp;done)|(go_simp;rfl));intro gb18 hg w31 hbox hb;have n0_ := Aside0.mk (Kd.R_below (by (with_reducible repeat (first|apply Kd.R_alloc|apply Kd.R_drewN|apply Kd.R_drew));exact HO_6.out) hb);have n1_ := Aside0.mk (blk_below (g := gb1) (o := .cells #[.int .i64 0, .int .i64 0, .int .i64 0] 27 (0, 0)) (by (with_reducible repeat (first|refine blk_drewN ?_ _|refine blk_drew ?_|refine blk_alloc ?_ _));exact BK1.out) hb);have n2_ := Aside0.mk (blk_below (g := gb11) (o := .cells #[.int .i64 x12000_1, .int .i64 x12001_1, .int .i64 x12002_1] 27 (0, 0)) (by (with_reducible repeat (first|refine blk_drewN ?_ _|refine blk_drew ?_|refine blk_alloc ?_ _));exact BK11.out) hb);have n3_ := Aside0.mk (below_step (by repeat (first|(with_reducible first|exact HB.out|apply below_alloc|apply pw_below_drewN|apply below_drew1|refine below_set ?_ GE1.out|refine below_set ?_ GE11.out)|exact HB.out)) hb);have n4_ := Aside0.mk (hbox);have n5_ := Aside0.mk ((by rw [hg];exact (below_size (by repeat (first|(with_reducible first|exact HB.out|apply below_alloc|apply pw_below_drewN|apply below_drew1|refine below_set ?_ GE1.out|refine below_set ?_ GE11.out)|exact HB.out))) : w.heap.size ≤ gb18));have n6_ := Aside0.mk ((by rw [hg];exact (below_size (by repeat (first|(with_reducible first|exact HB.out|apply below_alloc|apply pw_below_drewN|apply below_drew1|refine below_set ?_ GE1.out|refine below_set ?_ GE11.out)|exact HB.out))) : w.heap.size ≤ gb18));have n7_ := Aside0.mk ((by rw [hg];exact Nat.ne_of_lt (blk_lt (g := gb1) (o := .cells #[.int .i64 0, .int .i64 0, .int .i64 0] 27 (0, 0)) (by (with_reducible repeat (first|refine blk_drewN ?_ _|refine blk_drew ?_|refine blk_alloc ?_ _));exact BK1.out)) : gb1 ≠ gb18));have n8_ := Aside0.mk ((by rw [hg];exact Nat.ne_of_gt (blk_lt (g := gb1) (o := .cells #[.int .i64 0, .int .i64 0, .int .i64 0] 27 (0, 0)) (by (with_reducible repeat (first|refine blk_drewN ?_ _|refine blk_drew ?_|refine blk_alloc ?_ _));exact BK1.out)) : gb18 ≠ gb1));have n9_ := Aside0.mk ((by rw [hg];exact Nat.ne_of_lt (blk_lt (g := gb11) (o := .cells #[.int .i64 x12000_1, .int .i64 x12001_1, .int .i64 x12002_1] 27 (0, 0)) (by (with_reducible repeat (first|refine blk_drewN ?_ _|refine blk_drew ?_|refine blk_alloc ?_ _));exact BK11.out)) : gb11 ≠ gb18));have n10_ := Aside0.mk ((by rw [hg];exact Nat.ne_of_gt (blk_lt (g := gb11) (o := .cells #[.int .i64 x12000_1, .int .i64 x12001_1, .int .i64 x12002_1] 27 (0, 0)) (by (with_reducible repeat (first|refine blk_drewN ?_ _|refine blk_drew ?_|refine blk_alloc ?_ _));exact BK11.out)) : gb18 ≠ gb11));clear HO_6;clear BK1;clear BK11;clear HB;have HO_6 := n0_;have BK1 := n1_;have BK11 := n2_;have HB := n3_;have BK18 := n4_;have GW18 := n5_;have GE18 := n6_;have NB1_18 := n7_;have NB18_1 := n8_;have NB11_18 := n9_;have NB18_11 := n10_;clear n0_ n1_ n2_ n3_ n4_ n5_ n6_ n7_ n8_ n9_ n10_;clear hb hbox hg;have hnb32 := NB18_1.out;have hnc32 := NB1_18.out;have hnb33 := NB18_11.out;have hnc33 := NB11_18.out;have hcz34_0 : w31.cell? ⟨gb18, 0, none⟩ = some (.int .i64 0) := (blk_cell BK18.out 0).trans rfl;have hcz34_1 : w31.cell? ⟨gb18, 1, none⟩ = some (.int .i64 0) := (blk_cell BK18.out 1).trans rfl;have hcz34_2 : w31.cell? ⟨gb18, 2, none⟩ = some (.int .i64 0) := (blk_cell BK18.out 2).trans rfl;have hfz34_0 := blk_frozen BK18.out 0;have hfz34_1 := blk_frozen BK18.out 1;have hfz34_2 := blk_frozen BK18.out 2;have hnb35 := NB11_1.out;have hnc35 := NB1_11.out;have hcz36_0 : w31.cell? ⟨gb11, 0, none⟩ = some (.int .i64 x12000_1) := (blk_cell BK11.out 0).trans rfl;have hcz36_1 : w31.cell? ⟨gb11, 1, none⟩ = some (.int .i64 x12001_1) := (blk_cell BK11.out 1).trans rfl;have hcz36_2 : w31.cell? ⟨gb11, 2, none⟩ = some (.int .i64 x12002_1) := (blk_cell BK11.out 2).trans rfl;have hfz36_0 := blk_frozen BK11.out 0;have hfz36_1 := blk_frozen BK11.out 1;have hfz36_2 := blk_frozen BK11.out 2))
           go_roundg k1
           case measure => have := HK1.out; omega
           case rel => exact ⟨(wrap64 (x8_1 + 1)), (ji27), (ji28), (ji29), (by first|rfl|(simp;done)|(simp [*];done)), H', ⟨by have := HK1.out;omega⟩, ⟨by (with_reducible repeat (first|apply Kd.R_alloc|apply Kd.R_drewN|apply Kd.R_drew));exact Kd.R_mono (Kd.R_far (p := ⟨gb11, 2, none⟩) (Kd.R_far (p := ⟨gb11, 1, none⟩) (Kd.R_far (p := ⟨gb11, 0, none⟩) (Kd.R_far (p := ⟨gb18, 2, none⟩) (Kd.R_far (p := ⟨gb18, 1, none⟩) (Kd.R_far (p := ⟨gb18, 0, none⟩) (Kd.R_types (Kd.R_types HO_6.out BK18.out (by decide)) BK11.out (by decide)) (fun _ hk => hk.1.2) (.int .i64 t15)) (fun _ hk => hk.1.2) (.int .i64 t16)) (fun _ hk => hk.1.2) (.int .i64 t17)) (fun _ hk => hk.2) (.int .i64 ji27)) (fun _ hk => hk.2) (.int .i64 ji28)) (fun _ hk => hk.2) (.int .i64 ji29)) (fun _ hk => trivial)⟩, ⟨by (with_reducible repeat (first|refine blk_drewN ?_ _|refine blk_drew ?_|refine blk_alloc ?_ _));refine blk_far ?_ NB1_11.out _;(with_reducible repeat (first|refine blk_drewN ?_ _|refine blk_drew ?_|refine blk_alloc ?_ _));refine blk_far ?_ NB1_11.out _;(with_reducible repeat (first|refine blk_drewN ?_ _|refine blk_drew ?_|refine blk_alloc ?_ _));refine blk_far ?_ NB1_11.out _;(with_reducible repeat (first|refine blk_drewN ?_ _|refine blk_drew ?_|refine blk_alloc ?_ _));refine blk_far ?_ NB1_18.out _;(with_reducible repeat (first|refine blk_drewN ?_ _|refine blk_drew ?_|refine blk_alloc ?_ _));refine blk_far ?_ NB1_18.out _;(with_reducible repeat (first|refine blk_drewN ?_ _|refine blk_drew ?_|refine blk_alloc ?_ _));refine blk_far ?_ NB1_18.out _;(with_reducible repeat (first|refine blk_drewN ?_ _|refine blk_drew ?_|refine blk_alloc ?_ _));exact BK1.out⟩, ⟨by (with_reducible repeat (first|refine blk_drewN ?_ _|refine blk_drew ?_|refine blk_alloc ?_ _));refine blk_put (cs := #[.int .i64 ji27, .int .i64 ji28, .int .i64 x12002_1]) ?_ 2 _ rfl;(with_reducible repeat (first|refine blk_drewN ?_ _|refine blk_drew ?_|refine blk_alloc ?_ _));refine blk_put (cs := #[.int .i64 ji27, .int .i64 x12001_1, .int .i64 x12002_1]) ?_ 1 _ rfl;(with_reducible repeat (first|refine blk_drewN ?_ _|refine blk_drew ?_|refine blk_alloc ?_ _));refine blk_put (cs := #[.int .i64 x12000_1, .int .i64 x12001_1, .int .i64 x12002_1]) ?_ 0 _ rfl;(with_reducible repeat (first|refine blk_drewN ?_ _|refine blk_drew ?_|refine blk_alloc ?_ _));refine blk_far ?_ NB11_18.out _;(with_reducible repeat (first|refine blk_drewN ?_ _|refine blk_drew ?_|refine blk_alloc ?_ _));refine blk_far ?_ NB11_18.out _;(with_reducible repeat (first|refine blk_drewN ?_ _|refine blk_drew ?_|refine blk_alloc ?_ _));refine blk_far ?_ NB11_18.out _;(with_reducible repeat (first|refine blk_drewN ?_ _|refine blk_drew ?_|refine blk_alloc ?_ _));exact BK11.out⟩, ⟨by repeat (first|(with_reducible first|exact HB.out|apply below_alloc|apply pw_below_drewN|apply below_drew1|refine below_set ?_ GE1.out|refine below_set ?_ GE11.out|refine below_set ?_ GE18.out)|exact HB.out)⟩⟩
          ·rw [if_neg c25] at H
           exact absurd H (by simp)
         ·rw [if_neg c24] at H
          exact absurd H (by simp)
        ·rw [if_neg c22] at H
         exact absurd H (by simp)
       ·rw [if_neg c21] at H
        have c21b0 : decide (x8_1 < (t2.length : Int)) = false := decide_eq_false c21
        clear c21
        simp only [Option.some.injEq, Prod.mk.injEq] at H
        obtain ⟨rfl, rfl, rfl, rfl⟩ := H
        have hnb37 := NB11_1.out
        have hnc37 := NB1_11.out
        have hcz38_0 : wr.cell? ⟨gb11, 0, none⟩ = some (.int .i64 x12000_1) := (blk_cell BK11.out 0).trans rfl
        have hcz38_1 : wr.cell? ⟨gb11, 1, none⟩ = some (.int .i64 x12001_1) := (blk_cell BK11.out 1).trans rfl
        have hcz38_2 : wr.cell? ⟨gb11, 2, none⟩ = some (.int .i64 x12002_1) := (blk_cell BK11.out 2).trans rfl
        have hfz38_0 := blk_frozen BK11.out 0
        have hfz38_1 := blk_frozen BK11.out 1
        have hfz38_2 := blk_frozen BK11.out 2
        have hcz39_0 : wr.cell? ⟨gb1, 0, none⟩ = some (.int .i64 0) := (blk_cell BK1.out 0).trans rfl
        have hcz39_1 : wr.cell? ⟨gb1, 1, none⟩ = some (.int .i64 0) := (blk_cell BK1.out 1).trans rfl
        have hcz39_2 : wr.cell? ⟨gb1, 2, none⟩ = some (.int .i64 0) := (blk_cell BK1.out 2).trans rfl
        have hfz39_0 := blk_frozen BK1.out 0
        have hfz39_1 := blk_frozen BK1.out 1
        have hfz39_2 := blk_frozen BK1.out 2
        go_wp2
        refine bodyPost_ret (results_ct rfl _ _ gb1 27 #[.int .i64 x12000_1, .int .i64 x12001_1, .int .i64 x12002_1] (0, 0) _ rfl (by (with_reducible repeat (first|refine blk_drewN ?_ _|refine blk_drew ?_|refine blk_alloc ?_ _));refine blk_put (cs := #[.int .i64 x12000_1, .int .i64 x12001_1, .int .i64 0]) ?_ 2 _ rfl;(with_reducible repeat (first|refine blk_drewN ?_ _|refine blk_drew ?_|refine blk_alloc ?_ _));refine blk_put (cs := #[.int .i64 x12000_1, .int .i64 0, .int .i64 0]) ?_ 1 _ rfl;(with_reducible repeat (first|refine blk_drewN ?_ _|refine blk_drew ?_|refine blk_alloc ?_ _));refine blk_put (cs := #[.int .i64 0, .int .i64 0, .int .i64 0]) ?_ 0 _ rfl;(with_reducible repeat (first|refine blk_drewN ?_ _|refine blk_drew ?_|refine blk_alloc ?_ _));exact BK1.out) Try.underlying27 rfl (by kernel_rfl)) rfl ?_
        exact ⟨by first|rfl|(simp [errW_none, errW_some] <;> rfl)|(simp [*, errW_none, errW_some] <;> rfl), by repeat (first|(with_reducible first|exact HB.out|apply below_alloc|apply pw_below_drewN|apply below_drew1|refine below_set ?_ GE1.out|refine below_set ?_ GE11.out)|exact HB.out)⟩
    ·rw [if_neg c12] at H
     exact absurd H (by simp)
   ·rw [if_neg c11] at H
    exact absurd H (by simp)
  ·rw [if_neg c9] at H
   exact absurd H (by simp)
end Go.Proofs.Ytcgefpklljclgaa.Print

namespace Go.Proofs.Ytcgefpklljclgaa.Print
open Go.RowKit Go.Proofs.YtcgefpklljclgaaW.PrintWords Go.Proofs.YtcgefpklljclgaaW.PrintLast Go.Proofs.YtcgefpklljclgaaW.PrintMore
attribute [local go_sem] max2_int min2_int max_two min_two max_three min_three max_four min_four   -- for this text's walks alone
set_option linter.unusedVariables false
set_option linter.unusedSimpArgs false
/-! ### r1_Texts: function 79 -/
def r1_Texts.l0 : Nat → List ByteArray → List ByteArray → Int → Option (Bool)
 | 0, _, _, _ => none
 | k + 1, x0, x1, x5 => if x5 < (x0.length : Int) then (if 0 ≤ x5 then (if x5 < (x1.length : Int) then (if (rdOf ByteArray.empty x0 x5).toList = (rdOf ByteArray.empty x1 x5).toList then (r1_Texts.l0 k x0 x1 (wrap64 (x5 + 1))) else (some false)) else (none)) else (none)) else (some true)
def r1_Texts.f (k : Nat) (l0 : List ByteArray) (l1 : List ByteArray) : Option (Bool) := if (l0.length : Int) = (l1.length : Int) then (r1_Texts.l0 k l0 l1 0) else (some false)
theorem r1_Texts.mono_l : ∀ k, (∀ y0 y1 y2, LeO (r1_Texts.l0 k y0 y1 y2) (r1_Texts.l0 (k + 1) y0 y1 y2))
 | 0 => fun _ _ _ r h => by simp [r1_Texts.l0] at h
 | k + 1 => by
  have ih0 := r1_Texts.mono_l k
  ·intro y0 y1 y2
   unfold r1_Texts.l0
   repeat' first
   | (with_reducible exact ih0 _ _ _)
   | (with_reducible exact LeO.refl _)
   | (with_reducible exact LeO.none _)
   | (with_reducible refine LeO.ite ?_ ?_)
   | (with_reducible refine LeO.bind ?_ (fun _ => ?_))
   | exact ih0 _ _ _
   | exact LeO.none _
   | refine LeO.ite ?_ ?_
   | refine LeO.bind ?_ (fun _ => ?_)
theorem r1_Texts.mono : ∀ a0 a1 k, LeO (r1_Texts.f k a0 a1) (r1_Texts.f (k + 1) a0 a1) := by
 intro a0 a1 k
 have ih0 := r1_Texts.mono_l k
 unfold r1_Texts.f
 repeat' first
   | (with_reducible exact ih0 _ _ _)
   | (with_reducible exact LeO.refl _)
   | (with_reducible exact LeO.none _)
   | (with_reducible refine LeO.ite ?_ ?_)
   | (with_reducible refine LeO.bind ?_ (fun _ => ?_))
   | exact ih0 _ _ _
   | exact LeO.none _
   | refine LeO.ite ?_ ?_
   | refine LeO.bind ?_ (fun _ => ?_)
set_option maxHeartbeats 8000000 in
set_option maxRecDepth 100000 in
theorem r1_Texts.calls (k : Nat) (A0 : Option Addr) (c0 : Nat) (l0 : List ByteArray) (A1 : Option Addr) (c1 : Nat) (l1 : List ByteArray) (r : Bool) (w : World) (hr0 : Kd.C Kd.string w A0 l0.length l0) (hc0 : l0.length ≤ c0) (hr1 : Kd.C Kd.string w A1 l1.length l1) (hc1 : l1.length ≤ c1) (h : r1_Texts.f k l0 l1 = some r) :
  Calls Try.prog 79 #[.slice A0 l0.length c0, .slice A1 l1.length c1] w fun e w' => e = .returned (.bool r) ∧ Drawn0 w w' := by
 have HR0 := Aside0.mk hr0
 have HC0 := Aside0.mk hc0
 clear hr0 hc0
 have HR1 := Aside0.mk hr1
 have HC1 := Aside0.mk hc1
 clear hr1 hc1
 have H : (if (l0.length : Int) = (l1.length : Int) then (r1_Texts.l0 k l0 l1 0) else (some false)) = some r := h
 clear h
 by_cases c3 : (l0.length : Int) = (l1.length : Int)
 ·rw [if_pos c3] at H
  have c3b0 : ((l0.length : Int) == (l1.length : Int)) = true := beq_iff_eq.mpr c3
  have c3b1 : ((l0.length : Int) != (l1.length : Int)) = false := bne_eq_false_iff_eq.mpr c3
  have c3b2 : (l0.length == l1.length) = true := by first | simpa using c3 | (simp at c3 ⊢; omega)
  clear c3
  have H' := Aside0.mk H
  clear H
  go_enter Try.func79, Try.ntmps79
  go_wp2
  repeat (go_quiet (fail); try go_wp2)
  go_loopg [5] k (fun kq v5 w' => ∃ (x5_1 : Int), v5 = .int .i64 x5_1 ∧ Aside0 (r1_Texts.l0 kq l0 l1 x5_1 = some r) ∧ Aside0 (kq ≤ k) ∧ Drawn0 w w')
  case atStart => exact ⟨(0), (by first | rfl | (simp; done) | (simp [*]; done)), H', ⟨Nat.le_refl _⟩, by repeat (first | exact Drawn0.refl _ | apply Drawn0.step)⟩
  case round =>
   clear H'
   try clear c1
   try clear p2
   try clear c3
   try clear c3b0
   try clear c3b1
   try clear c3b2
   obtain ⟨x5_1, rfl, HA, HK1, ⟨m1, rfl⟩⟩ := hrel
   cases gk with
   | zero => exact absurd HA.out (by simp [r1_Texts.l0])
   | succ k1 =>
    have H := HA.out
    clear HA
    simp only [r1_Texts.l0] at H
    by_cases c4 : x5_1 < (l0.length : Int)
    ·rw [if_pos c4] at H
     have c4b0 : decide (x5_1 < (l0.length : Int)) = true := decide_eq_true c4
     clear c4
     by_cases c5 : 0 ≤ x5_1
     ·rw [if_pos c5] at H
      have c5b0 : decide (0 ≤ x5_1) = true := decide_eq_true c5
      clear c5
      by_cases c6 : x5_1 < (l1.length : Int)
      ·rw [if_pos c6] at H
       have c6b0 : decide (x5_1 < (l1.length : Int)) = true := decide_eq_true c6
       clear c6
       by_cases c7 : (rdOf ByteArray.empty l0 x5_1).toList = (rdOf ByteArray.empty l1 x5_1).toList
       ·rw [if_pos c7] at H
        have c7b0 : ((rdOf ByteArray.empty l0 x5_1).toList == (rdOf ByteArray.empty l1 x5_1).toList) = true := beq_iff_eq.mpr c7
        have c7b1 : ((rdOf ByteArray.empty l0 x5_1).toList != (rdOf ByteArray.empty l1 x5_1).toList) = false := bne_eq_false_iff_eq.mpr c7
        clear c7
        have H' := Aside0.mk H
        clear H
        have p1 : 0 ≤ (x5_1 : Int) := of_decide_eq_true (by first|(with_reducible assumption)|assumption)
        have q1 : x5_1 < (l0.length : Int) := of_decide_eq_true (by first|(with_reducible assumption)|assumption)
        obtain ⟨ad1, e1, hx1_0⟩ := Kd.at_string HR0.out x5_1 p1 q1
        cases e1
        replace p1 := eq_true p1
        replace q1 := eq_true q1
        have p2 : 0 ≤ (x5_1 : Int) := of_decide_eq_true (by first|(with_reducible assumption)|assumption)
        have q2 : x5_1 < (l1.length : Int) := of_decide_eq_true (by first|(with_reducible assumption)|assumption)
        obtain ⟨ad2, e2, hx2_0⟩ := Kd.at_string HR1.out x5_1 p2 q2
        cases e2
        replace p2 := eq_true p2
        replace q2 := eq_true q2
        go_wp2
        repeat (go_quiet (fail); try go_wp2)
        go_roundg k1
        case measure => have := HK1.out; omega
        case rel => exact ⟨(wrap64 (x5_1 + 1)), (by first|rfl|(simp;done)|(simp [*];done)), H', ⟨by have := HK1.out;omega⟩, by repeat (first|exact Drawn0.refl _|apply Drawn0.step)⟩
       ·rw [if_neg c7] at H
        have c7b0 : ((rdOf ByteArray.empty l0 x5_1).toList == (rdOf ByteArray.empty l1 x5_1).toList) = false := beq_eq_false_iff_ne.mpr c7
        have c7b1 : ((rdOf ByteArray.empty l0 x5_1).toList != (rdOf ByteArray.empty l1 x5_1).toList) = true := bne_iff_ne.mpr c7
        obtain rfl := Option.some.inj H
        have p1 : 0 ≤ (x5_1 : Int) := of_decide_eq_true (by first|(with_reducible assumption)|assumption)
        have q1 : x5_1 < (l0.length : Int) := of_decide_eq_true (by first|(with_reducible assumption)|assumption)
        obtain ⟨ad1, e1, hx1_0⟩ := Kd.at_string HR0.out x5_1 p1 q1
        cases e1
        replace p1 := eq_true p1
        replace q1 := eq_true q1
        have p2 : 0 ≤ (x5_1 : Int) := of_decide_eq_true (by first|(with_reducible assumption)|assumption)
        have q2 : x5_1 < (l1.length : Int) := of_decide_eq_true (by first|(with_reducible assumption)|assumption)
        obtain ⟨ad2, e2, hx2_0⟩ := Kd.at_string HR1.out x5_1 p2 q2
        cases e2
        replace p2 := eq_true p2
        replace q2 := eq_true q2
        go_wp2
        repeat (go_quiet (fail); try go_wp2)
        go_ret
        exact ⟨by first | rfl | (simp; done) | (simp [*]; done), by repeat (first | exact Drawn0.refl _ | apply Drawn0.step)⟩
      ·rw [if_neg c6] at H
       exact absurd H (by simp)
     ·rw [if_neg c5] at H
      exact absurd H (by simp)
    ·rw [if_neg c4] at H
     have c4b0 : decide (x5_1 < (l0.length : Int)) = false := decide_eq_false c4
     clear c4
     obtain rfl := Option.some.inj H
     go_wp2
     repeat (go_quiet (fail); try go_wp2)
     go_ret
     exact ⟨by first | rfl | (simp; done) | (simp [*]; done), by repeat (first | exact Drawn0.refl _ | apply Drawn0.step)⟩
 ·rw [if_neg c3] at H
  have c3b0 : ((l0.length : Int) == (l1.length : Int)) = false := beq_eq_false_iff_ne.mpr c3
  have c3b1 : ((l0.length : Int) != (l1.length : Int)) = true := bne_iff_ne.mpr c3
  have c3b2 : (l0.length == l1.length) = false := by first | simpa using c3 | (simp at c3 ⊢; omega)
  obtain rfl := Option.some.inj H
  go_enter Try.func79, Try.ntmps79
  go_wp2
  repeat (go_quiet (fail); try go_wp2)
  go_ret
  exact ⟨by first | rfl | (simp; done) | (simp [*]; done), by repeat (first | exact Drawn0.refl _ | apply Drawn0.step)⟩
end Go.Proofs.Ytcgefpklljclgaa.Print

namespace Go.Proofs.Ytcgefpklljclgaa.Print
open Go.RowKit Go.Proofs.YtcgefpklljclgaaW.PrintWords Go.Proofs.YtcgefpklljclgaaW.PrintLast Go.Proofs.YtcgefpklljclgaaW.PrintMore
attribute [local go_sem] max2_int min2_int max_two min_two max_three min_three max_four min_four   -- for this text's walks alone
set_option linter.unusedVariables false
set_option linter.unusedSimpArgs false
/-! ### r10_Tight: function 80 -/
def r10_Tight.l0 : Nat → List (S31) → List ByteArray → List ByteArray → Int → Int → Int → Int → Option (List ByteArray)
 | 0, _, _, _, _, _, _, _ => none
 | k + 1, x0, x7, x8, x9, x6000, x6001, x6002 => if x9 < (x7.length : Int) then (if 0 ≤ x9 then ((r10_Find.f k x0 (rdOf ByteArray.empty x7 x9)).bind fun t10 => (if 0 ≤ t10 then (if t10 < (x0.length : Int) then ((r10_free.f ((rd_T31 x0 t10).f0) ((rd_T31 x0 t10).f1) ((rd_T31 x0 t10).f2.f0) ((rd_T31 x0 t10).f2.f1) ((rd_T31 x0 t10).f2.f2) ((rd_T31 x0 t10).f3.f0) ((rd_T31 x0 t10).f3.f1) ((rd_T31 x0 t10).f3.f2) ((rd_T31 x0 t10).f4.f0) ((rd_T31 x0 t10).f4.f1) ((rd_T31 x0 t10).f4.f2) ((rd_T31 x0 t10).f5)).bind fun bt12 => (if bt12.1 = x6000 then (if x8.length < 8796093022208 then (r10_Tight.l0 k x0 x7 (x8 ++ [rdOf ByteArray.empty x7 x9]) (wrap64 (x9 + 1)) x6000 x6001 x6002) else (none)) else (if bt12.2.1 = x6001 then (if x8.length < 8796093022208 then (r10_Tight.l0 k x0 x7 (x8 ++ [rdOf ByteArray.empty x7 x9]) (wrap64 (x9 + 1)) x6000 x6001 x6002) else (none)) else (if bt12.2.2 = x6002 then (if x8.length < 8796093022208 then (r10_Tight.l0 k x0 x7 (x8 ++ [rdOf ByteArray.empty x7 x9]) (wrap64 (x9 + 1)) x6000 x6001 x6002) else (none)) else (r10_Tight.l0 k x0 x7 x8 (wrap64 (x9 + 1)) x6000 x6001 x6002))))) else (none)) else (none))) else (none)) else (some x8)
def r10_Tight.f (k : Nat) (l0 : List (S31)) (a1 : ByteArray) : Option (List ByteArray) := (r10_Room.f k l0 a1).bind fun bt1 => ((r10_Up.f k l0 a1).bind fun t6 => (r10_Tight.l0 k l0 t6 ([] : List ByteArray) 0 bt1.1 bt1.2.1 bt1.2.2.1))
theorem r10_Tight.mono_l : ∀ k, (∀ y0 y1 y2 y3 y4 y5 y6, LeO (r10_Tight.l0 k y0 y1 y2 y3 y4 y5 y6) (r10_Tight.l0 (k + 1) y0 y1 y2 y3 y4 y5 y6))
 | 0 => fun _ _ _ _ _ _ _ r h => by simp [r10_Tight.l0] at h
 | k + 1 => by
  have ih0 := r10_Tight.mono_l k
  ·intro y0 y1 y2 y3 y4 y5 y6
   unfold r10_Tight.l0
   repeat' first
   | (with_reducible exact ih0 _ _ _ _ _ _ _)
   | (with_reducible exact r10_Find.mono _ _ _)
   | (with_reducible exact r10_Room.mono _ _ _)
   | (with_reducible exact r10_Up.mono _ _ _)
   | (with_reducible exact LeO.refl _)
   | (with_reducible exact LeO.none _)
   | (with_reducible refine LeO.ite ?_ ?_)
   | (with_reducible refine LeO.bind ?_ (fun _ => ?_))
   | exact ih0 _ _ _ _ _ _ _
   | exact r10_Find.mono _ _ _
   | exact r10_Room.mono _ _ _
   | exact r10_Up.mono _ _ _
   | exact LeO.none _
   | refine LeO.ite ?_ ?_
   | refine LeO.bind ?_ (fun _ => ?_)
theorem r10_Tight.mono : ∀ a0 a1 k, LeO (r10_Tight.f k a0 a1) (r10_Tight.f (k + 1) a0 a1) := by
 intro a0 a1 k
 have ih0 := r10_Tight.mono_l k
 unfold r10_Tight.f
 repeat' first
   | (with_reducible exact ih0 _ _ _ _ _ _ _)
   | (with_reducible exact r10_Find.mono _ _ _)
   | (with_reducible exact r10_Room.mono _ _ _)
   | (with_reducible exact r10_Up.mono _ _ _)
   | (with_reducible exact LeO.refl _)
   | (with_reducible exact LeO.none _)
   | (with_reducible refine LeO.ite ?_ ?_)
   | (with_reducible refine LeO.bind ?_ (fun _ => ?_))
   | exact ih0 _ _ _ _ _ _ _
   | exact r10_Find.mono _ _ _
   | exact r10_Room.mono _ _ _
   | exact r10_Up.mono _ _ _
   | exact LeO.none _
   | refine LeO.ite ?_ ?_
   | refine LeO.bind ?_ (fun _ => ?_)
set_option maxHeartbeats 8000000 in
set_option maxRecDepth 100000 in
theorem r10_Tight.calls (k : Nat) (A0 : Option Addr) (c0 : Nat) (l0 : List (S31)) (a1 : ByteArray) (r : List ByteArray) (w : World) (hr0 : Kd.C k31 w A0 l0.length l0) (hc0 : l0.length ≤ c0) (h : r10_Tight.f k l0 a1 = some r) :
  Calls Try.prog 80 #[.slice A0 l0.length c0, .string a1] w fun e w' => ∃ v0_ : Value, e = .returned (v0_) ∧ Kd.R Kd.string 9 w' w.heap.size (fun _ => True) v0_ r ∧ Below w.heap.size w w' := by
 have hu27 := Try.underlying27
 have hu31 := Try.underlying31
 have HR0 := Aside0.mk hr0
 have HC0 := Aside0.mk hc0
 clear hr0 hc0
 have HB := Aside0.mk (Below.refl w.heap.size w)
 have H : ((r10_Room.f k l0 a1).bind fun bt1 => ((r10_Up.f k l0 a1).bind fun t6 => (r10_Tight.l0 k l0 t6 ([] : List ByteArray) 0 bt1.1 bt1.2.1 bt1.2.2.1))) = some r := h
 clear h
 replace H := Option.bind_eq_some_iff.mp H
 obtain ⟨⟨t1, t2, t3, t4⟩, A30, H⟩ := H
 replace H : ((r10_Up.f k l0 a1).bind fun t6 => (r10_Tight.l0 k l0 t6 ([] : List ByteArray) 0 t1 t2 t3)) = some r := H
 have A3 := Aside0.mk A30
 clear A30
 replace H := Option.bind_eq_some_iff.mp H
 obtain ⟨t6, A40, H⟩ := H
 replace H : (r10_Tight.l0 k l0 t6 ([] : List ByteArray) 0 t1 t2 t3) = some r := H
 have A4 := Aside0.mk A40
 clear A40
 have H' := Aside0.mk H
 clear H
 go_enter Try.func80, Try.ntmps80
 go_wp2_with (first|((with_reducible refine gate_callee (f := 78) rfl ?_);refine goesL_ (some 14) rfl rfl Try.func78 (by kernel_rfl) rfl #[.slice A0 l0.length c0, .string a1] rfl (by (try simp only [List.map_toArray, List.map_cons, List.map_nil]);first|done|rfl|(simp only [List.length_drop, List.length_take];rfl)) ?_;(with_reducible refine (r10_Room.calls k _ _ l0 a1 t1 t2 t3 t4 _ ?side1 ?side2 A3.out).mono ?_);(case side1 => repeat (first|exact HR0.out|(with_reducible refine Kd.C_alloc ?_ _)|(with_reducible refine Kd.C_drewN ?_ _)|(with_reducible refine Kd.C_drew ?_)));(case side2 => exact HC0.out);rintro e w5 ⟨rfl, hb⟩;refine ⟨_, rfl, ?_⟩;have n0_ := Aside0.mk (below_step (by repeat (first|(with_reducible first|exact HB.out|apply below_alloc|apply pw_below_drewN|apply below_drew1)|exact HB.out)) hb);clear HB;have HB := n0_;clear n0_;(try clear hb);(try clear hb2);(try clear hk);(try clear hi))|((with_reducible refine gate_dst (N := 5) rfl ?_);refine box_event ?hg (N := 5) ?hd (cs := #[.int .i64 0, .int .i64 0, .int .i64 0]) (t := 27) ?hr ?_;(case hd => rfl);(case hg => rfl);(case hr => first|(go_simp;done)|(go_simp;rfl));intro gb5 hg w6 hbox hb;have n0_ := Aside0.mk (below_step (by repeat (first|(with_reducible first|exact HB.out|apply below_alloc|apply pw_below_drewN|apply below_drew1)|exact HB.out)) hb);have n1_ := Aside0.mk (hbox);have n2_ := Aside0.mk ((by rw [hg];exact (below_size (by repeat (first|(with_reducible first|exact HB.out|apply below_alloc|apply pw_below_drewN|apply below_drew1)|exact HB.out))) : w.heap.size ≤ gb5));have n3_ := Aside0.mk ((by rw [hg];exact (below_size (by repeat (first|(with_reducible first|exact HB.out|apply below_alloc|apply pw_below_drewN|apply below_drew1)|exact HB.out))) : w.heap.size ≤ gb5));clear HB;have HB := n0_;have BK5 := n1_;have GW5 := n2_;have GE5 := n3_;clear n0_ n1_ n2_ n3_;clear hb hbox hg;have hcz7_0 : w6.cell? ⟨gb5, 0, none⟩ = some (.int .i64 0) := (blk_cell BK5.out 0).trans rfl;have hcz7_1 : w6.cell? ⟨gb5, 1, none⟩ = some (.int .i64 0) := (blk_cell BK5.out 1).trans rfl;have hcz7_2 : w6.cell? ⟨gb5, 2, none⟩ = some (.int .i64 0) := (blk_cell BK5.out 2).trans rfl;have hfz7_0 := blk_frozen BK5.out 0;have hfz7_1 := blk_frozen BK5.out 1;have hfz7_2 := blk_frozen BK5.out 2)|((with_reducible refine gate_callee (f := 106) rfl ?_);refine goesL_ (some 19) rfl rfl Try.func106 (by kernel_rfl) rfl #[.slice A0 l0.length c0, .string a1] rfl (by (try simp only [List.map_toArray, List.map_cons, List.map_nil]);first|done|rfl|(simp only [List.length_drop, List.length_take];rfl)) ?_;(with_reducible refine (r10_Up.calls k _ _ l0 a1 t6 _ ?side1 ?side2 A4.out).mono ?_);(case side1 => exact Kd.C_below HR0.out (by repeat (first|(with_reducible first|exact HB.out|apply below_alloc|apply pw_below_drewN|apply below_drew1|refine below_set ?_ GE5.out)|exact HB.out)));(case side2 => exact HC0.out);rintro e w8 ⟨v7, rfl, ho0, hb⟩;refine ⟨_, rfl, ?_⟩;have n0_ := Aside0.mk (Kd.R_lower ho0 (below_size (by repeat (first|(with_reducible first|exact HB.out|apply below_alloc|apply pw_below_drewN|apply below_drew1|refine below_set ?_ GE5.out)|exact HB.out))));have n1_ := Aside0.mk (blk_below (g := gb5) (o := .cells #[.int .i64 t1, .int .i64 t2, .int .i64 t3] 27 (0, 0)) (by (with_reducible repeat (first|refine blk_drewN ?_ _|refine blk_drew ?_|refine blk_alloc ?_ _));refine blk_put (cs := #[.int .i64 t1, .int .i64 t2, .int .i64 0]) ?_ 2 _ rfl;(with_reducible repeat (first|refine blk_drewN ?_ _|refine blk_drew ?_|refine blk_alloc ?_ _));refine blk_put (cs := #[.int .i64 t1, .int .i64 0, .int .i64 0]) ?_ 1 _ rfl;(with_reducible repeat (first|refine blk_drewN ?_ _|refine blk_drew ?_|refine blk_alloc ?_ _));refine blk_put (cs := #[.int .i64 0, .int .i64 0, .int .i64 0]) ?_ 0 _ rfl;(with_reducible repeat (first|refine blk_drewN ?_ _|refine blk_drew ?_|refine blk_alloc ?_ _));exact BK5.out) hb);have n2_ := Aside0.mk (below_step (by repeat (first|(with_reducible first|exact HB.out|apply below_alloc|apply pw_below_drewN|apply below_drew1|refine below_set ?_ GE5.out)|exact HB.out)) hb);clear BK5;clear HB;have HO8 := n0_;have BK5 := n1_;have HB := n2_;clear n0_ n1_ n2_;(try clear hb);(try clear hb2);(try clear hk);(try clear hi);(try clear ho0)))
 go_loopg [8, 9] k (fun kq v8 v9 w' => ∃ (x8_1 : List ByteArray) (x9_1 : Int), v9 = .int .i64 x9_1 ∧ Aside0 (r10_Tight.l0 kq l0 t6 x8_1 x9_1 t1 t2 t3 = some r) ∧ Aside0 (kq ≤ k) ∧ Aside0 (Kd.R Kd.string 9 w' w.heap.size (fun k_ => some k_ ≠ (v8 : Value).ownBlock) v7 t6) ∧ Aside0 (Kd.R Kd.string 9 w' w.heap.size (fun k_ => some k_ ≠ (v7 : Value).ownBlock) v8 x8_1) ∧ Aside0 (w'.heap[gb5]? = some (.cells #[.int .i64 t1, .int .i64 t2, .int .i64 t3] 27 (0, 0))) ∧ Aside0 (Below w.heap.size w w'))
 case atStart => exact ⟨(([] : List ByteArray)), (0), (by first|rfl|(simp;done)|(simp [*];done)), H', ⟨Nat.le_refl _⟩, ⟨by (with_reducible repeat (first|apply Kd.R_alloc|apply Kd.R_drewN|apply Kd.R_drew));exact Kd.R_mono HO8.out (fun _ hk => (by simp [Value.ownBlock]))⟩, ⟨by first|exact Kd.R_nil _ _ _ _ _|exact Kd.N_nil _ _ _ _ _|exact Kd.V_nil _ _ _ _ _|exact Kd.Q_nil _ _ _ _ _|exact Kd.S_nil _ _ _ _ _⟩, ⟨by (with_reducible repeat (first|refine blk_drewN ?_ _|refine blk_drew ?_|refine blk_alloc ?_ _));exact BK5.out⟩, ⟨by repeat (first|(with_reducible first|exact HB.out|apply below_alloc|apply pw_below_drewN|apply below_drew1|refine below_set ?_ GE5.out)|exact HB.out)⟩⟩
 case round =>
  clear H'
  try clear c1
  try clear p2
  try clear c7
  try clear c8
  try clear hcz7_0
  try clear hcz7_1
  try clear hcz7_2
  try clear hfz7_0
  try clear hfz7_1
  try clear hfz7_2
  obtain ⟨x8_1, x9_1, rfl, HA, HK1, HO_7, HO_8, BK5, HB⟩ := hrel
  cases gk with
  | zero => exact absurd HA.out (by simp [r10_Tight.l0])
  | succ k1 =>
   have H := HA.out
   clear HA
   simp only [r10_Tight.l0] at H
   by_cases c9 : x9_1 < (t6.length : Int)
   ·rw [if_pos c9] at H
    have c9b0 : decide (x9_1 < (t6.length : Int)) = true := decide_eq_true c9
    clear c9
    by_cases c10 : 0 ≤ x9_1
    ·rw [if_pos c10] at H
     have c10b0 : decide (0 ≤ x9_1) = true := decide_eq_true c10
     clear c10
     replace H := Option.bind_eq_some_iff.mp H
     obtain ⟨t10, A110, H⟩ := H
     replace H : (if 0 ≤ t10 then (if t10 < (l0.length : Int) then ((r10_free.f ((rd_T31 l0 t10).f0) ((rd_T31 l0 t10).f1) ((rd_T31 l0 t10).f2.f0) ((rd_T31 l0 t10).f2.f1) ((rd_T31 l0 t10).f2.f2) ((rd_T31 l0 t10).f3.f0) ((rd_T31 l0 t10).f3.f1) ((rd_T31 l0 t10).f3.f2) ((rd_T31 l0 t10).f4.f0) ((rd_T31 l0 t10).f4.f1) ((rd_T31 l0 t10).f4.f2) ((rd_T31 l0 t10).f5)).bind fun bt12 => (if bt12.1 = t1 then (if x8_1.length < 8796093022208 then (r10_Tight.l0 k1 l0 t6 (x8_1 ++ [rdOf ByteArray.empty t6 x9_1]) (wrap64 (x9_1 + 1)) t1 t2 t3) else (none)) else (if bt12.2.1 = t2 then (if x8_1.length < 8796093022208 then (r10_Tight.l0 k1 l0 t6 (x8_1 ++ [rdOf ByteArray.empty t6 x9_1]) (wrap64 (x9_1 + 1)) t1 t2 t3) else (none)) else (if bt12.2.2 = t3 then (if x8_1.length < 8796093022208 then (r10_Tight.l0 k1 l0 t6 (x8_1 ++ [rdOf ByteArray.empty t6 x9_1]) (wrap64 (x9_1 + 1)) t1 t2 t3) else (none)) else (r10_Tight.l0 k1 l0 t6 x8_1 (wrap64 (x9_1 + 1)) t1 t2 t3))))) else (none)) else (none)) = some r := H
     have A11 := Aside0.mk A110
     clear A110
     by_cases c12 : 0 ≤ t10
     ·rw [if_pos c12] at H
      have c12b0 : decide (0 ≤ t10) = true := decide_eq_true c12
      clear c12
      by_cases c13 : t10 < (l0.length : Int)
      ·rw [if_pos c13] at H
       have c13b0 : decide (t10 < (l0.length : Int)) = true := decide_eq_true c13
       clear c13
       replace H := Option.bind_eq_some_iff.mp H
       obtain ⟨⟨t12, t13, t14⟩, A140, H⟩ := H
       replace H : (if t12 = t1 then (if x8_1.length < 8796093022208 then (r10_Tight.l0 k1 l0 t6 (x8_1 ++ [rdOf ByteArray.empty t6 x9_1]) (wrap64 (x9_1 + 1)) t1 t2 t3) else (none)) else (if t13 = t2 then (if x8_1.length < 8796093022208 then (r10_Tight.l0 k1 l0 t6 (x8_1 ++ [rdOf ByteArray.empty t6 x9_1]) (wrap64 (x9_1 + 1)) t1 t2 t3) else (none)) else (if t14 = t3 then (if x8_1.length < 8796093022208 then (r10_Tight.l0 k1 l0 t6 (x8_1 ++ [rdOf ByteArray.empty t6 x9_1]) (wrap64 (x9_1 + 1)) t1 t2 t3) else (none)) else (r10_Tight.l0 k1 l0 t6 x8_1 (wrap64 (x9_1 + 1)) t1 t2 t3)))) = some r := H
       have A14 := Aside0.mk A140
       clear A140
       by_cases c15 : t12 = t1
       ·rw [if_pos c15] at H
        have c15b0 : (t12 == t1) = true := beq_iff_eq.mpr c15
        have c15b1 : (t12 != t1) = false := bne_eq_false_iff_eq.mpr c15
        clear c15
        by_cases c16 : x8_1.length < 8796093022208
        ·rw [if_pos c16] at H
         have LMc16 := Aside0.mk c16
         clear c16
         obtain ⟨y17, hy17⟩ : ∃ y_ : List ByteArray, y_ = (x8_1 ++ [rdOf ByteArray.empty t6 x9_1]) := ⟨_, rfl⟩
         replace H : (r10_Tight.l0 k1 l0 t6 y17 (wrap64 (x9_1 + 1)) t1 t2 t3) = some r := by first|(rw [hy17];with_reducible exact H)|(have H2_ := (Option.bind_some _ _).symm.trans H;rw [hy17];with_reducible exact H2_)|(have H2_ := (Option.bind_some _ _).symm.trans H;with_reducible exact H2_)|with_reducible exact H|(rw [hy17];exact H)|exact H
         have Ny17 := Aside0.mk hy17
         clear hy17
         have H' := Aside0.mk H
         clear H
         obtain ⟨Ao17, co17, eo17⟩ := Kd.R_slice HO_7.out
         subst eo17
         have p9 : 0 ≤ (x9_1 : Int) := of_decide_eq_true (by first|(with_reducible assumption)|assumption)
         have q9 : x9_1 < (t6.length : Int) := of_decide_eq_true (by first|(with_reducible assumption)|assumption)
         obtain ⟨ad9, e9, hx9_0⟩ := Kd.at_string (Kd.R_reads' HO_7.out).2.2 x9_1 p9 q9
         cases e9
         replace p9 := eq_true p9
         replace q9 := eq_true q9
         go_wp2_with (first|((with_reducible refine gate_callee (f := 50) rfl ?_);refine goesL_ (some 32) rfl rfl Try.func50 (by kernel_rfl) rfl #[.slice A0 l0.length c0, .string (rdOf ByteArray.empty t6 x9_1)] rfl (by (try simp only [List.map_toArray, List.map_cons, List.map_nil]);first|done|rfl|(simp only [List.length_drop, List.length_take];rfl)) ?_;(with_reducible refine (r10_Find.calls k1 _ _ l0 (rdOf ByteArray.empty t6 x9_1) t10 _ ?side1 ?side2 A11.out).mono ?_);(case side1 => repeat (first|exact (Kd.C_below HR0.out HB.out)|(with_reducible refine Kd.C_alloc ?_ _)|(with_reducible refine Kd.C_drewN ?_ _)|(with_reducible refine Kd.C_drew ?_)));(case side2 => exact HC0.out);rintro e w' ⟨rfl, ⟨nd, rfl⟩⟩;refine ⟨_, rfl, ?_⟩;(try (rw [drewN_self wr];generalize hq_ : World.drewN wr _ = wr;have n0_ : Aside0 (Kd.R Kd.string 9 wr w.heap.size (fun k_ => some k_ ≠ (u8 : Value).ownBlock) (.slice (some ad9) t6.length co17) t6) := ⟨by rw [← hq_];exact (by (with_reducible repeat (first|apply Kd.R_alloc|apply Kd.R_drewN|apply Kd.R_drew));exact HO_7.out)⟩;have n1_ : Aside0 (Kd.R Kd.string 9 wr w.heap.size (fun k_ => some k_ ≠ (.slice (some ad9) t6.length co17 : Value).ownBlock) u8 x8_1) := ⟨by rw [← hq_];exact (by (with_reducible repeat (first|apply Kd.R_alloc|apply Kd.R_drewN|apply Kd.R_drew));exact HO_8.out)⟩;have n2_ : Aside0 (wr.heap[gb5]? = some (.cells #[.int .i64 t1, .int .i64 t2, .int .i64 t3] 27 (0, 0))) := ⟨by rw [← hq_];exact (by (with_reducible repeat (first|refine blk_drewN ?_ _|refine blk_drew ?_|refine blk_alloc ?_ _));exact BK5.out)⟩;have n3_ : Aside0 (Below w.heap.size w wr) := ⟨by rw [← hq_];exact (by repeat (first|(with_reducible first|exact HB.out|apply below_alloc|apply pw_below_drewN|apply below_drew1|refine below_set ?_ GE5.out)|exact HB.out))⟩;clear HO_7 HO_8 BK5 HB hq_;have HO_7 := n0_;have HO_8 := n1_;have BK5 := n2_;have HB := n3_;clear n0_ n1_ n2_ n3_));have p11 : 0 ≤ (t10 : Int) := of_decide_eq_true (by first|(with_reducible assumption)|assumption);have q11 : t10 < (l0.length : Int) := of_decide_eq_true (by first|(with_reducible assumption)|assumption);obtain ⟨ad11, e11, hx11_0, hx11_1, hx11_2, hx11_3, hx11_4, hx11_5, hx11_6, hx11_7, hx11_8, hx11_9, hx11_10, hx11_11⟩ := at_T31 HR0.out t10 p11 q11;cases e11;replace hx11_0 := (HB.out.cell (World.block_lt_of_cell? w _ hx11_0)).trans hx11_0;replace hx11_1 := (HB.out.cell (World.block_lt_of_cell? w _ hx11_1)).trans hx11_1;replace hx11_2 := (HB.out.cell (World.block_lt_of_cell? w _ hx11_2)).trans hx11_2;replace hx11_3 := (HB.out.cell (World.block_lt_of_cell? w _ hx11_3)).trans hx11_3;replace hx11_4 := (HB.out.cell (World.block_lt_of_cell? w _ hx11_4)).trans hx11_4;replace hx11_5 := (HB.out.cell (World.block_lt_of_cell? w _ hx11_5)).trans hx11_5;replace hx11_6 := (HB.out.cell (World.block_lt_of_cell? w _ hx11_6)).trans hx11_6;replace hx11_7 := (HB.out.cell (World.block_lt_of_cell? w _ hx11_7)).trans hx11_7;replace hx11_8 := (HB.out.cell (World.block_lt_of_cell? w _ hx11_8)).trans hx11_8;replace hx11_9 := (HB.out.cell (World.block_lt_of_cell? w _ hx11_9)).trans hx11_9;replace hx11_10 := (HB.out.cell (World.block_lt_of_cell? w _ hx11_10)).trans hx11_10;replace hx11_11 := (HB.out.cell (World.block_lt_of_cell? w _ hx11_11)).trans hx11_11;replace p11 := eq_true p11;replace q11 := eq_true q11)|((with_reducible refine gate_callee (f := 135) rfl ?_);refine goesL_ (some 35) rfl rfl Try.func135 (by kernel_rfl) rfl #[.agg #[.string ((rd_T31 l0 t10).f0), .string ((rd_T31 l0 t10).f1), .int .i64 ((rd_T31 l0 t10).f2.f0), .int .i64 ((rd_T31 l0 t10).f2.f1), .int .i64 ((rd_T31 l0 t10).f2.f2), .int .i64 ((rd_T31 l0 t10).f3.f0), .int .i64 ((rd_T31 l0 t10).f3.f1), .int .i64 ((rd_T31 l0 t10).f3.f2), .int .i64 ((rd_T31 l0 t10).f4.f0), .int .i64 ((rd_T31 l0 t10).f4.f1), .int .i64 ((rd_T31 l0 t10).f4.f2), .int .i64 ((rd_T31 l0 t10).f5)]] rfl (by (try simp only [List.map_toArray, List.map_cons, List.map_nil]);first|done|rfl|(simp only [List.length_drop, List.length_take];rfl)) ?_;(with_reducible refine (r10_free.calls ((rd_T31 l0 t10).f0) ((rd_T31 l0 t10).f1) ((rd_T31 l0 t10).f2.f0) ((rd_T31 l0 t10).f2.f1) ((rd_T31 l0 t10).f2.f2) ((rd_T31 l0 t10).f3.f0) ((rd_T31 l0 t10).f3.f1) ((rd_T31 l0 t10).f3.f2) ((rd_T31 l0 t10).f4.f0) ((rd_T31 l0 t10).f4.f1) ((rd_T31 l0 t10).f4.f2) ((rd_T31 l0 t10).f5) t12 t13 t14 _ A14.out).mono ?_);rintro e w18 ⟨rfl, hb⟩;refine ⟨_, rfl, ?_⟩;have n0_ := Aside0.mk (Kd.R_below (by (with_reducible repeat (first|apply Kd.R_alloc|apply Kd.R_drewN|apply Kd.R_drew));exact HO_7.out) hb);have n1_ := Aside0.mk (Kd.R_below (by (with_reducible repeat (first|apply Kd.R_alloc|apply Kd.R_drewN|apply Kd.R_drew));exact HO_8.out) hb);have n2_ := Aside0.mk (blk_below (g := gb5) (o := .cells #[.int .i64 t1, .int .i64 t2, .int .i64 t3] 27 (0, 0)) (by (with_reducible repeat (first|refine blk_drewN ?_ _|refine blk_drew ?_|refine blk_alloc ?_ _));exact BK5.out) hb);have n3_ := Aside0.mk (below_step (by repeat (first|(with_reducible first|exact HB.out|apply below_alloc|apply pw_below_drewN|apply below_drew1|refine below_set ?_ GE5.out)|exact HB.out)) hb);clear HO_7;clear HO_8;clear BK5;clear HB;have HO_7 := n0_;have HO_8 := n1_;have BK5 := n2_;have HB := n3_;clear n0_ n1_ n2_ n3_;(try clear hb);(try clear hb2);(try clear hk);(try clear hi))|((with_reducible refine gate_dst (N := 10) rfl ?_);refine box_event ?hg (N := 10) ?hd (cs := #[.int .i64 0, .int .i64 0, .int .i64 0]) (t := 27) ?hr ?_;(case hd => rfl);(case hg => rfl);(case hr => first|(go_simp;done)|(go_simp;rfl));intro gb15 hg w19 hbox hb;have n0_ := Aside0.mk (Kd.R_below (by (with_reducible repeat (first|apply Kd.R_alloc|apply Kd.R_drewN|apply Kd.R_drew));exact HO_7.out) hb);have n1_ := Aside0.mk (Kd.R_below (by (with_reducible repeat (first|apply Kd.R_alloc|apply Kd.R_drewN|apply Kd.R_drew));exact HO_8.out) hb);have n2_ := Aside0.mk (blk_below (g := gb5) (o := .cells #[.int .i64 t1, .int .i64 t2, .int .i64 t3] 27 (0, 0)) (by (with_reducible repeat (first|refine blk_drewN ?_ _|refine blk_drew ?_|refine blk_alloc ?_ _));exact BK5.out) hb);have n3_ := Aside0.mk (below_step (by repeat (first|(with_reducible first|exact HB.out|apply below_alloc|apply pw_below_drewN|apply below_drew1|refine below_set ?_ GE5.out)|exact HB.out)) hb);have n4_ := Aside0.mk (hbox);have n5_ := Aside0.mk ((by rw [hg];exact (below_size (by repeat (first|(with_reducible first|exact HB.out|apply below_alloc|apply pw_below_drewN|apply below_drew1|refine below_set ?_ GE5.out)|exact HB.out))) : w.heap.size ≤ gb15));have n6_ := Aside0.mk ((by rw [hg];exact (below_size (by repeat (first|(with_reducible first|exact HB.out|apply below_alloc|apply pw_below_drewN|apply below_drew1|refine below_set ?_ GE5.out)|exact HB.out))) : w.heap.size ≤ gb15));have n7_ := Aside0.mk ((by rw [hg];exact Nat.ne_of_lt (blk_lt (g := gb5) (o := .cells #[.int .i64 t1, .int .i64 t2, .int .i64 t3] 27 (0, 0)) (by (with_reducible repeat (first|refine blk_drewN ?_ _|refine blk_drew ?_|refine blk_alloc ?_ _));exact BK5.out)) : gb5 ≠ gb15));have n8_ := Aside0.mk ((by rw [hg];exact Nat.ne_of_gt (blk_lt (g := gb5) (o := .cells #[.int .i64 t1, .int .i64 t2, .int .i64 t3] 27 (0, 0)) (by (with_reducible repeat (first|refine blk_drewN ?_ _|refine blk_drew ?_|refine blk_alloc ?_ _));exact BK5.out)) : gb15 ≠ gb5));clear HO_7;clear HO_8;clear BK5;clear HB;have HO_7 := n0_;have HO_8 := n1_;have BK5 := n2_;have HB := n3_;have BK15 := n4_;have GW15 := n5_;have GE15 := n6_;have NB5_15 := n7_;have NB15_5 := n8_;clear n0_ n1_ n2_ n3_ n4_ n5_ n6_ n7_ n8_;clear hb hbox hg;have hnb20 := NB15_5.out;have hnc20 := NB5_15.out;have hcz21_0 : w19.cell? ⟨gb15, 0, none⟩ = some (.int .i64 0) := (blk_cell BK15.out 0).trans rfl;have hcz21_1 : w19.cell? ⟨gb15, 1, none⟩ = some (.int .i64 0) := (blk_cell BK15.out 1).trans rfl;have hcz21_2 : w19.cell? ⟨gb15, 2, none⟩ = some (.int .i64 0) := (blk_cell BK15.out 2).trans rfl;have hfz21_0 := blk_frozen BK15.out 0;have hfz21_1 := blk_frozen BK15.out 1;have hfz21_2 := blk_frozen BK15.out 2;have hcz22_0 : w19.cell? ⟨gb5, 0, none⟩ = some (.int .i64 t1) := (blk_cell BK5.out 0).trans rfl;have hcz22_1 : w19.cell? ⟨gb5, 1, none⟩ = some (.int .i64 t2) := (blk_cell BK5.out 1).trans rfl;have hcz22_2 : w19.cell? ⟨gb5, 2, none⟩ = some (.int .i64 t3) := (blk_cell BK5.out 2).trans rfl;have hfz22_0 := blk_frozen BK5.out 0;have hfz22_1 := blk_frozen BK5.out 1;have hfz22_2 := blk_frozen BK5.out 2;have p16 : 0 ≤ (x9_1 : Int) := of_decide_eq_true (by first|(with_reducible assumption)|assumption);have q16 : x9_1 < (t6.length : Int) := of_decide_eq_true (by first|(with_reducible assumption)|assumption);obtain ⟨ad16, e16, hx16_0⟩ := Kd.at_string (Kd.R_reads' HO_7.out).2.2 x9_1 p16 q16;obtain rfl : ad9 = ad16 := (by injection e16);have hn16_0 : ad9.block ≠ gb15 := Kd.own_blk (Kd.R_ne HO_7.out BK15.out (by decide));have hn16_1 : ad9.block ≠ gb15 := Kd.own_blk (Kd.R_ne HO_7.out BK15.out (by decide));have hn16_2 : ad9.block ≠ gb15 := Kd.own_blk (Kd.R_ne HO_7.out BK15.out (by decide));replace hx16_0 := (cell_far (p := ⟨gb15, 0, none⟩) (by first|(rw [add_block];exact hn16_0)|(show (Addr.add _ _).block ≠ _;rw [add_block];exact hn16_0)|exact hn16_0) (.int .i64 t12)).trans hx16_0;replace hx16_0 := (cell_far (p := ⟨gb15, 1, none⟩) (by first|(rw [add_block];exact hn16_1)|(show (Addr.add _ _).block ≠ _;rw [add_block];exact hn16_1)|exact hn16_1) (.int .i64 t13)).trans hx16_0;replace hx16_0 := (cell_far (p := ⟨gb15, 2, none⟩) (by first|(rw [add_block];exact hn16_2)|(show (Addr.add _ _).block ≠ _;rw [add_block];exact hn16_2)|exact hn16_2) (.int .i64 t14)).trans hx16_0;clear hn16_0;clear hn16_1;clear hn16_2;replace p16 := eq_true p16;replace q16 := eq_true q16)|((with_reducible refine gate_builtin (b := .append) (xs := #[.tmp 55, .tmp 60]) rfl ?_);at_builtin;refine Kd.R_append Kd.string (w0 := w) w.heap.size rfl (.tmp 55) (.tmp 60) 74 9 (.string ⟨#[]⟩) 16 rfl Try.underlying74 info9 rfl (by decide) (by omega) u8 x8_1 (rdOf ByteArray.empty t6 x9_1) [.string (rdOf ByteArray.empty t6 x9_1)] (fun k_ => some k_ ≠ (.slice (some ad9) t6.length co17 : Value).ownBlock) (fun _ => False) rfl (by first|(go_simp;done)|(go_simp;rfl)) ?aP (fun _ hk => hk.elim) ?aF ?aO ?aB ?aS ?aL ?_;(case aP => exact rfl);(case aB => exact (by repeat (first|(with_reducible first|exact HB.out|apply below_alloc|apply pw_below_drewN|apply below_drew1|refine below_set ?_ GE5.out|refine below_set ?_ GE15.out)|exact HB.out)));(case aF => exact (fun k_ hk => Kd.fresh' (Kd.R_lt (by (with_reducible repeat (first|apply Kd.R_alloc|apply Kd.R_drewN|apply Kd.R_drew));exact (Kd.R_mono (Kd.R_far (p := ⟨gb15, 2, none⟩) (Kd.R_far (p := ⟨gb15, 1, none⟩) (Kd.R_far (p := ⟨gb15, 0, none⟩) (Kd.R_types HO_7.out BK15.out (by decide)) (fun _ hk => hk.2) (.int .i64 t12)) (fun _ hk => hk.2) (.int .i64 t13)) (fun _ hk => hk.2) (.int .i64 t14)) (fun _ h_ => h_.1)))) k_ hk));(case aO => exact (by (with_reducible repeat (first|apply Kd.R_alloc|apply Kd.R_drewN|apply Kd.R_drew));exact Kd.R_mono (Kd.R_far (p := ⟨gb15, 2, none⟩) (Kd.R_far (p := ⟨gb15, 1, none⟩) (Kd.R_far (p := ⟨gb15, 0, none⟩) (Kd.R_types HO_8.out BK15.out (by decide)) (fun _ hk => hk.2) (.int .i64 t12)) (fun _ hk => hk.2) (.int .i64 t13)) (fun _ hk => hk.2) (.int .i64 t14)) (fun _ hk => hk.1)));(case aS => exact (below_size (by repeat (first|(with_reducible first|exact HB.out|apply below_alloc|apply pw_below_drewN|apply below_drew1|refine below_set ?_ GE5.out|refine below_set ?_ GE15.out)|exact HB.out))));(case aL => have := LMc16.out;omega);intro v18 w23 ho hb hg hat;rw [← Ny17.out] at ho;have n0_ := Aside0.mk (Kd.R_after (ok := (fun _ => True)) (by (with_reducible repeat (first|apply Kd.R_alloc|apply Kd.R_drewN|apply Kd.R_drew));exact Kd.R_mono (Kd.R_far (p := ⟨gb15, 2, none⟩) (Kd.R_far (p := ⟨gb15, 1, none⟩) (Kd.R_far (p := ⟨gb15, 0, none⟩) (Kd.R_types HO_7.out BK15.out (by decide)) (fun _ hk => hk.2) (.int .i64 t12)) (fun _ hk => hk.2) (.int .i64 t13)) (fun _ hk => hk.2) (.int .i64 t14)) (fun _ hk => ⟨trivial, hk.1⟩)) hg hat);have n1_ := Aside0.mk (blk_grown (g := gb5) (o := .cells #[.int .i64 t1, .int .i64 t2, .int .i64 t3] 27 (0, 0)) (by (with_reducible repeat (first|refine blk_drewN ?_ _|refine blk_drew ?_|refine blk_alloc ?_ _));refine blk_far ?_ NB5_15.out _;(with_reducible repeat (first|refine blk_drewN ?_ _|refine blk_drew ?_|refine blk_alloc ?_ _));refine blk_far ?_ NB5_15.out _;(with_reducible repeat (first|refine blk_drewN ?_ _|refine blk_drew ?_|refine blk_alloc ?_ _));refine blk_far ?_ NB5_15.out _;(with_reducible repeat (first|refine blk_drewN ?_ _|refine blk_drew ?_|refine blk_alloc ?_ _));exact BK5.out) hg (Kd.R_ne HO_8.out BK5.out (by decide)));have n2_ := Aside0.mk (blk_grown (g := gb15) (o := .cells #[.int .i64 t12, .int .i64 t13, .int .i64 t14] 27 (0, 0)) (by (with_reducible repeat (first|refine blk_drewN ?_ _|refine blk_drew ?_|refine blk_alloc ?_ _));refine blk_put (cs := #[.int .i64 t12, .int .i64 t13, .int .i64 0]) ?_ 2 _ rfl;(with_reducible repeat (first|refine blk_drewN ?_ _|refine blk_drew ?_|refine blk_alloc ?_ _));refine blk_put (cs := #[.int .i64 t12, .int .i64 0, .int .i64 0]) ?_ 1 _ rfl;(with_reducible repeat (first|refine blk_drewN ?_ _|refine blk_drew ?_|refine blk_alloc ?_ _));refine blk_put (cs := #[.int .i64 0, .int .i64 0, .int .i64 0]) ?_ 0 _ rfl;(with_reducible repeat (first|refine blk_drewN ?_ _|refine blk_drew ?_|refine blk_alloc ?_ _));exact BK15.out) hg (Kd.R_ne HO_8.out BK15.out (by decide)));have n3_ := Aside0.mk (hb);have n4_ := Aside0.mk (ho);clear HO_7;clear BK5;clear BK15;clear HB;clear HO_8;have HO_7 := n0_;have BK5 := n1_;have BK15 := n2_;have HB := n3_;have HO19 := n4_;clear n0_ n1_ n2_ n3_ n4_;clear ho hb hg hat))
         go_roundg k1
         case measure => have := HK1.out; omega
         case rel => exact ⟨(y17), (wrap64 (x9_1 + 1)), (by first|rfl|(simp;done)|(simp [*];done)), H', ⟨by have := HK1.out;omega⟩, ⟨by (with_reducible repeat (first|apply Kd.R_alloc|apply Kd.R_drewN|apply Kd.R_drew));exact Kd.R_mono HO_7.out (fun _ hk => hk.2)⟩, ⟨by (with_reducible repeat (first|apply Kd.R_alloc|apply Kd.R_drewN|apply Kd.R_drew));exact HO19.out⟩, ⟨by (with_reducible repeat (first|refine blk_drewN ?_ _|refine blk_drew ?_|refine blk_alloc ?_ _));exact BK5.out⟩, ⟨by repeat (first|(with_reducible first|exact HB.out|apply below_alloc|apply pw_below_drewN|apply below_drew1|refine below_set ?_ GE5.out|refine below_set ?_ GE15.out)|exact HB.out)⟩⟩
        ·rw [if_neg c16] at H
         exact absurd H (by simp)
       ·rw [if_neg c15] at H
        have c15b0 : (t12 == t1) = false := beq_eq_false_iff_ne.mpr c15
        have c15b1 : (t12 != t1) = true := bne_iff_ne.mpr c15
        by_cases c24 : t13 = t2
        ·rw [if_pos c24] at H
         have c24b0 : (t13 == t2) = true := beq_iff_eq.mpr c24
         have c24b1 : (t13 != t2) = false := bne_eq_false_iff_eq.mpr c24
         clear c24
         by_cases c25 : x8_1.length < 8796093022208
         ·rw [if_pos c25] at H
          have LMc25 := Aside0.mk c25
          clear c25
          obtain ⟨y21, hy21⟩ : ∃ y_ : List ByteArray, y_ = (x8_1 ++ [rdOf ByteArray.empty t6 x9_1]) := ⟨_, rfl⟩
          replace H : (r10_Tight.l0 k1 l0 t6 y21 (wrap64 (x9_1 + 1)) t1 t2 t3) = some r := by first|(rw [hy21];with_reducible exact H)|(have H2_ := (Option.bind_some _ _).symm.trans H;rw [hy21];with_reducible exact H2_)|(have H2_ := (Option.bind_some _ _).symm.trans H;with_reducible exact H2_)|with_reducible exact H|(rw [hy21];exact H)|exact H
          have Ny21 := Aside0.mk hy21
          clear hy21
          have H' := Aside0.mk H
          clear H
          obtain ⟨Ao26, co26, eo26⟩ := Kd.R_slice HO_7.out
          subst eo26
          have p9 : 0 ≤ (x9_1 : Int) := of_decide_eq_true (by first|(with_reducible assumption)|assumption)
          have q9 : x9_1 < (t6.length : Int) := of_decide_eq_true (by first|(with_reducible assumption)|assumption)
          obtain ⟨ad9, e9, hx9_0⟩ := Kd.at_string (Kd.R_reads' HO_7.out).2.2 x9_1 p9 q9
          cases e9
          replace p9 := eq_true p9
          replace q9 := eq_true q9
          go_wp2_with (first|((with_reducible refine gate_callee (f := 50) rfl ?_);refine goesL_ (some 32) rfl rfl Try.func50 (by kernel_rfl) rfl #[.slice A0 l0.length c0, .string (rdOf ByteArray.empty t6 x9_1)] rfl (by (try simp only [List.map_toArray, List.map_cons, List.map_nil]);first|done|rfl|(simp only [List.length_drop, List.length_take];rfl)) ?_;(with_reducible refine (r10_Find.calls k1 _ _ l0 (rdOf ByteArray.empty t6 x9_1) t10 _ ?side1 ?side2 A11.out).mono ?_);(case side1 => repeat (first|exact (Kd.C_below HR0.out HB.out)|(with_reducible refine Kd.C_alloc ?_ _)|(with_reducible refine Kd.C_drewN ?_ _)|(with_reducible refine Kd.C_drew ?_)));(case side2 => exact HC0.out);rintro e w' ⟨rfl, ⟨nd, rfl⟩⟩;refine ⟨_, rfl, ?_⟩;(try (rw [drewN_self wr];generalize hq_ : World.drewN wr _ = wr;have n0_ : Aside0 (Kd.R Kd.string 9 wr w.heap.size (fun k_ => some k_ ≠ (u8 : Value).ownBlock) (.slice (some ad9) t6.length co26) t6) := ⟨by rw [← hq_];exact (by (with_reducible repeat (first|apply Kd.R_alloc|apply Kd.R_drewN|apply Kd.R_drew));exact HO_7.out)⟩;have n1_ : Aside0 (Kd.R Kd.string 9 wr w.heap.size (fun k_ => some k_ ≠ (.slice (some ad9) t6.length co26 : Value).ownBlock) u8 x8_1) := ⟨by rw [← hq_];exact (by (with_reducible repeat (first|apply Kd.R_alloc|apply Kd.R_drewN|apply Kd.R_drew));exact HO_8.out)⟩;have n2_ : Aside0 (wr.heap[gb5]? = some (.cells #[.int .i64 t1, .int .i64 t2, .int .i64 t3] 27 (0, 0))) := ⟨by rw [← hq_];exact (by (with_reducible repeat (first|refine blk_drewN ?_ _|refine blk_drew ?_|refine blk_alloc ?_ _));exact BK5.out)⟩;have n3_ : Aside0 (Below w.heap.size w wr) := ⟨by rw [← hq_];exact (by repeat (first|(with_reducible first|exact HB.out|apply below_alloc|apply pw_below_drewN|apply below_drew1|refine below_set ?_ GE5.out)|exact HB.out))⟩;clear HO_7 HO_8 BK5 HB hq_;have HO_7 := n0_;have HO_8 := n1_;have BK5 := n2_;have HB := n3_;clear n0_ n1_ n2_ n3_));have p11 : 0 ≤ (t10 : Int) := of_decide_eq_true (by first|(with_reducible assumption)|assumption);have q11 : t10 < (l0.length : Int) := of_decide_eq_true (by first|(with_reducible assumption)|assumption);obtain ⟨ad11, e11, hx11_0, hx11_1, hx11_2, hx11_3, hx11_4, hx11_5, hx11_6, hx11_7, hx11_8, hx11_9, hx11_10, hx11_11⟩ := at_T31 HR0.out t10 p11 q11;cases e11;replace hx11_0 := (HB.out.cell (World.block_lt_of_cell? w _ hx11_0)).trans hx11_0;replace hx11_1 := (HB.out.cell (World.block_lt_of_cell? w _ hx11_1)).trans hx11_1;replace hx11_2 := (HB.out.cell (World.block_lt_of_cell? w _ hx11_2)).trans hx11_2;replace hx11_3 := (HB.out.cell (World.block_lt_of_cell? w _ hx11_3)).trans hx11_3;replace hx11_4 := (HB.out.cell (World.block_lt_of_cell? w _ hx11_4)).trans hx11_4;replace hx11_5 := (HB.out.cell (World.block_lt_of_cell? w _ hx11_5)).trans hx11_5;replace hx11_6 := (HB.out.cell (World.block_lt_of_cell? w _ hx11_6)).trans hx11_6;replace hx11_7 := (HB.out.cell (World.block_lt_of_cell? w _ hx11_7)).trans hx11_7;replace hx11_8 := (HB.out.cell (World.block_lt_of_cell? w _ hx11_8)).trans hx11_8;replace hx11_9 := (HB.out.cell (World.block_lt_of_cell? w _ hx11_9)).trans hx11_9;replace hx11_10 := (HB.out.cell (World.block_lt_of_cell? w _ hx11_10)).trans hx11_10;replace hx11_11 := (HB.out.cell (World.block_lt_of_cell? w _ hx11_11)).trans hx11_11;replace p11 := eq_true p11;replace q11 := eq_true q11)|((with_reducible refine gate_callee (f := 135) rfl ?_);refine goesL_ (some 35) rfl rfl Try.func135 (by kernel_rfl) rfl #[.agg #[.string ((rd_T31 l0 t10).f0), .string ((rd_T31 l0 t10).f1), .int .i64 ((rd_T31 l0 t10).f2.f0), .int .i64 ((rd_T31 l0 t10).f2.f1), .int .i64 ((rd_T31 l0 t10).f2.f2), .int .i64 ((rd_T31 l0 t10).f3.f0), .int .i64 ((rd_T31 l0 t10).f3.f1), .int .i64 ((rd_T31 l0 t10).f3.f2), .int .i64 ((rd_T31 l0 t10).f4.f0), .int .i64 ((rd_T31 l0 t10).f4.f1), .int .i64 ((rd_T31 l0 t10).f4.f2), .int .i64 ((rd_T31 l0 t10).f5)]] rfl (by (try simp only [List.map_toArray, List.map_cons, List.map_nil]);first|done|rfl|(simp only [List.length_drop, List.length_take];rfl)) ?_;(with_reducible refine (r10_free.calls ((rd_T31 l0 t10).f0) ((rd_T31 l0 t10).f1) ((rd_T31 l0 t10).f2.f0) ((rd_T31 l0 t10).f2.f1) ((rd_T31 l0 t10).f2.f2) ((rd_T31 l0 t10).f3.f0) ((rd_T31 l0 t10).f3.f1) ((rd_T31 l0 t10).f3.f2) ((rd_T31 l0 t10).f4.f0) ((rd_T31 l0 t10).f4.f1) ((rd_T31 l0 t10).f4.f2) ((rd_T31 l0 t10).f5) t12 t13 t14 _ A14.out).mono ?_);rintro e w27 ⟨rfl, hb⟩;refine ⟨_, rfl, ?_⟩;have n0_ := Aside0.mk (Kd.R_below (by (with_reducible repeat (first|apply Kd.R_alloc|apply Kd.R_drewN|apply Kd.R_drew));exact HO_7.out) hb);have n1_ := Aside0.mk (Kd.R_below (by (with_reducible repeat (first|apply Kd.R_alloc|apply Kd.R_drewN|apply Kd.R_drew));exact HO_8.out) hb);have n2_ := Aside0.mk (blk_below (g := gb5) (o := .cells #[.int .i64 t1, .int .i64 t2, .int .i64 t3] 27 (0, 0)) (by (with_reducible repeat (first|refine blk_drewN ?_ _|refine blk_drew ?_|refine blk_alloc ?_ _));exact BK5.out) hb);have n3_ := Aside0.mk (below_step (by repeat (first|(with_reducible first|exact HB.out|apply below_alloc|apply pw_below_drewN|apply below_drew1|refine below_set ?_ GE5.out)|exact HB.out)) hb);clear HO_7;clear HO_8;clear BK5;clear HB;have HO_7 := n0_;have HO_8 := n1_;have BK5 := n2_;have HB := n3_;clear n0_ n1_ n2_ n3_;(try clear hb);(try clear hb2);(try clear hk);(try clear hi))|((with_reducible refine gate_dst (N := 10) rfl ?_);refine box_event ?hg (N := 10) ?hd (cs := #[.int .i64 0, .int .i64 0, .int .i64 0]) (t := 27) ?hr ?_;(case hd => rfl);(case hg => rfl);(case hr => first|(go_simp;done)|(go_simp;rfl));intro gb15 hg w28 hbox hb;have n0_ := Aside0.mk (Kd.R_below (by (with_reducible repeat (first|apply Kd.R_alloc|apply Kd.R_drewN|apply Kd.R_drew));exact HO_7.out) hb);have n1_ := Aside0.mk (Kd.R_below (by (with_reducible repeat (first|apply Kd.R_alloc|apply Kd.R_drewN|apply Kd.R_drew));exact HO_8.out) hb);have n2_ := Aside0.mk (blk_below (g := gb5) (o := .cells #[.int .i64 t1, .int .i64 t2, .int .i64 t3] 27 (0, 0)) (by (with_reducible repeat (first|refine blk_drewN ?_ _|refine blk_drew ?_|refine blk_alloc ?_ _));exact BK5.out) hb);have n3_ := Aside0.mk (below_step (by repeat (first|(with_reducible first|exact HB.out|apply below_alloc|apply pw_below_drewN|apply below_drew1|refine below_set ?_ GE5.out)|exact HB.out)) hb);have n4_ := Aside0.mk (hbox);have n5_ := Aside0.mk ((by rw [hg];exact (below_size (by repeat (first|(with_reducible first|exact HB.out|apply below_alloc|apply pw_below_drewN|apply below_drew1|refine below_set ?_ GE5.out)|exact HB.out))) : w.heap.size ≤ gb15));have n6_ := Aside0.mk ((by rw [hg];exact (below_size (by repeat (first|(with_reducible first|exact HB.out|apply below_alloc|apply pw_below_drewN|apply below_drew1|refine below_set ?_ GE5.out)|exact HB.out))) : w.heap.size ≤ gb15));have n7_ := Aside0.mk ((by rw [hg];exact Nat.ne_of_lt (blk_lt (g := gb5) (o := .cells #[.int .i64 t1, .int .i64 t2, .int .i64 t3] 27 (0, 0)) (by (with_reducible repeat (first|refine blk_drewN ?_ _|refine blk_drew ?_|refine blk_alloc ?_ _));exact BK5.out)) : gb5 ≠ gb15));have n8_ := Aside0.mk ((by rw [hg];exact Nat.ne_of_gt (blk_lt (g := gb5) (o := .cells #[.int .i64 t1, .int .i64 t2, .int .i64 t3] 27 (0, 0)) (by (with_reducible repeat (first|refine blk_drewN ?_ _|refine blk_drew ?_|refine blk_alloc ?_ _));exact BK5.out)) : gb15 ≠ gb5));clear HO_7;clear HO_8;clear BK5;clear HB;have HO_7 := n0_;have HO_8 := n1_;have BK5 := n2_;have HB := n3_;have BK15 := n4_;have GW15 := n5_;have GE15 := n6_;have NB5_15 := n7_;have NB15_5 := n8_;clear n0_ n1_ n2_ n3_ n4_ n5_ n6_ n7_ n8_;clear hb hbox hg;have hnb29 := NB15_5.out;have hnc29 := NB5_15.out;have hcz30_0 : w28.cell? ⟨gb15, 0, none⟩ = some (.int .i64 0) := (blk_cell BK15.out 0).trans rfl;have hcz30_1 : w28.cell? ⟨gb15, 1, none⟩ = some (.int .i64 0) := (blk_cell BK15.out 1).trans rfl;have hcz30_2 : w28.cell? ⟨gb15, 2, none⟩ = some (.int .i64 0) := (blk_cell BK15.out 2).trans rfl;have hfz30_0 := blk_frozen BK15.out 0;have hfz30_1 := blk_frozen BK15.out 1;have hfz30_2 := blk_frozen BK15.out 2;have hcz31_0 : w28.cell? ⟨gb5, 0, none⟩ = some (.int .i64 t1) := (blk_cell BK5.out 0).trans rfl;have hcz31_1 : w28.cell? ⟨gb5, 1, none⟩ = some (.int .i64 t2) := (blk_cell BK5.out 1).trans rfl;have hcz31_2 : w28.cell? ⟨gb5, 2, none⟩ = some (.int .i64 t3) := (blk_cell BK5.out 2).trans rfl;have hfz31_0 := blk_frozen BK5.out 0;have hfz31_1 := blk_frozen BK5.out 1;have hfz31_2 := blk_frozen BK5.out 2;have p20 : 0 ≤ (x9_1 : Int) := of_decide_eq_true (by first|(with_reducible assumption)|assumption);have q20 : x9_1 < (t6.length : Int) := of_decide_eq_true (by first|(with_reducible assumption)|assumption);obtain ⟨ad20, e20, hx20_0⟩ := Kd.at_string (Kd.R_reads' HO_7.out).2.2 x9_1 p20 q20;obtain rfl : ad9 = ad20 := (by injection e20);have hn20_0 : ad9.block ≠ gb15 := Kd.own_blk (Kd.R_ne HO_7.out BK15.out (by decide));have hn20_1 : ad9.block ≠ gb15 := Kd.own_blk (Kd.R_ne HO_7.out BK15.out (by decide));have hn20_2 : ad9.block ≠ gb15 := Kd.own_blk (Kd.R_ne HO_7.out BK15.out (by decide));replace hx20_0 := (cell_far (p := ⟨gb15, 0, none⟩) (by first|(rw [add_block];exact hn20_0)|(show (Addr.add _ _).block ≠ _;rw [add_block];exact hn20_0)|exact hn20_0) (.int .i64 t12)).trans hx20_0;replace hx20_0 := (cell_far (p := ⟨gb15, 1, none⟩) (by first|(rw [add_block];exact hn20_1)|(show (Addr.add _ _).block ≠ _;rw [add_block];exact hn20_1)|exact hn20_1) (.int .i64 t13)).trans hx20_0;replace hx20_0 := (cell_far (p := ⟨gb15, 2, none⟩) (by first|(rw [add_block];exact hn20_2)|(show (Addr.add _ _).block ≠ _;rw [add_block];exact hn20_2)|exact hn20_2) (.int .i64 t14)).trans hx20_0;clear hn20_0;clear hn20_1;clear hn20_2;replace p20 := eq_true p20;replace q20 := eq_true q20)|((with_reducible refine gate_builtin (b := .append) (xs := #[.tmp 55, .tmp 60]) rfl ?_);at_builtin;refine Kd.R_append Kd.string (w0 := w) w.heap.size rfl (.tmp 55) (.tmp 60) 74 9 (.string ⟨#[]⟩) 16 rfl Try.underlying74 info9 rfl (by decide) (by omega) u8 x8_1 (rdOf ByteArray.empty t6 x9_1) [.string (rdOf ByteArray.empty t6 x9_1)] (fun k_ => some k_ ≠ (.slice (some ad9) t6.length co26 : Value).ownBlock) (fun _ => False) rfl (by first|(go_simp;done)|(go_simp;rfl)) ?aP (fun _ hk => hk.elim) ?aF ?aO ?aB ?aS ?aL ?_;(case aP => exact rfl);(case aB => exact (by repeat (first|(with_reducible first|exact HB.out|apply below_alloc|apply pw_below_drewN|apply below_drew1|refine below_set ?_ GE5.out|refine below_set ?_ GE15.out)|exact HB.out)));(case aF => exact (fun k_ hk => Kd.fresh' (Kd.R_lt (by (with_reducible repeat (first|apply Kd.R_alloc|apply Kd.R_drewN|apply Kd.R_drew));exact (Kd.R_mono (Kd.R_far (p := ⟨gb15, 2, none⟩) (Kd.R_far (p := ⟨gb15, 1, none⟩) (Kd.R_far (p := ⟨gb15, 0, none⟩) (Kd.R_types HO_7.out BK15.out (by decide)) (fun _ hk => hk.2) (.int .i64 t12)) (fun _ hk => hk.2) (.int .i64 t13)) (fun _ hk => hk.2) (.int .i64 t14)) (fun _ h_ => h_.1)))) k_ hk));(case aO => exact (by (with_reducible repeat (first|apply Kd.R_alloc|apply Kd.R_drewN|apply Kd.R_drew));exact Kd.R_mono (Kd.R_far (p := ⟨gb15, 2, none⟩) (Kd.R_far (p := ⟨gb15, 1, none⟩) (Kd.R_far (p := ⟨gb15, 0, none⟩) (Kd.R_types HO_8.out BK15.out (by decide)) (fun _ hk => hk.2) (.int .i64 t12)) (fun _ hk => hk.2) (.int .i64 t13)) (fun _ hk => hk.2) (.int .i64 t14)) (fun _ hk => hk.1)));(case aS => exact (below_size (by repeat (first|(with_reducible first|exact HB.out|apply below_alloc|apply pw_below_drewN|apply below_drew1|refine below_set ?_ GE5.out|refine below_set ?_ GE15.out)|exact HB.out))));(case aL => have := LMc25.out;omega);intro v22 w32 ho hb hg hat;rw [← Ny21.out] at ho;have n0_ := Aside0.mk (Kd.R_after (ok := (fun _ => True)) (by (with_reducible repeat (first|apply Kd.R_alloc|apply Kd.R_drewN|apply Kd.R_drew));exact Kd.R_mono (Kd.R_far (p := ⟨gb15, 2, none⟩) (Kd.R_far (p := ⟨gb15, 1, none⟩) (Kd.R_far (p := ⟨gb15, 0, none⟩) (Kd.R_types HO_7.out BK15.out (by decide)) (fun _ hk => hk.2) (.int .i64 t12)) (fun _ hk => hk.2) (.int .i64 t13)) (fun _ hk => hk.2) (.int .i64 t14)) (fun _ hk => ⟨trivial, hk.1⟩)) hg hat);have n1_ := Aside0.mk (blk_grown (g := gb5) (o := .cells #[.int .i64 t1, .int .i64 t2, .int .i64 t3] 27 (0, 0)) (by (with_reducible repeat (first|refine blk_drewN ?_ _|refine blk_drew ?_|refine blk_alloc ?_ _));refine blk_far ?_ NB5_15.out _;(with_reducible repeat (first|refine blk_drewN ?_ _|refine blk_drew ?_|refine blk_alloc ?_ _));refine blk_far ?_ NB5_15.out _;(with_reducible repeat (first|refine blk_drewN ?_ _|refine blk_drew ?_|refine blk_alloc ?_ _));refine blk_far ?_ NB5_15.out _;(with_reducible repeat (first|refine blk_drewN ?_ _|refine blk_drew ?_|refine blk_alloc ?_ _));exact BK5.out) hg (Kd.R_ne HO_8.out BK5.out (by decide)));have n2_ := Aside0.mk (blk_grown (g := gb15) (o := .cells #[.int .i64 t12, .int .i64 t13, .int .i64 t14] 27 (0, 0)) (by (with_reducible repeat (first|refine blk_drewN ?_ _|refine blk_drew ?_|refine blk_alloc ?_ _));refine blk_put (cs := #[.int .i64 t12, .int .i64 t13, .int .i64 0]) ?_ 2 _ rfl;(with_reducible repeat (first|refine blk_drewN ?_ _|refine blk_drew ?_|refine blk_alloc ?_ _));refine blk_put (cs := #[.int .i64 t12, .int .i64 0, .int .i64 0]) ?_ 1 _ rfl;(with_reducible repeat (first|refine blk_drewN ?_ _|refine blk_drew ?_|refine blk_alloc ?_ _));refine blk_put (cs := #[.int .i64 0, .int .i64 0, .int .i64 0]) ?_ 0 _ rfl;(with_reducible repeat (first|refine blk_drewN ?_ _|refine blk_drew ?_|refine blk_alloc ?_ _));exact BK15.out) hg (Kd.R_ne HO_8.out BK15.out (by decide)));have n3_ := Aside0.mk (hb);have n4_ := Aside0.mk (ho);clear HO_7;clear BK5;clear BK15;clear HB;clear HO_8;have HO_7 := n0_;have BK5 := n1_;have BK15 := n2_;have HB := n3_;have HO23 := n4_;clear n0_ n1_ n2_ n3_ n4_;clear ho hb hg hat))
          go_roundg k1
          case measure => have := HK1.out; omega
          case rel => exact ⟨(y21), (wrap64 (x9_1 + 1)), (by first|rfl|(simp;done)|(simp [*];done)), H', ⟨by have := HK1.out;omega⟩, ⟨by (with_reducible repeat (first|apply Kd.R_alloc|apply Kd.R_drewN|apply Kd.R_drew));exact Kd.R_mono HO_7.out (fun _ hk => hk.2)⟩, ⟨by (with_reducible repeat (first|apply Kd.R_alloc|apply Kd.R_drewN|apply Kd.R_drew));exact HO23.out⟩, ⟨by (with_reducible repeat (first|refine blk_drewN ?_ _|refine blk_drew ?_|refine blk_alloc ?_ _));exact BK5.out⟩, ⟨by repeat (first|(with_reducible first|exact HB.out|apply below_alloc|apply pw_below_drewN|apply below_drew1|refine below_set ?_ GE5.out|refine below_set ?_ GE15.out)|exact HB.out)⟩⟩
         ·rw [if_neg c25] at H
          exact absurd H (by simp)
        ·rw [if_neg c24] at H
         have c24b0 : (t13 == t2) = false := beq_eq_false_iff_ne.mpr c24
         have c24b1 : (t13 != t2) = true := bne_iff_ne.mpr c24
         by_cases c33 : t14 = t3
         ·rw [if_pos c33] at H
          have c33b0 : (t14 == t3) = true := beq_iff_eq.mpr c33
          have c33b1 : (t14 != t3) = false := bne_eq_false_iff_eq.mpr c33
          clear c33
          by_cases c34 : x8_1.length < 8796093022208
          ·rw [if_pos c34] at H
           have LMc34 := Aside0.mk c34
           clear c34
           obtain ⟨y25, hy25⟩ : ∃ y_ : List ByteArray, y_ = (x8_1 ++ [rdOf ByteArray.empty t6 x9_1]) := ⟨_, rfl⟩
           replace H : (r10_Tight.l0 k1 l0 t6 y25 (wrap64 (x9_1 + 1)) t1 t2 t3) = some r := by first|(rw [hy25];with_reducible exact H)|(have H2_ := (Option.bind_some _ _).symm.trans H;rw [hy25];with_reducible exact H2_)|(have H2_ := (Option.bind_some _ _).symm.trans H;with_reducible exact H2_)|with_reducible exact H|(rw [hy25];exact H)|exact H
           have Ny25 := Aside0.mk hy25
           clear hy25
           have H' := Aside0.mk H
           clear H
           obtain ⟨Ao35, co35, eo35⟩ := Kd.R_slice HO_7.out
           subst eo35
           have p9 : 0 ≤ (x9_1 : Int) := of_decide_eq_true (by first|(with_reducible assumption)|assumption)
           have q9 : x9_1 < (t6.length : Int) := of_decide_eq_true (by first|(with_reducible assumption)|assumption)
           obtain ⟨ad9, e9, hx9_0⟩ := Kd.at_string (Kd.R_reads' HO_7.out).2.2 x9_1 p9 q9
           cases e9
           replace p9 := eq_true p9
           replace q9 := eq_true q9
           go_wp2_with (first|((with_reducible refine gate_callee (f := 50) rfl ?_);refine goesL_ (some 32) rfl rfl Try.func50 (by kernel_rfl) rfl #[.slice A0 l0.length c0, .string (rdOf ByteArray.empty t6 x9_1)] rfl (by (try simp only [List.map_toArray, List.map_cons, List.map_nil]);first|done|rfl|(simp only [List.length_drop, List.length_take];rfl)) ?_;(with_reducible refine (r10_Find.calls k1 _ _ l0 (rdOf ByteArray.empty t6 x9_1) t10 _ ?side1 ?side2 A11.out).mono ?_);(case side1 => repeat (first|exact (Kd.C_below HR0.out HB.out)|(with_reducible refine Kd.C_alloc ?_ _)|(with_reducible refine Kd.C_drewN ?_ _)|(with_reducible refine Kd.C_drew ?_)));(case side2 => exact HC0.out);rintro e w' ⟨rfl, ⟨nd, rfl⟩⟩;refine ⟨_, rfl, ?_⟩;(try (rw [drewN_self wr];generalize hq_ : World.drewN wr _ = wr;have n0_ : Aside0 (Kd.R Kd.string 9 wr w.heap.size (fun k_ => some k_ ≠ (u8 : Value).ownBlock) (.slice (some ad9) t6.length co35) t6) := ⟨by rw [← hq_];exact (by (with_reducible repeat (first|apply Kd.R_alloc|apply Kd.R_drewN|apply Kd.R_drew));exact HO_7.out)⟩;have n1_ : Aside0 (Kd.R Kd.string 9 wr w.heap.size (fun k_ => some k_ ≠ (.slice (some ad9) t6.length co35 : Value).ownBlock) u8 x8_1) := ⟨by rw [← hq_];exact (by (with_reducible repeat (first|apply Kd.R_alloc|apply Kd.R_drewN|apply Kd.R_drew));exact HO_8.out)⟩;have n2_ : Aside0 (wr.heap[gb5]? = some (.cells #[.int .i64 t1, .int .i64 t2, .int .i64 t3] 27 (0, 0))) := ⟨by rw [← hq_];exact (by (with_reducible repeat (first|refine blk_drewN ?_ _|refine blk_drew ?_|refine blk_alloc ?_ _));exact BK5.out)⟩;have n3_ : Aside0 (Below w.heap.size w wr) := ⟨by rw [← hq_];exact (by repeat (first|(with_reducible first|exact HB.out|apply below_alloc|apply pw_below_drewN|apply below_drew1|refine below_set ?_ GE5.out)|exact HB.out))⟩;clear HO_7 HO_8 BK5 HB hq_;have HO_7 := n0_;have HO_8 := n1_;have BK5 := n2_;have HB := n3_;clear n0_ n1_ n2_ n3_));have p11 : 0 ≤ (t10 : Int) := of_decide_eq_true (by first|(with_reducible assumption)|assumption);have q11 : t10 < (l0.length : Int) := of_decide_eq_true (by first|(with_reducible assumption)|assumption);obtain ⟨ad11, e11, hx11_0, hx11_1, hx11_2, hx11_3, hx11_4, hx11_5, hx11_6, hx11_7, hx11_8, hx11_9, hx11_10, hx11_11⟩ := at_T31 HR0.out t10 p11 q11;cases e11;replace hx11_0 := (HB.out.cell (World.block_lt_of_cell? w _ hx11_0)).trans hx11_0;replace hx11_1 := (HB.out.cell (World.block_lt_of_cell? w _ hx11_1)).trans hx11_1;replace hx11_2 := (HB.out.cell (World.block_lt_of_cell? w _ hx11_2)).trans hx11_2;replace hx11_3 := (HB.out.cell (World.block_lt_of_cell? w _ hx11_3)).trans hx11_3;replace hx11_4 := (HB.out.cell (World.block_lt_of_cell? w _ hx11_4)).trans hx11_4;replace hx11_5 := (HB.out.cell (World.block_lt_of_cell? w _ hx11_5)).trans hx11_5;replace hx11_6 := (HB.out.cell (World.block_lt_of_cell? w _ hx11_6)).trans hx11_6;replace hx11_7 := (HB.out.cell (World.block_lt_of_cell? w _ hx11_7)).trans hx11_7;replace hx11_8 := (HB.out.cell (World.block_lt_of_cell? w _ hx11_8)).trans hx11_8;replace hx11_9 := (HB.out.cell (World.block_lt_of_cell? w _ hx11_9)).trans hx11_9;replace hx11_10 := (HB.out.cell (World.block_lt_of_cell? w _ hx11_10)).trans hx11_10;replace hx11_11 := (HB.out.cell (World.block_lt_of_cell? w _ hx11_11)).trans hx11_11;replace p11 := eq_true p11;replace q11 := eq_true q11)|((with_reducible refine gate_callee (f := 135) rfl ?_);refine goesL_ (some 35) rfl rfl Try.func135 (by kernel_rfl) rfl #[.agg #[.string ((rd_T31 l0 t10).f0), .string ((rd_T31 l0 t10).f1), .int .i64 ((rd_T31 l0 t10).f2.f0), .int .i64 ((rd_T31 l0 t10).f2.f1), .int .i64 ((rd_T31 l0 t10).f2.f2), .int .i64 ((rd_T31 l0 t10).f3.f0), .int .i64 ((rd_T31 l0 t10).f3.f1), .int .i64 ((rd_T31 l0 t10).f3.f2), .int .i64 ((rd_T31 l0 t10).f4.f0), .int .i64 ((rd_T31 l0 t10).f4.f1), .int .i64 ((rd_T31 l0 t10).f4.f2), .int .i64 ((rd_T31 l0 t10).f5)]] rfl (by (try simp only [List.map_toArray, List.map_cons, List.map_nil]);first|done|rfl|(simp only [List.length_drop, List.length_take];rfl)) ?_;(with_reducible refine (r10_free.calls ((rd_T31 l0 t10).f0) ((rd_T31 l0 t10).f1) ((rd_T31 l0 t10).f2.f0) ((rd_T31 l0 t10).f2.f1) ((rd_T31 l0 t10).f2.f2) ((rd_T31 l0 t10).f3.f0) ((rd_T31 l0 t10).f3.f1) ((rd_T31 l0 t10).f3.f2) ((rd_T31 l0 t10).f4.f0) ((rd_T31 l0 t10).f4.f1) ((rd_T31 l0 t10).f4.f2) ((rd_T31 l0 t10).f5) t12 t13 t14 _ A14.out).mono ?_);rintro e w36 ⟨rfl, hb⟩;refine ⟨_, rfl, ?_⟩;have n0_ := Aside0.mk (Kd.R_below (by (with_reducible repeat (first|apply Kd.R_alloc|apply Kd.R_drewN|apply Kd.R_drew));exact HO_7.out) hb);have n1_ := Aside0.mk (Kd.R_below (by (with_reducible repeat (first|apply Kd.R_alloc|apply Kd.R_drewN|apply Kd.R_drew));exact HO_8.out) hb);have n2_ := Aside0.mk (blk_below (g := gb5) (o := .cells #[.int .i64 t1, .int .i64 t2, .int .i64 t3] 27 (0, 0)) (by (with_reducible repeat (first|refine blk_drewN ?_ _|refine blk_drew ?_|refine blk_alloc ?_ _));exact BK5.out) hb);have n3_ := Aside0.mk (below_step (by repeat (first|(with_reducible first|exact HB.out|apply below_alloc|apply pw_below_drewN|apply below_drew1|refine below_set ?_ GE5.out)|exact HB.out)) hb);clear HO_7;clear HO_8;clear BK5;clear HB;have HO_7 := n0_;have HO_8 := n1_;have BK5 := n2_;have HB := n3_;clear n0_ n1_ n2_ n3_;(try clear hb);(try clear hb2);(try clear hk);(try clear hi))|((with_reducible refine gate_dst (N := 10) rfl ?_);refine box_event ?hg (N := 10) ?hd (cs := #[.int .i64 0, .int .i64 0, .int .i64 0]) (t := 27) ?hr ?_;(case hd => rfl);(case hg => rfl);(case hr => first|(go_simp;done)|(go_simp;rfl));intro gb15 hg w37 hbox hb;have n0_ := Aside0.mk (Kd.R_below (by (with_reducible repeat (first|apply Kd.R_alloc|apply Kd.R_drewN|apply Kd.R_drew));exact HO_7.out) hb);have n1_ := Aside0.mk (Kd.R_below (by (with_reducible repeat (first|apply Kd.R_alloc|apply Kd.R_drewN|apply Kd.R_drew));exact HO_8.out) hb);have n2_ := Aside0.mk (blk_below (g := gb5) (o := .cells #[.int .i64 t1, .int .i64 t2, .int .i64 t3] 27 (0, 0)) (by (with_reducible repeat (first|refine blk_drewN ?_ _|refine blk_drew ?_|refine blk_alloc ?_ _));exact BK5.out) hb);have n3_ := Aside0.mk (below_step (by repeat (first|(with_reducible first|exact HB.out|apply below_alloc|apply pw_below_drewN|apply below_drew1|refine below_set ?_ GE5.out)|exact HB.out)) hb);have n4_ := Aside0.mk (hbox);have n5_ := Aside0.mk ((by rw [hg];exact (below_size (by repeat (first|(with_reducible first|exact HB.out|apply below_alloc|apply pw_below_drewN|apply below_drew1|refine below_set ?_ GE5.out)|exact HB.out))) : w.heap.size ≤ gb15));have n6_ := Aside0.mk ((by rw [hg];exact (below_size (by repeat (first|(with_reducible first|exact HB.out|apply below_alloc|apply pw_below_drewN|apply below_drew1|refine below_set ?_ GE5.out)|exact HB.out))) : w.heap.size ≤ gb15));have n7_ := Aside0.mk ((by rw [hg];exact Nat.ne_of_lt (blk_lt (g := gb5) (o := .cells #[.int .i64 t1, .int .i64 t2, .int .i64 t3] 27 (0, 0)) (by (with_reducible repeat (first|refine blk_drewN ?_ _|refine blk_drew ?_|refine blk_alloc ?_ _));exact BK5.out)) : gb5 ≠ gb15));have n8_ := Aside0.mk ((by rw [hg];exact Nat.ne_of_gt (blk_lt (g := gb5) (o := .cells #[.int .i64 t1, .int .i64 t2, .int .i64 t3] 27 (0, 0)) (by (with_reducible repeat (first|refine blk_drewN ?_ _|refine blk_drew ?_|refine blk_alloc ?_ _));exact BK5.out)) : gb15 ≠ gb5));clear HO_7;clear HO_8;clear BK5;clear HB;have HO_7 := n0_;have HO_8 := n1_;have BK5 := n2_;have HB := n3_;have BK15 := n4_;have GW15 := n5_;have GE15 := n6_;have NB5_15 := n7_;have NB15_5 := n8_;clear n0_ n1_ n2_ n3_ n4_ n5_ n6_ n7_ n8_;clear hb hbox hg;have hnb38 := NB15_5.out;have hnc38 := NB5_15.out;have hcz39_0 : w37.cell? ⟨gb15, 0, none⟩ = some (.int .i64 0) := (blk_cell BK15.out 0).trans rfl;have hcz39_1 : w37.cell? ⟨gb15, 1, none⟩ = some (.int .i64 0) := (blk_cell BK15.out 1).trans rfl;have hcz39_2 : w37.cell? ⟨gb15, 2, none⟩ = some (.int .i64 0) := (blk_cell BK15.out 2).trans rfl;have hfz39_0 := blk_frozen BK15.out 0;have hfz39_1 := blk_frozen BK15.out 1;have hfz39_2 := blk_frozen BK15.out 2;have hcz40_0 : w37.cell? ⟨gb5, 0, none⟩ = some (.int .i64 t1) := (blk_cell BK5.out 0).trans rfl;have hcz40_1 : w37.cell? ⟨gb5, 1, none⟩ = some (.int .i64 t2) := (blk_cell BK5.out 1).trans rfl;have hcz40_2 : w37.cell? ⟨gb5, 2, none⟩ = some (.int .i64 t3) := (blk_cell BK5.out 2).trans rfl;have hfz40_0 := blk_frozen BK5.out 0;have hfz40_1 := blk_frozen BK5.out 1;have hfz40_2 := blk_frozen BK5.out 2;have p24 : 0 ≤ (x9_1 : Int) := of_decide_eq_true (by first|(with_reducible assumption)|assumption);have q24 : x9_1 < (t6.length : Int) := of_decide_eq_true (by first|(with_reducible assumption)|assumption);obtain ⟨ad24, e24, hx24_0⟩ := Kd.at_string (Kd.R_reads' HO_7.out).2.2 x9_1 p24 q24;obtain rfl : ad9 = ad24 := (by injection e24);have hn24_0 : ad9.block ≠ gb15 := Kd.own_blk (Kd.R_ne HO_7.out BK15.out (by decide));have hn24_1 : ad9.block ≠ gb15 := Kd.own_blk (Kd.R_ne HO_7.out BK15.out (by decide));have hn24_2 : ad9.block ≠ gb15 := Kd.own_blk (Kd.R_ne HO_7.out BK15.out (by decide));replace hx24_0 := (cell_far (p := ⟨gb15, 0, none⟩) (by first|(rw [add_block];exact hn24_0)|(show (Addr.add _ _).block ≠ _;rw [add_block];exact hn24_0)|exact hn24_0) (.int .i64 t12)).trans hx24_0;replace hx24_0 := (cell_far (p := ⟨gb15, 1, none⟩) (by first|(rw [add_block];exact hn24_1)|(show (Addr.add _ _).block ≠ _;rw [add_block];exact hn24_1)|exact hn24_1) (.int .i64 t13)).trans hx24_0;replace hx24_0 := (cell_far (p := ⟨gb15, 2, none⟩) (by first|(rw [add_block];exact hn24_2)|(show (Addr.add _ _).block ≠ _;rw [add_block];exact hn24_2)|exact hn24_2) (.int .i64 t14)).trans hx24_0;clear hn24_0;clear hn24_1;clear hn24_2;replace p24 := eq_true p24;replace q24 := eq_true q24)|((with_reducible refine gate_builtin (b := .append) (xs := #[.tmp 55, .tmp 60]) rfl ?_);at_builtin;refine Kd.R_append Kd.string (w0 := w) w.heap.size rfl (.tmp 55) (.tmp 60) 74 9 (.string ⟨#[]⟩) 16 rfl Try.underlying74 info9 rfl (by decide) (by omega) u8 x8_1 (rdOf ByteArray.empty t6 x9_1) [.string (rdOf ByteArray.empty t6 x9_1)] (fun k_ => some k_ ≠ (.slice (some ad9) t6.length co35 : Value).ownBlock) (fun _ => False) rfl (by first|(go_simp;done)|(go_simp;rfl)) ?aP (fun _ hk => hk.elim) ?aF ?aO ?aB ?aS ?aL ?_;(case aP => exact rfl);(case aB => exact (by repeat (first|(with_reducible first|exact HB.out|apply below_alloc|apply pw_below_drewN|apply below_drew1|refine below_set ?_ GE5.out|refine below_set ?_ GE15.out)|exact HB.out)));(case aF => exact (fun k_ hk => Kd.fresh' (Kd.R_lt (by (with_reducible repeat (first|apply Kd.R_alloc|apply Kd.R_drewN|apply Kd.R_drew));exact (Kd.R_mono (Kd.R_far (p := ⟨gb15, 2, none⟩) (Kd.R_far (p := ⟨gb15, 1, none⟩) (Kd.R_far (p := ⟨gb15, 0, none⟩) (Kd.R_types HO_7.out BK15.out (by decide)) (fun _ hk => hk.2) (.int .i64 t12)) (fun _ hk => hk.2) (.int .i64 t13)) (fun _ hk => hk.2) (.int .i64 t14)) (fun _ h_ => h_.1)))) k_ hk));(case aO => exact (by (with_reducible repeat (first|apply Kd.R_alloc|apply Kd.R_drewN|apply Kd.R_drew));exact Kd.R_mono (Kd.R_far (p := ⟨gb15, 2, none⟩) (Kd.R_far (p := ⟨gb15, 1, none⟩) (Kd.R_far (p := ⟨gb15, 0, none⟩) (Kd.R_types HO_8.out BK15.out (by decide)) (fun _ hk => hk.2) (.int .i64 t12)) (fun _ hk => hk.2) (.int .i64 t13)) (fun _ hk => hk.2) (.int .i64 t14)) (fun _ hk => hk.1)));(case aS => exact (below_size (by repeat (first|(with_reducible first|exact HB.out|apply below_alloc|apply pw_below_drewN|apply below_drew1|refine below_set ?_ GE5.out|refine below_set ?_ GE15.out)|exact HB.out))));(case aL => have := LMc34.out;omega);intro v26 w41 ho hb hg hat;rw [← Ny25.out] at ho;have n0_ := Aside0.mk (Kd.R_after (ok := (fun _ => True)) (by (with_reducible repeat (first|apply Kd.R_alloc|apply Kd.R_drewN|apply Kd.R_drew));exact Kd.R_mono (Kd.R_far (p := ⟨gb15, 2, none⟩) (Kd.R_far (p := ⟨gb15, 1, none⟩) (Kd.R_far (p := ⟨gb15, 0, none⟩) (Kd.R_types HO_7.out BK15.out (by decide)) (fun _ hk => hk.2) (.int .i64 t12)) (fun _ hk => hk.2) (.int .i64 t13)) (fun _ hk => hk.2) (.int .i64 t14)) (fun _ hk => ⟨trivial, hk.1⟩)) hg hat);have n1_ := Aside0.mk (blk_grown (g := gb5) (o := .cells #[.int .i64 t1, .int .i64 t2, .int .i64 t3] 27 (0, 0)) (by (with_reducible repeat (first|refine blk_drewN ?_ _|refine blk_drew ?_|refine blk_alloc ?_ _));refine blk_far ?_ NB5_15.out _;(with_reducible repeat (first|refine blk_drewN ?_ _|refine blk_drew ?_|refine blk_alloc ?_ _));refine blk_far ?_ NB5_15.out _;(with_reducible repeat (first|refine blk_drewN ?_ _|refine blk_drew ?_|refine blk_alloc ?_ _));refine blk_far ?_ NB5_15.out _;(with_reducible repeat (first|refine blk_drewN ?_ _|refine blk_drew ?_|refine blk_alloc ?_ _));exact BK5.out) hg (Kd.R_ne HO_8.out BK5.out (by decide)));have n2_ := Aside0.mk (blk_grown (g := gb15) (o := .cells #[.int .i64 t12, .int .i64 t13, .int .i64 t14] 27 (0, 0)) (by (with_reducible repeat (first|refine blk_drewN ?_ _|refine blk_drew ?_|refine blk_alloc ?_ _));refine blk_put (cs := #[.int .i64 t12, .int .i64 t13, .int .i64 0]) ?_ 2 _ rfl;(with_reducible repeat (first|refine blk_drewN ?_ _|refine blk_drew ?_|refine blk_alloc ?_ _));refine blk_put (cs := #[.int .i64 t12, .int .i64 0, .int .i64 0]) ?_ 1 _ rfl;(with_reducible repeat (first|refine blk_drewN ?_ _|refine blk_drew ?_|refine blk_alloc ?_ _));refine blk_put (cs := #[.int .i64 0, .int .i64 0, .int .i64 0]) ?_ 0 _ rfl;(with_reducible repeat (first|refine blk_drewN ?_ _|refine blk_drew ?_|refine blk_alloc ?_ _));exact BK15.out) hg (Kd.R_ne HO_8.out BK15.out (by decide)));have n3_ := Aside0.mk (hb);have n4_ := Aside0.mk (ho);clear HO_7;clear BK5;clear BK15;clear HB;clear HO_8;have HO_7 := n0_;have BK5 := n1_;have BK15 := n2_;have HB := n3_;have HO27 := n4_;clear n0_ n1_ n2_ n3_ n4_;clear ho hb hg hat))
           go_roundg k1
           case measure => have := HK1.out; omega
           case rel => exact ⟨(y25), (wrap64 (x9_1 + 1)), (by first|rfl|(simp;done)|(simp [*];done)), H', ⟨by have := HK1.out;omega⟩, ⟨by (with_reducible repeat (first|apply Kd.R_alloc|apply Kd.R_drewN|apply Kd.R_drew));exact Kd.R_mono HO_7.out (fun _ hk => hk.2)⟩, ⟨by (with_reducible repeat (first|apply Kd.R_alloc|apply Kd.R_drewN|apply Kd.R_drew));exact HO27.out⟩, ⟨by (with_reducible repeat (first|refine blk_drewN ?_ _|refine blk_drew ?_|refine blk_alloc ?_ _));exact BK5.out⟩, ⟨by repeat (first|(with_reducible first|exact HB.out|apply below_alloc|apply pw_below_drewN|apply below_drew1|refine below_set ?_ GE5.out|refine below_set ?_ GE15.out)|exact HB.out)⟩⟩
          ·rw [if_neg c34] at H
           exact absurd H (by simp)
         ·rw [if_neg c33] at H
          have c33b0 : (t14 == t3) = false := beq_eq_false_iff_ne.mpr c33
          have c33b1 : (t14 != t3) = true := bne_iff_ne.mpr c33
          have H' := Aside0.mk H
          clear H
          obtain ⟨Ao42, co42, eo42⟩ := Kd.R_slice HO_7.out
          subst eo42
          have p9 : 0 ≤ (x9_1 : Int) := of_decide_eq_true (by first|(with_reducible assumption)|assumption)
          have q9 : x9_1 < (t6.length : Int) := of_decide_eq_true (by first|(with_reducible assumption)|assumption)
          obtain ⟨ad9, e9, hx9_0⟩ := Kd.at_string (Kd.R_reads' HO_7.out).2.2 x9_1 p9 q9
          cases e9
          replace p9 := eq_true p9
          replace q9 := eq_true q9
          go_wp2_with (first|((with_reducible refine gate_callee (f := 50) rfl ?_);refine goesL_ (some 32) rfl rfl Try.func50 (by kernel_rfl) rfl #[.slice A0 l0.length c0, .string (rdOf ByteArray.empty t6 x9_1)] rfl (by (try simp only [List.map_toArray, List.map_cons, List.map_nil]);first|done|rfl|(simp only [List.length_drop, List.length_take];rfl)) ?_;(with_reducible refine (r10_Find.calls k1 _ _ l0 (rdOf ByteArray.empty t6 x9_1) t10 _ ?side1 ?side2 A11.out).mono ?_);(case side1 => repeat (first|exact (Kd.C_below HR0.out HB.out)|(with_reducible refine Kd.C_alloc ?_ _)|(with_reducible refine Kd.C_drewN ?_ _)|(with_reducible refine Kd.C_drew ?_)));(case side2 => exact HC0.out);rintro e w' ⟨rfl, ⟨nd, rfl⟩⟩;refine ⟨_, rfl, ?_⟩;(try (rw [drewN_self wr];generalize hq_ : World.drewN wr _ = wr;have n0_ : Aside0 (Kd.R Kd.string 9 wr w.heap.size (fun k_ => some k_ ≠ (u8 : Value).ownBlock) (.slice (some ad9) t6.length co42) t6) := ⟨by rw [← hq_];exact (by (with_reducible repeat (first|apply Kd.R_alloc|apply Kd.R_drewN|apply Kd.R_drew));exact HO_7.out)⟩;have n1_ : Aside0 (Kd.R Kd.string 9 wr w.heap.size (fun k_ => some k_ ≠ (.slice (some ad9) t6.length co42 : Value).ownBlock) u8 x8_1) := ⟨by rw [← hq_];exact (by (with_reducible repeat (first|apply Kd.R_alloc|apply Kd.R_drewN|apply Kd.R_drew));exact HO_8.out)⟩;have n2_ : Aside0 (wr.heap[gb5]? = some (.cells #[.int .i64 t1, .int .i64 t2, .int .i64 t3] 27 (0, 0))) := ⟨by rw [← hq_];exact (by (with_reducible repeat (first|refine blk_drewN ?_ _|refine blk_drew ?_|refine blk_alloc ?_ _));exact BK5.out)⟩;have n3_ : Aside0 (Below w.heap.size w wr) := ⟨by rw [← hq_];exact (by repeat (first|(with_reducible first|exact HB.out|apply below_alloc|apply pw_below_drewN|apply below_drew1|refine below_set ?_ GE5.out)|exact HB.out))⟩;clear HO_7 HO_8 BK5 HB hq_;have HO_7 := n0_;have HO_8 := n1_;have BK5 := n2_;have HB := n3_;clear n0_ n1_ n2_ n3_));have p11 : 0 ≤ (t10 : Int) := of_decide_eq_true (by first|(with_reducible assumption)|assumption);have q11 : t10 < (l0.length : Int) := of_decide_eq_true (by first|(with_reducible assumption)|assumption);obtain ⟨ad11, e11, hx11_0, hx11_1, hx11_2, hx11_3, hx11_4, hx11_5, hx11_6, hx11_7, hx11_8, hx11_9, hx11_10, hx11_11⟩ := at_T31 HR0.out t10 p11 q11;cases e11;replace hx11_0 := (HB.out.cell (World.block_lt_of_cell? w _ hx11_0)).trans hx11_0;replace hx11_1 := (HB.out.cell (World.block_lt_of_cell? w _ hx11_1)).trans hx11_1;replace hx11_2 := (HB.out.cell (World.block_lt_of_cell? w _ hx11_2)).trans hx11_2;replace hx11_3 := (HB.out.cell (World.block_lt_of_cell? w _ hx11_3)).trans hx11_3;replace hx11_4 := (HB.out.cell (World.block_lt_of_cell? w _ hx11_4)).trans hx11_4;replace hx11_5 := (HB.out.cell (World.block_lt_of_cell? w _ hx11_5)).trans hx11_5;replace hx11_6 := (HB.out.cell (World.block_lt_of_cell? w _ hx11_6)).trans hx11_6;replace hx11_7 := (HB.out.cell (World.block_lt_of_cell? w _ hx11_7)).trans hx11_7;replace hx11_8 := (HB.out.cell (World.block_lt_of_cell? w _ hx11_8)).trans hx11_8;replace hx11_9 := (HB.out.cell (World.block_lt_of_cell? w _ hx11_9)).trans hx11_9;replace hx11_10 := (HB.out.cell (World.block_lt_of_cell? w _ hx11_10)).trans hx11_10;replace hx11_11 := (HB.out.cell (World.block_lt_of_cell? w _ hx11_11)).trans hx11_11;replace p11 := eq_true p11;replace q11 := eq_true q11)|((with_reducible refine gate_callee (f := 135) rfl ?_);refine goesL_ (some 35) rfl rfl Try.func135 (by kernel_rfl) rfl #[.agg #[.string ((rd_T31 l0 t10).f0), .string ((rd_T31 l0 t10).f1), .int .i64 ((rd_T31 l0 t10).f2.f0), .int .i64 ((rd_T31 l0 t10).f2.f1), .int .i64 ((rd_T31 l0 t10).f2.f2), .int .i64 ((rd_T31 l0 t10).f3.f0), .int .i64 ((rd_T31 l0 t10).f3.f1), .int .i64 ((rd_T31 l0 t10).f3.f2), .int .i64 ((rd_T31 l0 t10).f4.f0), .int .i64 ((rd_T31 l0 t10).f4.f1), .int .i64 ((rd_T31 l0 t10).f4.f2), .int .i64 ((rd_T31 l0 t10).f5)]] rfl (by (try simp only [List.map_toArray, List.map_cons, List.map_nil]);first|done|rfl|(simp only [List.length_drop, List.length_take];rfl)) ?_;(with_reducible refine (r10_free.calls ((rd_T31 l0 t10).f0) ((rd_T31 l0 t10).f1) ((rd_T31 l0 t10).f2.f0) ((rd_T31 l0 t10).f2.f1) ((rd_T31 l0 t10).f2.f2) ((rd_T31 l0 t10).f3.f0) ((rd_T31 l0 t10).f3.f1) ((rd_T31 l0 t10).f3.f2) ((rd_T31 l0 t10).f4.f0) ((rd_T31 l0 t10).f4.f1) ((rd_T31 l0 t10).f4.f2) ((rd_T31 l0 t10).f5) t12 t13 t14 _ A14.out).mono ?_);rintro e w43 ⟨rfl, hb⟩;refine ⟨_, rfl, ?_⟩;have n0_ := Aside0.mk (Kd.R_below (by (with_reducible repeat (first|apply Kd.R_alloc|apply Kd.R_drewN|apply Kd.R_drew));exact HO_7.out) hb);have n1_ := Aside0.mk (Kd.R_below (by (with_reducible repeat (first|apply Kd.R_alloc|apply Kd.R_drewN|apply Kd.R_drew));exact HO_8.out) hb);have n2_ := Aside0.mk (blk_below (g := gb5) (o := .cells #[.int .i64 t1, .int .i64 t2, .int .i64 t3] 27 (0, 0)) (by (with_reducible repeat (first|refine blk_drewN ?_ _|refine blk_drew ?_|refine blk_alloc ?_ _));exact BK5.out) hb);have n3_ := Aside0.mk (below_step (by repeat (first|(with_reducible first|exact HB.out|apply below_alloc|apply pw_below_drewN|apply below_drew1|refine below_set ?_ GE5.out)|exact HB.out)) hb);clear HO_7;clear HO_8;clear BK5;clear HB;have HO_7 := n0_;have HO_8 := n1_;have BK5 := n2_;have HB := n3_;clear n0_ n1_ n2_ n3_;(try clear hb);(try clear hb2);(try clear hk);(try clear hi))|((with_reducible refine gate_dst (N := 10) rfl ?_);refine box_event ?hg (N := 10) ?hd (cs := #[.int .i64 0, .int .i64 0, .int .i64 0]) (t := 27) ?hr ?_;(case hd => rfl);(case hg => rfl);(case hr => first|(go_simp;done)|(go_simp;rfl));intro gb15 hg w44 hbox hb;have n0_ := Aside0.mk (Kd.R_below (by (with_reducible repeat (first|apply Kd.R_alloc|apply Kd.R_drewN|apply Kd.R_drew));exact HO_7.out) hb);have n1_ := Aside0.mk (Kd.R_below (by (with_reducible repeat (first|apply Kd.R_alloc|apply Kd.R_drewN|apply Kd.R_drew));exact HO_8.out) hb);have n2_ := Aside0.mk (blk_below (g := gb5) (o := .cells #[.int .i64 t1, .int .i64 t2, .int .i64 t3] 27 (0, 0)) (by (with_reducible repeat (first|refine blk_drewN ?_ _|refine blk_drew ?_|refine blk_alloc ?_ _));exact BK5.out) hb);have n3_ := Aside0.mk (below_step (by repeat (first|(with_reducible first|exact HB.out|apply below_alloc|apply pw_below_drewN|apply below_drew1|refine below_set ?_ GE5.out)|exact HB.out)) hb);have n4_ := Aside0.mk (hbox);have n5_ := Aside0.mk ((by rw [hg];exact (below_size (by repeat (first|(with_reducible first|exact HB.out|apply below_alloc|apply pw_below_drewN|apply below_drew1|refine below_set ?_ GE5.out)|exact HB.out))) : w.heap.size ≤ gb15));have n6_ := Aside0.mk ((by rw [hg];exact (below_size (by repeat (first|(with_reducible first|exact HB.out|apply below_alloc|apply pw_below_drewN|apply below_drew1|refine below_set ?_ GE5.out)|exact HB.out))) : w.heap.size ≤ gb15));have n7_ := Aside0.mk ((by rw [hg];exact Nat.ne_of_lt (blk_lt (g := gb5) (o := .cells #[.int .i64 t1, .int .i64 t2, .int .i64 t3] 27 (0, 0)) (by (with_reducible repeat (first|refine blk_drewN ?_ _|refine blk_drew ?_|refine blk_alloc ?_ _));exact BK5.out)) : gb5 ≠ gb15));have n8_ := Aside0.mk ((by rw [hg];exact Nat.ne_of_gt (blk_lt (g := gb5) (o := .cells #[.int .i64 t1, .int .i64 t2, .int .i64 t3] 27 (0, 0)) (by (with_reducible repeat (first|refine blk_drewN ?_ _|refine blk_drew ?_|refine blk_alloc ?_ _));exact BK5.out)) : gb15 ≠ gb5));clear HO_7;clear HO_8;clear BK5;clear HB;have HO_7 := n0_;have HO_8 := n1_;have BK5 := n2_;have HB := n3_;have BK15 := n4_;have GW15 := n5_;have GE15 := n6_;have NB5_15 := n7_;have NB15_5 := n8_;clear n0_ n1_ n2_ n3_ n4_ n5_ n6_ n7_ n8_;clear hb hbox hg;have hnb45 := NB15_5.out;have hnc45 := NB5_15.out;have hcz46_0 : w44.cell? ⟨gb15, 0, none⟩ = some (.int .i64 0) := (blk_cell BK15.out 0).trans rfl;have hcz46_1 : w44.cell? ⟨gb15, 1, none⟩ = some (.int .i64 0) := (blk_cell BK15.out 1).trans rfl;have hcz46_2 : w44.cell? ⟨gb15, 2, none⟩ = some (.int .i64 0) := (blk_cell BK15.out 2).trans rfl;have hfz46_0 := blk_frozen BK15.out 0;have hfz46_1 := blk_frozen BK15.out 1;have hfz46_2 := blk_frozen BK15.out 2;have hcz47_0 : w44.cell? ⟨gb5, 0, none⟩ = some (.int .i64 t1) := (blk_cell BK5.out 0).trans rfl;have hcz47_1 : w44.cell? ⟨gb5, 1, none⟩ = some (.int .i64 t2) := (blk_cell BK5.out 1).trans rfl;have hcz47_2 : w44.cell? ⟨gb5, 2, none⟩ = some (.int .i64 t3) := (blk_cell BK5.out 2).trans rfl;have hfz47_0 := blk_frozen BK5.out 0;have hfz47_1 := blk_frozen BK5.out 1;have hfz47_2 := blk_frozen BK5.out 2))
          go_roundg k1
          case measure => have := HK1.out; omega
          case rel => exact ⟨(x8_1), (wrap64 (x9_1 + 1)), (by first|rfl|(simp;done)|(simp [*];done)), H', ⟨by have := HK1.out;omega⟩, ⟨by (with_reducible repeat (first|apply Kd.R_alloc|apply Kd.R_drewN|apply Kd.R_drew));exact Kd.R_mono (Kd.R_far (p := ⟨gb15, 2, none⟩) (Kd.R_far (p := ⟨gb15, 1, none⟩) (Kd.R_far (p := ⟨gb15, 0, none⟩) (Kd.R_types HO_7.out BK15.out (by decide)) (fun _ hk => hk.2) (.int .i64 t12)) (fun _ hk => hk.2) (.int .i64 t13)) (fun _ hk => hk.2) (.int .i64 t14)) (fun _ hk => hk.1)⟩, ⟨by (with_reducible repeat (first|apply Kd.R_alloc|apply Kd.R_drewN|apply Kd.R_drew));exact Kd.R_mono (Kd.R_far (p := ⟨gb15, 2, none⟩) (Kd.R_far (p := ⟨gb15, 1, none⟩) (Kd.R_far (p := ⟨gb15, 0, none⟩) (Kd.R_types HO_8.out BK15.out (by decide)) (fun _ hk => hk.2) (.int .i64 t12)) (fun _ hk => hk.2) (.int .i64 t13)) (fun _ hk => hk.2) (.int .i64 t14)) (fun _ hk => hk.1)⟩, ⟨by (with_reducible repeat (first|refine blk_drewN ?_ _|refine blk_drew ?_|refine blk_alloc ?_ _));refine blk_far ?_ NB5_15.out _;(with_reducible repeat (first|refine blk_drewN ?_ _|refine blk_drew ?_|refine blk_alloc ?_ _));refine blk_far ?_ NB5_15.out _;(with_reducible repeat (first|refine blk_drewN ?_ _|refine blk_drew ?_|refine blk_alloc ?_ _));refine blk_far ?_ NB5_15.out _;(with_reducible repeat (first|refine blk_drewN ?_ _|refine blk_drew ?_|refine blk_alloc ?_ _));exact BK5.out⟩, ⟨by repeat (first|(with_reducible first|exact HB.out|apply below_alloc|apply pw_below_drewN|apply below_drew1|refine below_set ?_ GE5.out|refine below_set ?_ GE15.out)|exact HB.out)⟩⟩
      ·rw [if_neg c13] at H
       exact absurd H (by simp)
     ·rw [if_neg c12] at H
      exact absurd H (by simp)
    ·rw [if_neg c10] at H
     exact absurd H (by simp)
   ·rw [if_neg c9] at H
    have c9b0 : decide (x9_1 < (t6.length : Int)) = false := decide_eq_false c9
    clear c9
    obtain rfl := Option.some.inj H
    obtain ⟨Ao48, co48, eo48⟩ := Kd.R_slice HO_7.out
    subst eo48
    go_wp2
    go_ret
    exact ⟨_, by first|rfl|(simp [errW_none, errW_some] <;> rfl)|(simp [*, errW_none, errW_some] <;> rfl), by (with_reducible repeat (first|apply Kd.R_alloc|apply Kd.R_drewN|apply Kd.R_drew));exact Kd.R_mono HO_8.out (fun _ hk => trivial), by repeat (first|(with_reducible first|exact HB.out|apply below_alloc|apply pw_below_drewN|apply below_drew1|refine below_set ?_ GE5.out)|exact HB.out)⟩
end Go.Proofs.Ytcgefpklljclgaa.Print

namespace Go.Proofs.Ytcgefpklljclgaa.Print
open Go.RowKit Go.Proofs.YtcgefpklljclgaaW.PrintWords Go.Proofs.YtcgefpklljclgaaW.PrintLast Go.Proofs.YtcgefpklljclgaaW.PrintMore
attribute [local go_sem] max2_int min2_int max_two min_two max_three min_three max_four min_four   -- for this text's walks alone
set_option linter.unusedVariables false
set_option linter.unusedSimpArgs false
/-! ### r10_in: function 136 -/
def r10_in.l0 : Nat → List ByteArray → ByteArray → Int → Option (Bool)
 | 0, _, _, _ => none
 | k + 1, x0, x1, x5 => if x5 < (x0.length : Int) then (if 0 ≤ x5 then (if (rdOf ByteArray.empty x0 x5).toList = x1.toList then (some true) else (r10_in.l0 k x0 x1 (wrap64 (x5 + 1)))) else (none)) else (some false)
def r10_in.f (k : Nat) (l0 : List ByteArray) (a1 : ByteArray) : Option (Bool) := r10_in.l0 k l0 a1 0
theorem r10_in.mono_l : ∀ k, (∀ y0 y1 y2, LeO (r10_in.l0 k y0 y1 y2) (r10_in.l0 (k + 1) y0 y1 y2))
 | 0 => fun _ _ _ r h => by simp [r10_in.l0] at h
 | k + 1 => by
  have ih0 := r10_in.mono_l k
  ·intro y0 y1 y2
   unfold r10_in.l0
   repeat' first
   | (with_reducible exact ih0 _ _ _)
   | (with_reducible exact LeO.refl _)
   | (with_reducible exact LeO.none _)
   | (with_reducible refine LeO.ite ?_ ?_)
   | (with_reducible refine LeO.bind ?_ (fun _ => ?_))
   | exact ih0 _ _ _
   | exact LeO.none _
   | refine LeO.ite ?_ ?_
   | refine LeO.bind ?_ (fun _ => ?_)
theorem r10_in.mono : ∀ a0 a1 k, LeO (r10_in.f k a0 a1) (r10_in.f (k + 1) a0 a1) := by
 intro a0 a1 k
 have ih0 := r10_in.mono_l k
 unfold r10_in.f
 repeat' first
   | (with_reducible exact ih0 _ _ _)
   | (with_reducible exact LeO.refl _)
   | (with_reducible exact LeO.none _)
   | (with_reducible refine LeO.ite ?_ ?_)
   | (with_reducible refine LeO.bind ?_ (fun _ => ?_))
   | exact ih0 _ _ _
   | exact LeO.none _
   | refine LeO.ite ?_ ?_
   | refine LeO.bind ?_ (fun _ => ?_)
set_option maxHeartbeats 8000000 in
set_option maxRecDepth 100000 in
theorem r10_in.calls (k : Nat) (A0 : Option Addr) (c0 : Nat) (l0 : List ByteArray) (a1 : ByteArray) (r : Bool) (w : World) (hr0 : Kd.C Kd.string w A0 l0.length l0) (hc0 : l0.length ≤ c0) (h : r10_in.f k l0 a1 = some r) :
  Calls Try.prog 136 #[.slice A0 l0.length c0, .string a1] w fun e w' => e = .returned (.bool r) ∧ Drawn0 w w' := by
 have HR0 := Aside0.mk hr0
 have HC0 := Aside0.mk hc0
 clear hr0 hc0
 have H : (r10_in.l0 k l0 a1 0) = some r := h
 clear h
 have H' := Aside0.mk H
 clear H
 go_enter Try.func136, Try.ntmps136
 go_wp2
 go_loopg [5] k (fun kq v5 w' => ∃ (x5_1 : Int), v5 = .int .i64 x5_1 ∧ Aside0 (r10_in.l0 kq l0 a1 x5_1 = some r) ∧ Aside0 (kq ≤ k) ∧ Drawn0 w w')
 case atStart => exact ⟨(0), (by first | rfl | (simp; done) | (simp [*]; done)), H', ⟨Nat.le_refl _⟩, by repeat (first | exact Drawn0.refl _ | apply Drawn0.step)⟩
 case round =>
  clear H'
  try clear c1
  try clear p2
  obtain ⟨x5_1, rfl, HA, HK1, ⟨m1, rfl⟩⟩ := hrel
  cases gk with
  | zero => exact absurd HA.out (by simp [r10_in.l0])
  | succ k1 =>
   have H := HA.out
   clear HA
   simp only [r10_in.l0] at H
   by_cases c3 : x5_1 < (l0.length : Int)
   ·rw [if_pos c3] at H
    have c3b0 : decide (x5_1 < (l0.length : Int)) = true := decide_eq_true c3
    clear c3
    by_cases c4 : 0 ≤ x5_1
    ·rw [if_pos c4] at H
     have c4b0 : decide (0 ≤ x5_1) = true := decide_eq_true c4
     clear c4
     by_cases c5 : (rdOf ByteArray.empty l0 x5_1).toList = a1.toList
     ·rw [if_pos c5] at H
      have c5b0 : ((rdOf ByteArray.empty l0 x5_1).toList == a1.toList) = true := beq_iff_eq.mpr c5
      have c5b1 : ((rdOf ByteArray.empty l0 x5_1).toList != a1.toList) = false := bne_eq_false_iff_eq.mpr c5
      clear c5
      obtain rfl := Option.some.inj H
      have p1 : 0 ≤ (x5_1 : Int) := of_decide_eq_true (by first|(with_reducible assumption)|assumption)
      have q1 : x5_1 < (l0.length : Int) := of_decide_eq_true (by first|(with_reducible assumption)|assumption)
      obtain ⟨ad1, e1, hx1_0⟩ := Kd.at_string HR0.out x5_1 p1 q1
      cases e1
      replace p1 := eq_true p1
      replace q1 := eq_true q1
      go_wp2
      go_ret
      exact ⟨by first | rfl | (simp; done) | (simp [*]; done), by repeat (first | exact Drawn0.refl _ | apply Drawn0.step)⟩
     ·rw [if_neg c5] at H
      have c5b0 : ((rdOf ByteArray.empty l0 x5_1).toList == a1.toList) = false := beq_eq_false_iff_ne.mpr c5
      have c5b1 : ((rdOf ByteArray.empty l0 x5_1).toList != a1.toList) = true := bne_iff_ne.mpr c5
      have H' := Aside0.mk H
      clear H
      have p1 : 0 ≤ (x5_1 : Int) := of_decide_eq_true (by first|(with_reducible assumption)|assumption)
      have q1 : x5_1 < (l0.length : Int) := of_decide_eq_true (by first|(with_reducible assumption)|assumption)
      obtain ⟨ad1, e1, hx1_0⟩ := Kd.at_string HR0.out x5_1 p1 q1
      cases e1
      replace p1 := eq_true p1
      replace q1 := eq_true q1
      go_wp2
      go_roundg k1
      case measure => have := HK1.out; omega
      case rel => exact ⟨(wrap64 (x5_1 + 1)), (by first|rfl|(simp;done)|(simp [*];done)), H', ⟨by have := HK1.out;omega⟩, by repeat (first|exact Drawn0.refl _|apply Drawn0.step)⟩
    ·rw [if_neg c4] at H
     exact absurd H (by simp)
   ·rw [if_neg c3] at H
    have c3b0 : decide (x5_1 < (l0.length : Int)) = false := decide_eq_false c3
    clear c3
    obtain rfl := Option.some.inj H
    go_wp2
    go_ret
    exact ⟨by first | rfl | (simp; done) | (simp [*]; done), by repeat (first | exact Drawn0.refl _ | apply Drawn0.step)⟩
end Go.Proofs.Ytcgefpklljclgaa.Print
