/- A part of the proof of TreeMade: the machine's side by the kit's print, contracts and lemmas by this session. -/
import Derived.Shelf.Abstract
import Derived.StillTailTactics
import Derived.Test.YtcgefpklljclgaaBTreeMade1
import Derived.Test.YtcgefpklljclgaaBTreeMade2
namespace Go.Proofs.Ytcgefpklljclgaa.Print
open Go.RowKit Go.Proofs.YtcgefpklljclgaaW.PrintWords Go.Proofs.YtcgefpklljclgaaW.PrintLast Go.Proofs.YtcgefpklljclgaaW.PrintMore
attribute [local go_sem] max2_int min2_int max_two min_two max_three min_three max_four min_four   -- for this text's walks alone
set_option linter.unusedVariables false
set_option linter.unusedSimpArgs false
/-! ### tree_node_may: function 125 -/
def tree_node_may.f (a0_0 : ByteArray) (a0_1 : ByteArray) (a0_2 : Int) (a0_3 : Int) (a0_4 : Int) (a0_5 : Int) (a0_6 : Int) (a0_7 : Int) (a0_8 : Int) (a0_9 : Int) (a0_10 : Int) (a0_11 : Int) (l0_12 : List (S27)) : Option (Bool) := if a0_0.toList = ([] : List UInt8) then (some false) else (if (a0_0.size : Int) ≤ 24 then ((vec_May.f a0_2 a0_3 a0_4).bind fun t2 => (if t2 = true then ((vec_May.f a0_5 a0_6 a0_7).bind fun t3 => (if t3 = true then (if a0_11 ≥ 1 then (some (decide (a0_11 ≤ 9007199254740992))) else (some false)) else (some false))) else (some false))) else (some false))
set_option maxHeartbeats 8000000 in
set_option maxRecDepth 100000 in
theorem tree_node_may.calls (a0_0 : ByteArray) (a0_1 : ByteArray) (a0_2 : Int) (a0_3 : Int) (a0_4 : Int) (a0_5 : Int) (a0_6 : Int) (a0_7 : Int) (a0_8 : Int) (a0_9 : Int) (a0_10 : Int) (a0_11 : Int) (A0_12 : Option Addr) (c0_12 : Nat) (l0_12 : List (S27)) (r : Bool) (w : World) (hr0_12 : Kd.C k27 w A0_12 l0_12.length l0_12) (hc0_12 : l0_12.length ≤ c0_12) (h : tree_node_may.f a0_0 a0_1 a0_2 a0_3 a0_4 a0_5 a0_6 a0_7 a0_8 a0_9 a0_10 a0_11 l0_12 = some r) :
  Calls Try.prog 125 #[.agg #[.string a0_0, .string a0_1, .int .i64 a0_2, .int .i64 a0_3, .int .i64 a0_4, .int .i64 a0_5, .int .i64 a0_6, .int .i64 a0_7, .int .i64 a0_8, .int .i64 a0_9, .int .i64 a0_10, .int .i64 a0_11, .slice A0_12 l0_12.length c0_12]] w fun e w' => e = .returned (.bool r) ∧ Below w.heap.size w w' := by
 have hu159 := Try.underlying159
 have hu27 := Try.underlying27
 have HR0_12 := Aside0.mk hr0_12
 have HC0_12 := Aside0.mk hc0_12
 clear hr0_12 hc0_12
 have HB := Aside0.mk (Below.refl w.heap.size w)
 have H : (if a0_0.toList = ([] : List UInt8) then (some false) else (if (a0_0.size : Int) ≤ 24 then ((vec_May.f a0_2 a0_3 a0_4).bind fun t2 => (if t2 = true then ((vec_May.f a0_5 a0_6 a0_7).bind fun t3 => (if t3 = true then (if a0_11 ≥ 1 then (some (decide (a0_11 ≤ 9007199254740992))) else (some false)) else (some false))) else (some false))) else (some false))) = some r := h
 clear h
 by_cases c2 : a0_0.toList = ([] : List UInt8)
 ·rw [if_pos c2] at H
  have c2b0 : (a0_0.toList == ([] : List UInt8)) = true := beq_iff_eq.mpr c2
  have c2b1 : (a0_0.toList != ([] : List UInt8)) = false := bne_eq_false_iff_eq.mpr c2
  clear c2
  obtain rfl := Option.some.inj H
  go_enter Try.func125, Try.ntmps125
  go_wp2_with (first|((with_reducible refine gate_dst (N := 1) rfl ?_);(try (refine gate_guard (by rfl) ?_;dsimp only));refine box_event ?hg (N := 1) ?hd (cs := #[.string a0_0, .string a0_1, .int .i64 a0_2, .int .i64 a0_3, .int .i64 a0_4, .int .i64 a0_5, .int .i64 a0_6, .int .i64 a0_7, .int .i64 a0_8, .int .i64 a0_9, .int .i64 a0_10, .int .i64 a0_11, .slice A0_12 l0_12.length c0_12]) (t := 159) ?hr ?_;(case hd => rfl);(case hg => rfl);(case hr => first|(go_simp;done)|(go_simp;rfl));intro gb1 hg w3 hbox hb;have n0_ := Aside0.mk (below_step (by repeat (first|(with_reducible first|exact HB.out|apply below_alloc|apply pw_below_drewN|apply below_drew1)|exact HB.out)) hb);have n1_ := Aside0.mk (hbox);have n2_ := Aside0.mk ((by rw [hg];exact (below_size (by repeat (first|(with_reducible first|exact HB.out|apply below_alloc|apply pw_below_drewN|apply below_drew1)|exact HB.out))) : w.heap.size ≤ gb1));have n3_ := Aside0.mk ((by rw [hg];exact (below_size (by repeat (first|(with_reducible first|exact HB.out|apply below_alloc|apply pw_below_drewN|apply below_drew1)|exact HB.out))) : w.heap.size ≤ gb1));clear HB;have HB := n0_;have BK1 := n1_;have GW1 := n2_;have GE1 := n3_;clear n0_ n1_ n2_ n3_;clear hb hbox hg;have hcz4_0 : w3.cell? ⟨gb1, 0, none⟩ = some (.string a0_0) := (blk_cell BK1.out 0).trans rfl;have hcz4_1 : w3.cell? ⟨gb1, 1, none⟩ = some (.string a0_1) := (blk_cell BK1.out 1).trans rfl;have hcz4_2 : w3.cell? ⟨gb1, 2, none⟩ = some (.int .i64 a0_2) := (blk_cell BK1.out 2).trans rfl;have hcz4_3 : w3.cell? ⟨gb1, 3, none⟩ = some (.int .i64 a0_3) := (blk_cell BK1.out 3).trans rfl;have hcz4_4 : w3.cell? ⟨gb1, 4, none⟩ = some (.int .i64 a0_4) := (blk_cell BK1.out 4).trans rfl;have hcz4_5 : w3.cell? ⟨gb1, 5, none⟩ = some (.int .i64 a0_5) := (blk_cell BK1.out 5).trans rfl;have hcz4_6 : w3.cell? ⟨gb1, 6, none⟩ = some (.int .i64 a0_6) := (blk_cell BK1.out 6).trans rfl;have hcz4_7 : w3.cell? ⟨gb1, 7, none⟩ = some (.int .i64 a0_7) := (blk_cell BK1.out 7).trans rfl;have hcz4_8 : w3.cell? ⟨gb1, 8, none⟩ = some (.int .i64 a0_8) := (blk_cell BK1.out 8).trans rfl;have hcz4_9 : w3.cell? ⟨gb1, 9, none⟩ = some (.int .i64 a0_9) := (blk_cell BK1.out 9).trans rfl;have hcz4_10 : w3.cell? ⟨gb1, 10, none⟩ = some (.int .i64 a0_10) := (blk_cell BK1.out 10).trans rfl;have hcz4_11 : w3.cell? ⟨gb1, 11, none⟩ = some (.int .i64 a0_11) := (blk_cell BK1.out 11).trans rfl;have hcz4_12 : w3.cell? ⟨gb1, 12, none⟩ = some (.slice A0_12 l0_12.length c0_12) := (blk_cell BK1.out 12).trans rfl;have hfz4_0 := blk_frozen BK1.out 0;have hfz4_1 := blk_frozen BK1.out 1;have hfz4_2 := blk_frozen BK1.out 2;have hfz4_3 := blk_frozen BK1.out 3;have hfz4_4 := blk_frozen BK1.out 4;have hfz4_5 := blk_frozen BK1.out 5;have hfz4_6 := blk_frozen BK1.out 6;have hfz4_7 := blk_frozen BK1.out 7;have hfz4_8 := blk_frozen BK1.out 8;have hfz4_9 := blk_frozen BK1.out 9;have hfz4_10 := blk_frozen BK1.out 10;have hfz4_11 := blk_frozen BK1.out 11;have hfz4_12 := blk_frozen BK1.out 12))
  go_ret
  exact ⟨by first|rfl|(simp [errW_none, errW_some] <;> rfl)|(simp [*, errW_none, errW_some] <;> rfl), by repeat (first|(with_reducible first|exact HB.out|apply below_alloc|apply pw_below_drewN|apply below_drew1|refine below_set ?_ GE1.out)|exact HB.out)⟩
 ·rw [if_neg c2] at H
  have c2b0 : (a0_0.toList == ([] : List UInt8)) = false := beq_eq_false_iff_ne.mpr c2
  have c2b1 : (a0_0.toList != ([] : List UInt8)) = true := bne_iff_ne.mpr c2
  by_cases c5 : (a0_0.size : Int) ≤ 24
  ·rw [if_pos c5] at H
   have c5b0 : decide ((a0_0.size : Int) ≤ 24) = true := decide_eq_true c5
   have c5b1 : decide (a0_0.size ≤ 24) = true := decide_eq_true (by omega)
   clear c5
   replace H := Option.bind_eq_some_iff.mp H
   obtain ⟨t2, A60, H⟩ := H
   replace H : (if t2 = true then ((vec_May.f a0_5 a0_6 a0_7).bind fun t3 => (if t3 = true then (if a0_11 ≥ 1 then (some (decide (a0_11 ≤ 9007199254740992))) else (some false)) else (some false))) else (some false)) = some r := H
   have A6 := Aside0.mk A60
   clear A60
   by_cases c7 : t2 = true
   ·subst c7
    have H1 : ((vec_May.f a0_5 a0_6 a0_7).bind fun t3 => (if t3 = true then (if a0_11 ≥ 1 then (some (decide (a0_11 ≤ 9007199254740992))) else (some false)) else (some false))) = some r := by rw [if_pos rfl] at H; exact H
    clear H
    have H := H1
    clear H1
    replace H := Option.bind_eq_some_iff.mp H
    obtain ⟨t3, A80, H⟩ := H
    replace H : (if t3 = true then (if a0_11 ≥ 1 then (some (decide (a0_11 ≤ 9007199254740992))) else (some false)) else (some false)) = some r := H
    have A8 := Aside0.mk A80
    clear A80
    by_cases c9 : t3 = true
    ·subst c9
     have H1 : (if a0_11 ≥ 1 then (some (decide (a0_11 ≤ 9007199254740992))) else (some false)) = some r := by rw [if_pos rfl] at H; exact H
     clear H
     have H := H1
     clear H1
     by_cases c10 : a0_11 ≥ 1
     ·rw [if_pos c10] at H
      have c10b0 : decide (1 ≤ a0_11) = true := decide_eq_true c10
      clear c10
      obtain rfl := Option.some.inj H
      go_enter Try.func125, Try.ntmps125
      go_wp2_with (first|((with_reducible refine gate_dst (N := 1) rfl ?_);(try (refine gate_guard (by rfl) ?_;dsimp only));refine box_event ?hg (N := 1) ?hd (cs := #[.string a0_0, .string a0_1, .int .i64 a0_2, .int .i64 a0_3, .int .i64 a0_4, .int .i64 a0_5, .int .i64 a0_6, .int .i64 a0_7, .int .i64 a0_8, .int .i64 a0_9, .int .i64 a0_10, .int .i64 a0_11, .slice A0_12 l0_12.length c0_12]) (t := 159) ?hr ?_;(case hd => rfl);(case hg => rfl);(case hr => first|(go_simp;done)|(go_simp;rfl));intro gb1 hg w11 hbox hb;have n0_ := Aside0.mk (below_step (by repeat (first|(with_reducible first|exact HB.out|apply below_alloc|apply pw_below_drewN|apply below_drew1)|exact HB.out)) hb);have n1_ := Aside0.mk (hbox);have n2_ := Aside0.mk ((by rw [hg];exact (below_size (by repeat (first|(with_reducible first|exact HB.out|apply below_alloc|apply pw_below_drewN|apply below_drew1)|exact HB.out))) : w.heap.size ≤ gb1));have n3_ := Aside0.mk ((by rw [hg];exact (below_size (by repeat (first|(with_reducible first|exact HB.out|apply below_alloc|apply pw_below_drewN|apply below_drew1)|exact HB.out))) : w.heap.size ≤ gb1));clear HB;have HB := n0_;have BK1 := n1_;have GW1 := n2_;have GE1 := n3_;clear n0_ n1_ n2_ n3_;clear hb hbox hg;have hcz12_0 : w11.cell? ⟨gb1, 0, none⟩ = some (.string a0_0) := (blk_cell BK1.out 0).trans rfl;have hcz12_1 : w11.cell? ⟨gb1, 1, none⟩ = some (.string a0_1) := (blk_cell BK1.out 1).trans rfl;have hcz12_2 : w11.cell? ⟨gb1, 2, none⟩ = some (.int .i64 a0_2) := (blk_cell BK1.out 2).trans rfl;have hcz12_3 : w11.cell? ⟨gb1, 3, none⟩ = some (.int .i64 a0_3) := (blk_cell BK1.out 3).trans rfl;have hcz12_4 : w11.cell? ⟨gb1, 4, none⟩ = some (.int .i64 a0_4) := (blk_cell BK1.out 4).trans rfl;have hcz12_5 : w11.cell? ⟨gb1, 5, none⟩ = some (.int .i64 a0_5) := (blk_cell BK1.out 5).trans rfl;have hcz12_6 : w11.cell? ⟨gb1, 6, none⟩ = some (.int .i64 a0_6) := (blk_cell BK1.out 6).trans rfl;have hcz12_7 : w11.cell? ⟨gb1, 7, none⟩ = some (.int .i64 a0_7) := (blk_cell BK1.out 7).trans rfl;have hcz12_8 : w11.cell? ⟨gb1, 8, none⟩ = some (.int .i64 a0_8) := (blk_cell BK1.out 8).trans rfl;have hcz12_9 : w11.cell? ⟨gb1, 9, none⟩ = some (.int .i64 a0_9) := (blk_cell BK1.out 9).trans rfl;have hcz12_10 : w11.cell? ⟨gb1, 10, none⟩ = some (.int .i64 a0_10) := (blk_cell BK1.out 10).trans rfl;have hcz12_11 : w11.cell? ⟨gb1, 11, none⟩ = some (.int .i64 a0_11) := (blk_cell BK1.out 11).trans rfl;have hcz12_12 : w11.cell? ⟨gb1, 12, none⟩ = some (.slice A0_12 l0_12.length c0_12) := (blk_cell BK1.out 12).trans rfl;have hfz12_0 := blk_frozen BK1.out 0;have hfz12_1 := blk_frozen BK1.out 1;have hfz12_2 := blk_frozen BK1.out 2;have hfz12_3 := blk_frozen BK1.out 3;have hfz12_4 := blk_frozen BK1.out 4;have hfz12_5 := blk_frozen BK1.out 5;have hfz12_6 := blk_frozen BK1.out 6;have hfz12_7 := blk_frozen BK1.out 7;have hfz12_8 := blk_frozen BK1.out 8;have hfz12_9 := blk_frozen BK1.out 9;have hfz12_10 := blk_frozen BK1.out 10;have hfz12_11 := blk_frozen BK1.out 11;have hfz12_12 := blk_frozen BK1.out 12)|(go_at_call 115;(with_reducible refine (vec_May.calls a0_2 a0_3 a0_4 true _ A6.out).mono ?_);rintro e w13 ⟨rfl, hb⟩;have n0_ := Aside0.mk (blk_below (g := gb1) (o := .cells #[.string a0_0, .string a0_1, .int .i64 a0_2, .int .i64 a0_3, .int .i64 a0_4, .int .i64 a0_5, .int .i64 a0_6, .int .i64 a0_7, .int .i64 a0_8, .int .i64 a0_9, .int .i64 a0_10, .int .i64 a0_11, .slice A0_12 l0_12.length c0_12] 159 (0, 0)) (by (with_reducible repeat (first|refine blk_drewN ?_ _|refine blk_drew ?_|refine blk_alloc ?_ _));exact BK1.out) hb);have n1_ := Aside0.mk (below_step (by repeat (first|(with_reducible first|exact HB.out|apply below_alloc|apply pw_below_drewN|apply below_drew1|refine below_set ?_ GE1.out)|exact HB.out)) hb);clear BK1;clear HB;have BK1 := n0_;have HB := n1_;clear n0_ n1_;(try clear hb);(try clear hb2);(try clear hk);(try clear hi);have hcz14_0 : w13.cell? ⟨gb1, 0, none⟩ = some (.string a0_0) := (blk_cell BK1.out 0).trans rfl;have hcz14_1 : w13.cell? ⟨gb1, 1, none⟩ = some (.string a0_1) := (blk_cell BK1.out 1).trans rfl;have hcz14_2 : w13.cell? ⟨gb1, 2, none⟩ = some (.int .i64 a0_2) := (blk_cell BK1.out 2).trans rfl;have hcz14_3 : w13.cell? ⟨gb1, 3, none⟩ = some (.int .i64 a0_3) := (blk_cell BK1.out 3).trans rfl;have hcz14_4 : w13.cell? ⟨gb1, 4, none⟩ = some (.int .i64 a0_4) := (blk_cell BK1.out 4).trans rfl;have hcz14_5 : w13.cell? ⟨gb1, 5, none⟩ = some (.int .i64 a0_5) := (blk_cell BK1.out 5).trans rfl;have hcz14_6 : w13.cell? ⟨gb1, 6, none⟩ = some (.int .i64 a0_6) := (blk_cell BK1.out 6).trans rfl;have hcz14_7 : w13.cell? ⟨gb1, 7, none⟩ = some (.int .i64 a0_7) := (blk_cell BK1.out 7).trans rfl;have hcz14_8 : w13.cell? ⟨gb1, 8, none⟩ = some (.int .i64 a0_8) := (blk_cell BK1.out 8).trans rfl;have hcz14_9 : w13.cell? ⟨gb1, 9, none⟩ = some (.int .i64 a0_9) := (blk_cell BK1.out 9).trans rfl;have hcz14_10 : w13.cell? ⟨gb1, 10, none⟩ = some (.int .i64 a0_10) := (blk_cell BK1.out 10).trans rfl;have hcz14_11 : w13.cell? ⟨gb1, 11, none⟩ = some (.int .i64 a0_11) := (blk_cell BK1.out 11).trans rfl;have hcz14_12 : w13.cell? ⟨gb1, 12, none⟩ = some (.slice A0_12 l0_12.length c0_12) := (blk_cell BK1.out 12).trans rfl;have hfz14_0 := blk_frozen BK1.out 0;have hfz14_1 := blk_frozen BK1.out 1;have hfz14_2 := blk_frozen BK1.out 2;have hfz14_3 := blk_frozen BK1.out 3;have hfz14_4 := blk_frozen BK1.out 4;have hfz14_5 := blk_frozen BK1.out 5;have hfz14_6 := blk_frozen BK1.out 6;have hfz14_7 := blk_frozen BK1.out 7;have hfz14_8 := blk_frozen BK1.out 8;have hfz14_9 := blk_frozen BK1.out 9;have hfz14_10 := blk_frozen BK1.out 10;have hfz14_11 := blk_frozen BK1.out 11;have hfz14_12 := blk_frozen BK1.out 12)|(go_at_call 115;(with_reducible refine (vec_May.calls a0_5 a0_6 a0_7 true _ A8.out).mono ?_);rintro e w15 ⟨rfl, hb⟩;have n0_ := Aside0.mk (blk_below (g := gb1) (o := .cells #[.string a0_0, .string a0_1, .int .i64 a0_2, .int .i64 a0_3, .int .i64 a0_4, .int .i64 a0_5, .int .i64 a0_6, .int .i64 a0_7, .int .i64 a0_8, .int .i64 a0_9, .int .i64 a0_10, .int .i64 a0_11, .slice A0_12 l0_12.length c0_12] 159 (0, 0)) (by (with_reducible repeat (first|refine blk_drewN ?_ _|refine blk_drew ?_|refine blk_alloc ?_ _));exact BK1.out) hb);have n1_ := Aside0.mk (below_step (by repeat (first|(with_reducible first|exact HB.out|apply below_alloc|apply pw_below_drewN|apply below_drew1|refine below_set ?_ GE1.out)|exact HB.out)) hb);clear BK1;clear HB;have BK1 := n0_;have HB := n1_;clear n0_ n1_;(try clear hb);(try clear hb2);(try clear hk);(try clear hi);have hcz16_0 : w15.cell? ⟨gb1, 0, none⟩ = some (.string a0_0) := (blk_cell BK1.out 0).trans rfl;have hcz16_1 : w15.cell? ⟨gb1, 1, none⟩ = some (.string a0_1) := (blk_cell BK1.out 1).trans rfl;have hcz16_2 : w15.cell? ⟨gb1, 2, none⟩ = some (.int .i64 a0_2) := (blk_cell BK1.out 2).trans rfl;have hcz16_3 : w15.cell? ⟨gb1, 3, none⟩ = some (.int .i64 a0_3) := (blk_cell BK1.out 3).trans rfl;have hcz16_4 : w15.cell? ⟨gb1, 4, none⟩ = some (.int .i64 a0_4) := (blk_cell BK1.out 4).trans rfl;have hcz16_5 : w15.cell? ⟨gb1, 5, none⟩ = some (.int .i64 a0_5) := (blk_cell BK1.out 5).trans rfl;have hcz16_6 : w15.cell? ⟨gb1, 6, none⟩ = some (.int .i64 a0_6) := (blk_cell BK1.out 6).trans rfl;have hcz16_7 : w15.cell? ⟨gb1, 7, none⟩ = some (.int .i64 a0_7) := (blk_cell BK1.out 7).trans rfl;have hcz16_8 : w15.cell? ⟨gb1, 8, none⟩ = some (.int .i64 a0_8) := (blk_cell BK1.out 8).trans rfl;have hcz16_9 : w15.cell? ⟨gb1, 9, none⟩ = some (.int .i64 a0_9) := (blk_cell BK1.out 9).trans rfl;have hcz16_10 : w15.cell? ⟨gb1, 10, none⟩ = some (.int .i64 a0_10) := (blk_cell BK1.out 10).trans rfl;have hcz16_11 : w15.cell? ⟨gb1, 11, none⟩ = some (.int .i64 a0_11) := (blk_cell BK1.out 11).trans rfl;have hcz16_12 : w15.cell? ⟨gb1, 12, none⟩ = some (.slice A0_12 l0_12.length c0_12) := (blk_cell BK1.out 12).trans rfl;have hfz16_0 := blk_frozen BK1.out 0;have hfz16_1 := blk_frozen BK1.out 1;have hfz16_2 := blk_frozen BK1.out 2;have hfz16_3 := blk_frozen BK1.out 3;have hfz16_4 := blk_frozen BK1.out 4;have hfz16_5 := blk_frozen BK1.out 5;have hfz16_6 := blk_frozen BK1.out 6;have hfz16_7 := blk_frozen BK1.out 7;have hfz16_8 := blk_frozen BK1.out 8;have hfz16_9 := blk_frozen BK1.out 9;have hfz16_10 := blk_frozen BK1.out 10;have hfz16_11 := blk_frozen BK1.out 11;have hfz16_12 := blk_frozen BK1.out 12))
      go_ret
      exact ⟨by first|rfl|(simp [errW_none, errW_some] <;> rfl)|(simp [*, errW_none, errW_some] <;> rfl), by repeat (first|(with_reducible first|exact HB.out|apply below_alloc|apply pw_below_drewN|apply below_drew1|refine below_set ?_ GE1.out)|exact HB.out)⟩
     ·rw [if_neg c10] at H
      have c10b0 : decide (1 ≤ a0_11) = false := decide_eq_false c10
      clear c10
      obtain rfl := Option.some.inj H
      go_enter Try.func125, Try.ntmps125
      go_wp2_with (first|((with_reducible refine gate_dst (N := 1) rfl ?_);(try (refine gate_guard (by rfl) ?_;dsimp only));refine box_event ?hg (N := 1) ?hd (cs := #[.string a0_0, .string a0_1, .int .i64 a0_2, .int .i64 a0_3, .int .i64 a0_4, .int .i64 a0_5, .int .i64 a0_6, .int .i64 a0_7, .int .i64 a0_8, .int .i64 a0_9, .int .i64 a0_10, .int .i64 a0_11, .slice A0_12 l0_12.length c0_12]) (t := 159) ?hr ?_;(case hd => rfl);(case hg => rfl);(case hr => first|(go_simp;done)|(go_simp;rfl));intro gb1 hg w17 hbox hb;have n0_ := Aside0.mk (below_step (by repeat (first|(with_reducible first|exact HB.out|apply below_alloc|apply pw_below_drewN|apply below_drew1)|exact HB.out)) hb);have n1_ := Aside0.mk (hbox);have n2_ := Aside0.mk ((by rw [hg];exact (below_size (by repeat (first|(with_reducible first|exact HB.out|apply below_alloc|apply pw_below_drewN|apply below_drew1)|exact HB.out))) : w.heap.size ≤ gb1));have n3_ := Aside0.mk ((by rw [hg];exact (below_size (by repeat (first|(with_reducible first|exact HB.out|apply below_alloc|apply pw_below_drewN|apply below_drew1)|exact HB.out))) : w.heap.size ≤ gb1));clear HB;have HB := n0_;have BK1 := n1_;have GW1 := n2_;have GE1 := n3_;clear n0_ n1_ n2_ n3_;clear hb hbox hg;have hcz18_0 : w17.cell? ⟨gb1, 0, none⟩ = some (.string a0_0) := (blk_cell BK1.out 0).trans rfl;have hcz18_1 : w17.cell? ⟨gb1, 1, none⟩ = some (.string a0_1) := (blk_cell BK1.out 1).trans rfl;have hcz18_2 : w17.cell? ⟨gb1, 2, none⟩ = some (.int .i64 a0_2) := (blk_cell BK1.out 2).trans rfl;have hcz18_3 : w17.cell? ⟨gb1, 3, none⟩ = some (.int .i64 a0_3) := (blk_cell BK1.out 3).trans rfl;have hcz18_4 : w17.cell? ⟨gb1, 4, none⟩ = some (.int .i64 a0_4) := (blk_cell BK1.out 4).trans rfl;have hcz18_5 : w17.cell? ⟨gb1, 5, none⟩ = some (.int .i64 a0_5) := (blk_cell BK1.out 5).trans rfl;have hcz18_6 : w17.cell? ⟨gb1, 6, none⟩ = some (.int .i64 a0_6) := (blk_cell BK1.out 6).trans rfl;have hcz18_7 : w17.cell? ⟨gb1, 7, none⟩ = some (.int .i64 a0_7) := (blk_cell BK1.out 7).trans rfl;have hcz18_8 : w17.cell? ⟨gb1, 8, none⟩ = some (.int .i64 a0_8) := (blk_cell BK1.out 8).trans rfl;have hcz18_9 : w17.cell? ⟨gb1, 9, none⟩ = some (.int .i64 a0_9) := (blk_cell BK1.out 9).trans rfl;have hcz18_10 : w17.cell? ⟨gb1, 10, none⟩ = some (.int .i64 a0_10) := (blk_cell BK1.out 10).trans rfl;have hcz18_11 : w17.cell? ⟨gb1, 11, none⟩ = some (.int .i64 a0_11) := (blk_cell BK1.out 11).trans rfl;have hcz18_12 : w17.cell? ⟨gb1, 12, none⟩ = some (.slice A0_12 l0_12.length c0_12) := (blk_cell BK1.out 12).trans rfl;have hfz18_0 := blk_frozen BK1.out 0;have hfz18_1 := blk_frozen BK1.out 1;have hfz18_2 := blk_frozen BK1.out 2;have hfz18_3 := blk_frozen BK1.out 3;have hfz18_4 := blk_frozen BK1.out 4;have hfz18_5 := blk_frozen BK1.out 5;have hfz18_6 := blk_frozen BK1.out 6;have hfz18_7 := blk_frozen BK1.out 7;have hfz18_8 := blk_frozen BK1.out 8;have hfz18_9 := blk_frozen BK1.out 9;have hfz18_10 := blk_frozen BK1.out 10;have hfz18_11 := blk_frozen BK1.out 11;have hfz18_12 := blk_frozen BK1.out 12)|(go_at_call 115;(with_reducible refine (vec_May.calls a0_2 a0_3 a0_4 true _ A6.out).mono ?_);rintro e w19 ⟨rfl, hb⟩;have n0_ := Aside0.mk (blk_below (g := gb1) (o := .cells #[.string a0_0, .string a0_1, .int .i64 a0_2, .int .i64 a0_3, .int .i64 a0_4, .int .i64 a0_5, .int .i64 a0_6, .int .i64 a0_7, .int .i64 a0_8, .int .i64 a0_9, .int .i64 a0_10, .int .i64 a0_11, .slice A0_12 l0_12.length c0_12] 159 (0, 0)) (by (with_reducible repeat (first|refine blk_drewN ?_ _|refine blk_drew ?_|refine blk_alloc ?_ _));exact BK1.out) hb);have n1_ := Aside0.mk (below_step (by repeat (first|(with_reducible first|exact HB.out|apply below_alloc|apply pw_below_drewN|apply below_drew1|refine below_set ?_ GE1.out)|exact HB.out)) hb);clear BK1;clear HB;have BK1 := n0_;have HB := n1_;clear n0_ n1_;(try clear hb);(try clear hb2);(try clear hk);(try clear hi);have hcz20_0 : w19.cell? ⟨gb1, 0, none⟩ = some (.string a0_0) := (blk_cell BK1.out 0).trans rfl;have hcz20_1 : w19.cell? ⟨gb1, 1, none⟩ = some (.string a0_1) := (blk_cell BK1.out 1).trans rfl;have hcz20_2 : w19.cell? ⟨gb1, 2, none⟩ = some (.int .i64 a0_2) := (blk_cell BK1.out 2).trans rfl;have hcz20_3 : w19.cell? ⟨gb1, 3, none⟩ = some (.int .i64 a0_3) := (blk_cell BK1.out 3).trans rfl;have hcz20_4 : w19.cell? ⟨gb1, 4, none⟩ = some (.int .i64 a0_4) := (blk_cell BK1.out 4).trans rfl;have hcz20_5 : w19.cell? ⟨gb1, 5, none⟩ = some (.int .i64 a0_5) := (blk_cell BK1.out 5).trans rfl;have hcz20_6 : w19.cell? ⟨gb1, 6, none⟩ = some (.int .i64 a0_6) := (blk_cell BK1.out 6).trans rfl;have hcz20_7 : w19.cell? ⟨gb1, 7, none⟩ = some (.int .i64 a0_7) := (blk_cell BK1.out 7).trans rfl;have hcz20_8 : w19.cell? ⟨gb1, 8, none⟩ = some (.int .i64 a0_8) := (blk_cell BK1.out 8).trans rfl;have hcz20_9 : w19.cell? ⟨gb1, 9, none⟩ = some (.int .i64 a0_9) := (blk_cell BK1.out 9).trans rfl;have hcz20_10 : w19.cell? ⟨gb1, 10, none⟩ = some (.int .i64 a0_10) := (blk_cell BK1.out 10).trans rfl;have hcz20_11 : w19.cell? ⟨gb1, 11, none⟩ = some (.int .i64 a0_11) := (blk_cell BK1.out 11).trans rfl;have hcz20_12 : w19.cell? ⟨gb1, 12, none⟩ = some (.slice A0_12 l0_12.length c0_12) := (blk_cell BK1.out 12).trans rfl;have hfz20_0 := blk_frozen BK1.out 0;have hfz20_1 := blk_frozen BK1.out 1;have hfz20_2 := blk_frozen BK1.out 2;have hfz20_3 := blk_frozen BK1.out 3;have hfz20_4 := blk_frozen BK1.out 4;have hfz20_5 := blk_frozen BK1.out 5;have hfz20_6 := blk_frozen BK1.out 6;have hfz20_7 := blk_frozen BK1.out 7;have hfz20_8 := blk_frozen BK1.out 8;have hfz20_9 := blk_frozen BK1.out 9;have hfz20_10 := blk_frozen BK1.out 10;have hfz20_11 := blk_frozen BK1.out 11;have hfz20_12 := blk_frozen BK1.out 12)|(go_at_call 115;(with_reducible refine (vec_May.calls a0_5 a0_6 a0_7 true _ A8.out).mono ?_);rintro e w21 ⟨rfl, hb⟩;have n0_ := Aside0.mk (blk_below (g := gb1) (o := .cells #[.string a0_0, .string a0_1, .int .i64 a0_2, .int .i64 a0_3, .int .i64 a0_4, .int .i64 a0_5, .int .i64 a0_6, .int .i64 a0_7, .int .i64 a0_8, .int .i64 a0_9, .int .i64 a0_10, .int .i64 a0_11, .slice A0_12 l0_12.length c0_12] 159 (0, 0)) (by (with_reducible repeat (first|refine blk_drewN ?_ _|refine blk_drew ?_|refine blk_alloc ?_ _));exact BK1.out) hb);have n1_ := Aside0.mk (below_step (by repeat (first|(with_reducible first|exact HB.out|apply below_alloc|apply pw_below_drewN|apply below_drew1|refine below_set ?_ GE1.out)|exact HB.out)) hb);clear BK1;clear HB;have BK1 := n0_;have HB := n1_;clear n0_ n1_;(try clear hb);(try clear hb2);(try clear hk);(try clear hi);have hcz22_0 : w21.cell? ⟨gb1, 0, none⟩ = some (.string a0_0) := (blk_cell BK1.out 0).trans rfl;have hcz22_1 : w21.cell? ⟨gb1, 1, none⟩ = some (.string a0_1) := (blk_cell BK1.out 1).trans rfl;have hcz22_2 : w21.cell? ⟨gb1, 2, none⟩ = some (.int .i64 a0_2) := (blk_cell BK1.out 2).trans rfl;have hcz22_3 : w21.cell? ⟨gb1, 3, none⟩ = some (.int .i64 a0_3) := (blk_cell BK1.out 3).trans rfl;have hcz22_4 : w21.cell? ⟨gb1, 4, none⟩ = some (.int .i64 a0_4) := (blk_cell BK1.out 4).trans rfl;have hcz22_5 : w21.cell? ⟨gb1, 5, none⟩ = some (.int .i64 a0_5) := (blk_cell BK1.out 5).trans rfl;have hcz22_6 : w21.cell? ⟨gb1, 6, none⟩ = some (.int .i64 a0_6) := (blk_cell BK1.out 6).trans rfl;have hcz22_7 : w21.cell? ⟨gb1, 7, none⟩ = some (.int .i64 a0_7) := (blk_cell BK1.out 7).trans rfl;have hcz22_8 : w21.cell? ⟨gb1, 8, none⟩ = some (.int .i64 a0_8) := (blk_cell BK1.out 8).trans rfl;have hcz22_9 : w21.cell? ⟨gb1, 9, none⟩ = some (.int .i64 a0_9) := (blk_cell BK1.out 9).trans rfl;have hcz22_10 : w21.cell? ⟨gb1, 10, none⟩ = some (.int .i64 a0_10) := (blk_cell BK1.out 10).trans rfl;have hcz22_11 : w21.cell? ⟨gb1, 11, none⟩ = some (.int .i64 a0_11) := (blk_cell BK1.out 11).trans rfl;have hcz22_12 : w21.cell? ⟨gb1, 12, none⟩ = some (.slice A0_12 l0_12.length c0_12) := (blk_cell BK1.out 12).trans rfl;have hfz22_0 := blk_frozen BK1.out 0;have hfz22_1 := blk_frozen BK1.out 1;have hfz22_2 := blk_frozen BK1.out 2;have hfz22_3 := blk_frozen BK1.out 3;have hfz22_4 := blk_frozen BK1.out 4;have hfz22_5 := blk_frozen BK1.out 5;have hfz22_6 := blk_frozen BK1.out 6;have hfz22_7 := blk_frozen BK1.out 7;have hfz22_8 := blk_frozen BK1.out 8;have hfz22_9 := blk_frozen BK1.out 9;have hfz22_10 := blk_frozen BK1.out 10;have hfz22_11 := blk_frozen BK1.out 11;have hfz22_12 := blk_frozen BK1.out 12))
      go_ret
      exact ⟨by first|rfl|(simp [errW_none, errW_some] <;> rfl)|(simp [*, errW_none, errW_some] <;> rfl), by repeat (first|(with_reducible first|exact HB.out|apply below_alloc|apply pw_below_drewN|apply below_drew1|refine below_set ?_ GE1.out)|exact HB.out)⟩
    ·replace c9 := Bool.eq_false_iff.mpr c9
     subst c9
     have H1 : (some false) = some r := by rw [if_neg (show ¬ (false = true) by decide)] at H; exact H
     clear H
     have H := H1
     clear H1
     obtain rfl := Option.some.inj H
     go_enter Try.func125, Try.ntmps125
     go_wp2_with (first|((with_reducible refine gate_dst (N := 1) rfl ?_);(try (refine gate_guard (by rfl) ?_;dsimp only));refine box_event ?hg (N := 1) ?hd (cs := #[.string a0_0, .string a0_1, .int .i64 a0_2, .int .i64 a0_3, .int .i64 a0_4, .int .i64 a0_5, .int .i64 a0_6, .int .i64 a0_7, .int .i64 a0_8, .int .i64 a0_9, .int .i64 a0_10, .int .i64 a0_11, .slice A0_12 l0_12.length c0_12]) (t := 159) ?hr ?_;(case hd => rfl);(case hg => rfl);(case hr => first|(go_simp;done)|(go_simp;rfl));intro gb1 hg w23 hbox hb;have n0_ := Aside0.mk (below_step (by repeat (first|(with_reducible first|exact HB.out|apply below_alloc|apply pw_below_drewN|apply below_drew1)|exact HB.out)) hb);have n1_ := Aside0.mk (hbox);have n2_ := Aside0.mk ((by rw [hg];exact (below_size (by repeat (first|(with_reducible first|exact HB.out|apply below_alloc|apply pw_below_drewN|apply below_drew1)|exact HB.out))) : w.heap.size ≤ gb1));have n3_ := Aside0.mk ((by rw [hg];exact (below_size (by repeat (first|(with_reducible first|exact HB.out|apply below_alloc|apply pw_below_drewN|apply below_drew1)|exact HB.out))) : w.heap.size ≤ gb1));clear HB;have HB := n0_;have BK1 := n1_;have GW1 := n2_;have GE1 := n3_;clear n0_ n1_ n2_ n3_;clear hb hbox hg;have hcz24_0 : w23.cell? ⟨gb1, 0, none⟩ = some (.string a0_0) := (blk_cell BK1.out 0).trans rfl;have hcz24_1 : w23.cell? ⟨gb1, 1, none⟩ = some (.string a0_1) := (blk_cell BK1.out 1).trans rfl;have hcz24_2 : w23.cell? ⟨gb1, 2, none⟩ = some (.int .i64 a0_2) := (blk_cell BK1.out 2).trans rfl;have hcz24_3 : w23.cell? ⟨gb1, 3, none⟩ = some (.int .i64 a0_3) := (blk_cell BK1.out 3).trans rfl;have hcz24_4 : w23.cell? ⟨gb1, 4, none⟩ = some (.int .i64 a0_4) := (blk_cell BK1.out 4).trans rfl;have hcz24_5 : w23.cell? ⟨gb1, 5, none⟩ = some (.int .i64 a0_5) := (blk_cell BK1.out 5).trans rfl;have hcz24_6 : w23.cell? ⟨gb1, 6, none⟩ = some (.int .i64 a0_6) := (blk_cell BK1.out 6).trans rfl;have hcz24_7 : w23.cell? ⟨gb1, 7, none⟩ = some (.int .i64 a0_7) := (blk_cell BK1.out 7).trans rfl;have hcz24_8 : w23.cell? ⟨gb1, 8, none⟩ = some (.int .i64 a0_8) := (blk_cell BK1.out 8).trans rfl;have hcz24_9 : w23.cell? ⟨gb1, 9, none⟩ = some (.int .i64 a0_9) := (blk_cell BK1.out 9).trans rfl;have hcz24_10 : w23.cell? ⟨gb1, 10, none⟩ = some (.int .i64 a0_10) := (blk_cell BK1.out 10).trans rfl;have hcz24_11 : w23.cell? ⟨gb1, 11, none⟩ = some (.int .i64 a0_11) := (blk_cell BK1.out 11).trans rfl;have hcz24_12 : w23.cell? ⟨gb1, 12, none⟩ = some (.slice A0_12 l0_12.length c0_12) := (blk_cell BK1.out 12).trans rfl;have hfz24_0 := blk_frozen BK1.out 0;have hfz24_1 := blk_frozen BK1.out 1;have hfz24_2 := blk_frozen BK1.out 2;have hfz24_3 := blk_frozen BK1.out 3;have hfz24_4 := blk_frozen BK1.out 4;have hfz24_5 := blk_frozen BK1.out 5;have hfz24_6 := blk_frozen BK1.out 6;have hfz24_7 := blk_frozen BK1.out 7;have hfz24_8 := blk_frozen BK1.out 8;have hfz24_9 := blk_frozen BK1.out 9;have hfz24_10 := blk_frozen BK1.out 10;have hfz24_11 := blk_frozen BK1.out 11;have hfz24_12 := blk_frozen BK1.out 12)|(go_at_call 115;(with_reducible refine (vec_May.calls a0_2 a0_3 a0_4 true _ A6.out).mono ?_);rintro e w25 ⟨rfl, hb⟩;have n0_ := Aside0.mk (blk_below (g := gb1) (o := .cells #[.string a0_0, .string a0_1, .int .i64 a0_2, .int .i64 a0_3, .int .i64 a0_4, .int .i64 a0_5, .int .i64 a0_6, .int .i64 a0_7, .int .i64 a0_8, .int .i64 a0_9, .int .i64 a0_10, .int .i64 a0_11, .slice A0_12 l0_12.length c0_12] 159 (0, 0)) (by (with_reducible repeat (first|refine blk_drewN ?_ _|refine blk_drew ?_|refine blk_alloc ?_ _));exact BK1.out) hb);have n1_ := Aside0.mk (below_step (by repeat (first|(with_reducible first|exact HB.out|apply below_alloc|apply pw_below_drewN|apply below_drew1|refine below_set ?_ GE1.out)|exact HB.out)) hb);clear BK1;clear HB;have BK1 := n0_;have HB := n1_;clear n0_ n1_;(try clear hb);(try clear hb2);(try clear hk);(try clear hi);have hcz26_0 : w25.cell? ⟨gb1, 0, none⟩ = some (.string a0_0) := (blk_cell BK1.out 0).trans rfl;have hcz26_1 : w25.cell? ⟨gb1, 1, none⟩ = some (.string a0_1) := (blk_cell BK1.out 1).trans rfl;have hcz26_2 : w25.cell? ⟨gb1, 2, none⟩ = some (.int .i64 a0_2) := (blk_cell BK1.out 2).trans rfl;have hcz26_3 : w25.cell? ⟨gb1, 3, none⟩ = some (.int .i64 a0_3) := (blk_cell BK1.out 3).trans rfl;have hcz26_4 : w25.cell? ⟨gb1, 4, none⟩ = some (.int .i64 a0_4) := (blk_cell BK1.out 4).trans rfl;have hcz26_5 : w25.cell? ⟨gb1, 5, none⟩ = some (.int .i64 a0_5) := (blk_cell BK1.out 5).trans rfl;have hcz26_6 : w25.cell? ⟨gb1, 6, none⟩ = some (.int .i64 a0_6) := (blk_cell BK1.out 6).trans rfl;have hcz26_7 : w25.cell? ⟨gb1, 7, none⟩ = some (.int .i64 a0_7) := (blk_cell BK1.out 7).trans rfl;have hcz26_8 : w25.cell? ⟨gb1, 8, none⟩ = some (.int .i64 a0_8) := (blk_cell BK1.out 8).trans rfl;have hcz26_9 : w25.cell? ⟨gb1, 9, none⟩ = some (.int .i64 a0_9) := (blk_cell BK1.out 9).trans rfl;have hcz26_10 : w25.cell? ⟨gb1, 10, none⟩ = some (.int .i64 a0_10) := (blk_cell BK1.out 10).trans rfl;have hcz26_11 : w25.cell? ⟨gb1, 11, none⟩ = some (.int .i64 a0_11) := (blk_cell BK1.out 11).trans rfl;have hcz26_12 : w25.cell? ⟨gb1, 12, none⟩ = some (.slice A0_12 l0_12.length c0_12) := (blk_cell BK1.out 12).trans rfl;have hfz26_0 := blk_frozen BK1.out 0;have hfz26_1 := blk_frozen BK1.out 1;have hfz26_2 := blk_frozen BK1.out 2;have hfz26_3 := blk_frozen BK1.out 3;have hfz26_4 := blk_frozen BK1.out 4;have hfz26_5 := blk_frozen BK1.out 5;have hfz26_6 := blk_frozen BK1.out 6;have hfz26_7 := blk_frozen BK1.out 7;have hfz26_8 := blk_frozen BK1.out 8;have hfz26_9 := blk_frozen BK1.out 9;have hfz26_10 := blk_frozen BK1.out 10;have hfz26_11 := blk_frozen BK1.out 11;have hfz26_12 := blk_frozen BK1.out 12)|(go_at_call 115;(with_reducible refine (vec_May.calls a0_5 a0_6 a0_7 false _ A8.out).mono ?_);rintro e w27 ⟨rfl, hb⟩;have n0_ := Aside0.mk (blk_below (g := gb1) (o := .cells #[.string a0_0, .string a0_1, .int .i64 a0_2, .int .i64 a0_3, .int .i64 a0_4, .int .i64 a0_5, .int .i64 a0_6, .int .i64 a0_7, .int .i64 a0_8, .int .i64 a0_9, .int .i64 a0_10, .int .i64 a0_11, .slice A0_12 l0_12.length c0_12] 159 (0, 0)) (by (with_reducible repeat (first|refine blk_drewN ?_ _|refine blk_drew ?_|refine blk_alloc ?_ _));exact BK1.out) hb);have n1_ := Aside0.mk (below_step (by repeat (first|(with_reducible first|exact HB.out|apply below_alloc|apply pw_below_drewN|apply below_drew1|refine below_set ?_ GE1.out)|exact HB.out)) hb);clear BK1;clear HB;have BK1 := n0_;have HB := n1_;clear n0_ n1_;(try clear hb);(try clear hb2);(try clear hk);(try clear hi)))
     go_ret
     exact ⟨by first|rfl|(simp [errW_none, errW_some] <;> rfl)|(simp [*, errW_none, errW_some] <;> rfl), by repeat (first|(with_reducible first|exact HB.out|apply below_alloc|apply pw_below_drewN|apply below_drew1|refine below_set ?_ GE1.out)|exact HB.out)⟩
   ·replace c7 := Bool.eq_false_iff.mpr c7
    subst c7
    have H1 : (some false) = some r := by rw [if_neg (show ¬ (false = true) by decide)] at H; exact H
    clear H
    have H := H1
    clear H1
    obtain rfl := Option.some.inj H
    go_enter Try.func125, Try.ntmps125
    go_wp2_with (first|((with_reducible refine gate_dst (N := 1) rfl ?_);(try (refine gate_guard (by rfl) ?_;dsimp only));refine box_event ?hg (N := 1) ?hd (cs := #[.string a0_0, .string a0_1, .int .i64 a0_2, .int .i64 a0_3, .int .i64 a0_4, .int .i64 a0_5, .int .i64 a0_6, .int .i64 a0_7, .int .i64 a0_8, .int .i64 a0_9, .int .i64 a0_10, .int .i64 a0_11, .slice A0_12 l0_12.length c0_12]) (t := 159) ?hr ?_;(case hd => rfl);(case hg => rfl);(case hr => first|(go_simp;done)|(go_simp;rfl));intro gb1 hg w28 hbox hb;have n0_ := Aside0.mk (below_step (by repeat (first|(with_reducible first|exact HB.out|apply below_alloc|apply pw_below_drewN|apply below_drew1)|exact HB.out)) hb);have n1_ := Aside0.mk (hbox);have n2_ := Aside0.mk ((by rw [hg];exact (below_size (by repeat (first|(with_reducible first|exact HB.out|apply below_alloc|apply pw_below_drewN|apply below_drew1)|exact HB.out))) : w.heap.size ≤ gb1));have n3_ := Aside0.mk ((by rw [hg];exact (below_size (by repeat (first|(with_reducible first|exact HB.out|apply below_alloc|apply pw_below_drewN|apply below_drew1)|exact HB.out))) : w.heap.size ≤ gb1));clear HB;have HB := n0_;have BK1 := n1_;have GW1 := n2_;have GE1 := n3_;clear n0_ n1_ n2_ n3_;clear hb hbox hg;have hcz29_0 : w28.cell? ⟨gb1, 0, none⟩ = some (.string a0_0) := (blk_cell BK1.out 0).trans rfl;have hcz29_1 : w28.cell? ⟨gb1, 1, none⟩ = some (.string a0_1) := (blk_cell BK1.out 1).trans rfl;have hcz29_2 : w28.cell? ⟨gb1, 2, none⟩ = some (.int .i64 a0_2) := (blk_cell BK1.out 2).trans rfl;have hcz29_3 : w28.cell? ⟨gb1, 3, none⟩ = some (.int .i64 a0_3) := (blk_cell BK1.out 3).trans rfl;have hcz29_4 : w28.cell? ⟨gb1, 4, none⟩ = some (.int .i64 a0_4) := (blk_cell BK1.out 4).trans rfl;have hcz29_5 : w28.cell? ⟨gb1, 5, none⟩ = some (.int .i64 a0_5) := (blk_cell BK1.out 5).trans rfl;have hcz29_6 : w28.cell? ⟨gb1, 6, none⟩ = some (.int .i64 a0_6) := (blk_cell BK1.out 6).trans rfl;have hcz29_7 : w28.cell? ⟨gb1, 7, none⟩ = some (.int .i64 a0_7) := (blk_cell BK1.out 7).trans rfl;have hcz29_8 : w28.cell? ⟨gb1, 8, none⟩ = some (.int .i64 a0_8) := (blk_cell BK1.out 8).trans rfl;have hcz29_9 : w28.cell? ⟨gb1, 9, none⟩ = some (.int .i64 a0_9) := (blk_cell BK1.out 9).trans rfl;have hcz29_10 : w28.cell? ⟨gb1, 10, none⟩ = some (.int .i64 a0_10) := (blk_cell BK1.out 10).trans rfl;have hcz29_11 : w28.cell? ⟨gb1, 11, none⟩ = some (.int .i64 a0_11) := (blk_cell BK1.out 11).trans rfl;have hcz29_12 : w28.cell? ⟨gb1, 12, none⟩ = some (.slice A0_12 l0_12.length c0_12) := (blk_cell BK1.out 12).trans rfl;have hfz29_0 := blk_frozen BK1.out 0;have hfz29_1 := blk_frozen BK1.out 1;have hfz29_2 := blk_frozen BK1.out 2;have hfz29_3 := blk_frozen BK1.out 3;have hfz29_4 := blk_frozen BK1.out 4;have hfz29_5 := blk_frozen BK1.out 5;have hfz29_6 := blk_frozen BK1.out 6;have hfz29_7 := blk_frozen BK1.out 7;have hfz29_8 := blk_frozen BK1.out 8;have hfz29_9 := blk_frozen BK1.out 9;have hfz29_10 := blk_frozen BK1.out 10;have hfz29_11 := blk_frozen BK1.out 11;have hfz29_12 := blk_frozen BK1.out 12)|(go_at_call 115;(with_reducible refine (vec_May.calls a0_2 a0_3 a0_4 false _ A6.out).mono ?_);rintro e w30 ⟨rfl, hb⟩;have n0_ := Aside0.mk (blk_below (g := gb1) (o := .cells #[.string a0_0, .string a0_1, .int .i64 a0_2, .int .i64 a0_3, .int .i64 a0_4, .int .i64 a0_5, .int .i64 a0_6, .int .i64 a0_7, .int .i64 a0_8, .int .i64 a0_9, .int .i64 a0_10, .int .i64 a0_11, .slice A0_12 l0_12.length c0_12] 159 (0, 0)) (by (with_reducible repeat (first|refine blk_drewN ?_ _|refine blk_drew ?_|refine blk_alloc ?_ _));exact BK1.out) hb);have n1_ := Aside0.mk (below_step (by repeat (first|(with_reducible first|exact HB.out|apply below_alloc|apply pw_below_drewN|apply below_drew1|refine below_set ?_ GE1.out)|exact HB.out)) hb);clear BK1;clear HB;have BK1 := n0_;have HB := n1_;clear n0_ n1_;(try clear hb);(try clear hb2);(try clear hk);(try clear hi)))
    go_ret
    exact ⟨by first|rfl|(simp [errW_none, errW_some] <;> rfl)|(simp [*, errW_none, errW_some] <;> rfl), by repeat (first|(with_reducible first|exact HB.out|apply below_alloc|apply pw_below_drewN|apply below_drew1|refine below_set ?_ GE1.out)|exact HB.out)⟩
  ·rw [if_neg c5] at H
   have c5b0 : decide ((a0_0.size : Int) ≤ 24) = false := decide_eq_false c5
   have c5b1 : decide (a0_0.size ≤ 24) = false := decide_eq_false (by omega)
   clear c5
   obtain rfl := Option.some.inj H
   go_enter Try.func125, Try.ntmps125
   go_wp2_with (first|((with_reducible refine gate_dst (N := 1) rfl ?_);(try (refine gate_guard (by rfl) ?_;dsimp only));refine box_event ?hg (N := 1) ?hd (cs := #[.string a0_0, .string a0_1, .int .i64 a0_2, .int .i64 a0_3, .int .i64 a0_4, .int .i64 a0_5, .int .i64 a0_6, .int .i64 a0_7, .int .i64 a0_8, .int .i64 a0_9, .int .i64 a0_10, .int .i64 a0_11, .slice A0_12 l0_12.length c0_12]) (t := 159) ?hr ?_;(case hd => rfl);(case hg => rfl);(case hr => first|(go_simp;done)|(go_simp;rfl));intro gb1 hg w31 hbox hb;have n0_ := Aside0.mk (below_step (by repeat (first|(with_reducible first|exact HB.out|apply below_alloc|apply pw_below_drewN|apply below_drew1)|exact HB.out)) hb);have n1_ := Aside0.mk (hbox);have n2_ := Aside0.mk ((by rw [hg];exact (below_size (by repeat (first|(with_reducible first|exact HB.out|apply below_alloc|apply pw_below_drewN|apply below_drew1)|exact HB.out))) : w.heap.size ≤ gb1));have n3_ := Aside0.mk ((by rw [hg];exact (below_size (by repeat (first|(with_reducible first|exact HB.out|apply below_alloc|apply pw_below_drewN|apply below_drew1)|exact HB.out))) : w.heap.size ≤ gb1));clear HB;have HB := n0_;have BK1 := n1_;have GW1 := n2_;have GE1 := n3_;clear n0_ n1_ n2_ n3_;clear hb hbox hg;have hcz32_0 : w31.cell? ⟨gb1, 0, none⟩ = some (.string a0_0) := (blk_cell BK1.out 0).trans rfl;have hcz32_1 : w31.cell? ⟨gb1, 1, none⟩ = some (.string a0_1) := (blk_cell BK1.out 1).trans rfl;have hcz32_2 : w31.cell? ⟨gb1, 2, none⟩ = some (.int .i64 a0_2) := (blk_cell BK1.out 2).trans rfl;have hcz32_3 : w31.cell? ⟨gb1, 3, none⟩ = some (.int .i64 a0_3) := (blk_cell BK1.out 3).trans rfl;have hcz32_4 : w31.cell? ⟨gb1, 4, none⟩ = some (.int .i64 a0_4) := (blk_cell BK1.out 4).trans rfl;have hcz32_5 : w31.cell? ⟨gb1, 5, none⟩ = some (.int .i64 a0_5) := (blk_cell BK1.out 5).trans rfl;have hcz32_6 : w31.cell? ⟨gb1, 6, none⟩ = some (.int .i64 a0_6) := (blk_cell BK1.out 6).trans rfl;have hcz32_7 : w31.cell? ⟨gb1, 7, none⟩ = some (.int .i64 a0_7) := (blk_cell BK1.out 7).trans rfl;have hcz32_8 : w31.cell? ⟨gb1, 8, none⟩ = some (.int .i64 a0_8) := (blk_cell BK1.out 8).trans rfl;have hcz32_9 : w31.cell? ⟨gb1, 9, none⟩ = some (.int .i64 a0_9) := (blk_cell BK1.out 9).trans rfl;have hcz32_10 : w31.cell? ⟨gb1, 10, none⟩ = some (.int .i64 a0_10) := (blk_cell BK1.out 10).trans rfl;have hcz32_11 : w31.cell? ⟨gb1, 11, none⟩ = some (.int .i64 a0_11) := (blk_cell BK1.out 11).trans rfl;have hcz32_12 : w31.cell? ⟨gb1, 12, none⟩ = some (.slice A0_12 l0_12.length c0_12) := (blk_cell BK1.out 12).trans rfl;have hfz32_0 := blk_frozen BK1.out 0;have hfz32_1 := blk_frozen BK1.out 1;have hfz32_2 := blk_frozen BK1.out 2;have hfz32_3 := blk_frozen BK1.out 3;have hfz32_4 := blk_frozen BK1.out 4;have hfz32_5 := blk_frozen BK1.out 5;have hfz32_6 := blk_frozen BK1.out 6;have hfz32_7 := blk_frozen BK1.out 7;have hfz32_8 := blk_frozen BK1.out 8;have hfz32_9 := blk_frozen BK1.out 9;have hfz32_10 := blk_frozen BK1.out 10;have hfz32_11 := blk_frozen BK1.out 11;have hfz32_12 := blk_frozen BK1.out 12))
   go_ret
   exact ⟨by first|rfl|(simp [errW_none, errW_some] <;> rfl)|(simp [*, errW_none, errW_some] <;> rfl), by repeat (first|(with_reducible first|exact HB.out|apply below_alloc|apply pw_below_drewN|apply below_drew1|refine below_set ?_ GE1.out)|exact HB.out)⟩
end Go.Proofs.Ytcgefpklljclgaa.Print

namespace Go.Proofs.Ytcgefpklljclgaa.Print
open Go.RowKit Go.Proofs.YtcgefpklljclgaaW.PrintWords Go.Proofs.YtcgefpklljclgaaW.PrintLast Go.Proofs.YtcgefpklljclgaaW.PrintMore
attribute [local go_sem] max2_int min2_int max_two min_two max_three min_three max_four min_four   -- for this text's walks alone
set_option linter.unusedVariables false
set_option linter.unusedSimpArgs false
/-! ### vec_by: function 162 -/
/-- what 'by' makes of a list -/
def vecByF (op : Int → Int → Int) : List S27 → Int → Int → Int → Int × Int × Int
  | [], a, b, d => (a, b, d)
  | v :: l, a, b, d => vecByF op l (op a v.f0) (op b v.f1) (op d v.f2)
theorem vecByF_snoc (op : Int → Int → Int) (v : S27) : ∀ (l : List S27) (a b d : Int), vecByF op (l ++ [v]) a b d = (op (vecByF op l a b d).1 v.f0, op (vecByF op l a b d).2.1 v.f1, op (vecByF op l a b d).2.2 v.f2)
  | [], _, _, _ => rfl
  | _ :: l, _, _, _ => vecByF_snoc op v l _ _ _
theorem vecByF_take (op : Int → Int → Int) (l : List S27) (a b d : Int) (i : Nat) (h : i < l.length) : vecByF op (l.take (i + 1)) a b d = (op (vecByF op (l.take i) a b d).1 (rd_T27 l i).f0, op (vecByF op (l.take i) a b d).2.1 (rd_T27 l i).f1, op (vecByF op (l.take i) a b d).2.2 (rd_T27 l i).f2) := by
  have e : rd_T27 l i = l[i] := by simp [rd_T27, h]
  rw [List.take_succ_eq_append_getElem h, vecByF_snoc, e]
set_option maxHeartbeats 1000000 in
set_option maxRecDepth 100000 in
theorem vecBy_calls (g : Nat) (op : Int → Int → Int) (eg : ∀ args w, (callFunc g args).run Try.prog w = .ok (.enter g args) w) (hop : ∀ x y W, Calls Try.prog g #[.int .i64 x, .int .i64 y] W fun e w' => e = .returned (.int .i64 (op x y)) ∧ w' = W)
    (A : Option Addr) (c : Nat) (l : List S27) (a b d : Int) (w : World) (hr0 : Kd.C k27 w A l.length l) (hc0 : l.length ≤ c) (hm : l.length ≤ maxLen) :
    Calls Try.prog 162 #[.func (.func g) #[] #[], .agg #[.int .i64 a, .int .i64 b, .int .i64 d], .slice A l.length c] w fun e w' => e = .returned (.agg #[.int .i64 (vecByF op l a b d).1, .int .i64 (vecByF op l a b d).2.1, .int .i64 (vecByF op l a b d).2.2]) ∧ Below w.heap.size w w' := by
  have hu27 := Try.underlying27
  have HR0 := Aside0.mk hr0
  have HOP := Aside0.mk hop
  have HEG := Aside0.mk eg
  have HBT := Aside0.mk (vecByF_take op l a b d)
  clear hr0 hop eg
  unfold maxLen at hm
  go_enter Try.func162, Try.ntmps162
  go_wp2
  go_loopg [11] l.length (fun kq s11 wr => ∃ i : Nat, i ≤ l.length ∧ l.length - i ≤ kq ∧ s11 = .int .i64 i ∧ Aside0 (Below w.heap.size w wr) ∧ Aside0 (wr.heap[w.heap.size]? = some (.cells #[.int .i64 (vecByF op (l.take i) a b d).1, .int .i64 (vecByF op (l.take i) a b d).2.1, .int .i64 (vecByF op (l.take i) a b d).2.2] 27 (0, 0))) ∧ Aside0 (wr.heap[w.heap.size + 1]? = some (.cells #[.int .i64 0, .int .i64 0, .int .i64 0] 27 (0, 0))))
  case atStart =>
    exact ⟨0, by omega, by omega, rfl, ⟨below_alloc (below_alloc (Below.refl _ _) _) _⟩, ⟨blk_alloc (blk_new _ _) _⟩, ⟨by have := blk_new (w.alloc (.cells #[.int .i64 a, .int .i64 b, .int .i64 d] 27)) (.cells #[.int .i64 0, .int .i64 0, .int .i64 0] 27); simpa using this⟩⟩
  case round =>
    obtain ⟨i, hi, hg, rfl, HB, HF, HZ⟩ := hrel
    generalize hq : vecByF op (l.take i) a b d = q at HF
    have HQ := Aside0.mk hq
    clear hq
    by_cases hlt : i < l.length
    · have hltz : (i : Int) < (l.length : Int) := by omega
      obtain ⟨ad, e1, h0, h1, h2⟩ := at_T27 HR0.out (i : Int) (by omega) (by omega)
      cases e1
      simp only [Int.toNat_natCast] at h0 h1 h2
      replace h0 := (HB.out.cell (World.block_lt_of_cell? w _ h0)).trans h0
      replace h1 := (HB.out.cell (World.block_lt_of_cell? w _ h1)).trans h1
      replace h2 := (HB.out.cell (World.block_lt_of_cell? w _ h2)).trans h2
      have hsz : w.heap.size + 1 < wr.heap.size := blk_lt HZ.out
      go_wp2
      obtain ⟨W1, hW1⟩ : ∃ W1, W1 = (wr.alloc (.cells #[.int .i64 (rd_T27 l i).f0, .int .i64 (rd_T27 l i).f1, .int .i64 (rd_T27 l i).f2] 27)).drew := ⟨_, rfl⟩
      have hF1 : W1.heap[w.heap.size]? = some (.cells #[.int .i64 q.1, .int .i64 q.2.1, .int .i64 q.2.2] 27 (0, 0)) := by rw [hW1]; exact blk_alloc HF.out _
      have hZ1 : W1.heap[w.heap.size + 1]? = some (.cells #[.int .i64 0, .int .i64 0, .int .i64 0] 27 (0, 0)) := by rw [hW1]; exact blk_alloc HZ.out _
      have hV1 : W1.heap[wr.heap.size]? = some (.cells #[.int .i64 (rd_T27 l i).f0, .int .i64 (rd_T27 l i).f1, .int .i64 (rd_T27 l i).f2] 27 (0, 0)) := by rw [hW1]; exact blk_new _ _
      have hB1 : Below w.heap.size w W1 := by rw [hW1]; exact below_drew (below_alloc HB.out _)
      refine wp_region_still_tail 19 (by kernel_rfl) (by kernel_rfl) ?_
      change wpStill _ _ (World.drew _) _ _ _
      rw [← hW1]
      simp only [List.take_succ_cons, List.take_zero, List.drop_succ_cons, List.drop_zero]
      have HV1 := Aside0.mk hV1
      have HF1 := Aside0.mk hF1
      have HZ1 := Aside0.mk hZ1
      have HB1 := Aside0.mk hB1
      have f0 := (blk_cell hF1 0).trans rfl
      have f1 := (blk_cell hF1 1).trans rfl
      have f2 := (blk_cell hF1 2).trans rfl
      have g0 := (blk_cell hV1 0).trans rfl
      have g1 := (blk_cell hV1 1).trans rfl
      have g2 := (blk_cell hV1 2).trans rfl
      have HW1 := Aside0.mk hW1
      clear hW1 hF1 hZ1 hV1 hB1
      have eg := HEG.out
      repeat still_step
      still_call (HOP.out _ _ _)
      repeat still_step
      still_call (HOP.out _ _ _)
      repeat still_step
      still_call (HOP.out _ _ _)
      repeat still_step
      refine wpStill_nil ?_
      change wpList _ _ _ _ _ (World.drew _)
      rw [← HW1.out]
      have z0 := blk_frozen HF1.out 0
      have z1 := blk_frozen HF1.out 1
      have z2 := blk_frozen HF1.out 2
      have hs1 : w.heap.size < W1.heap.size := blk_lt HF1.out
      go_wp2
      have hb := HBT.out i hlt
      rw [HQ.out] at hb
      have HH := Aside0.mk hb
      clear hb
      go_roundg (l.length - (i + 1))
      case measure => omega
      case rel =>
        refine ⟨i + 1, by omega, by omega, by go_num, ⟨below_set (below_set (below_set HB1.out (Nat.le_refl _)) (Nat.le_refl _)) (Nat.le_refl _)⟩, ⟨?_⟩, ⟨blk_far (blk_far (blk_far HZ1.out (by simp) _) (by simp) _) (by simp) _⟩⟩
        rw [HH.out]
        exact blk_put (blk_put (blk_put HF1.out 0 _ rfl) 1 _ rfl) 2 _ rfl
    · obtain rfl : i = l.length := by omega
      have hq : q = vecByF op l a b d := HQ.out.symm.trans (by rw [List.take_length])
      subst hq
      have HQ' := HQ
      clear HQ HBT
      have f0 := (blk_cell HF.out 0).trans rfl
      have f1 := (blk_cell HF.out 1).trans rfl
      have f2 := (blk_cell HF.out 2).trans rfl
      have g0 := (blk_cell HZ.out 0).trans rfl
      have g1 := (blk_cell HZ.out 1).trans rfl
      have g2 := (blk_cell HZ.out 2).trans rfl
      have z0 := blk_frozen HZ.out 0
      have z1 := blk_frozen HZ.out 1
      have z2 := blk_frozen HZ.out 2
      have hs1 : w.heap.size + 1 < wr.heap.size := blk_lt HZ.out
      go_wp2
      refine bodyPost_ret (results_cell_row rfl _ _ (w.heap.size + 1) 27 #[.int .i64 (vecByF op l a b d).1, .int .i64 (vecByF op l a b d).2.1, .int .i64 (vecByF op l a b d).2.2] (0, 0) _ rfl (blk_put (blk_put (blk_put HZ.out 0 _ rfl) 1 _ rfl) 2 _ rfl) Try.underlying27 rfl (by kernel_rfl)) rfl ?_
      exact ⟨rfl, below_set (below_set (below_set HB.out (Nat.le_succ _)) (Nat.le_succ _)) (Nat.le_succ _)⟩
end Go.Proofs.Ytcgefpklljclgaa.Print

namespace Go.Proofs.Ytcgefpklljclgaa.Print
open Go.RowKit Go.Proofs.YtcgefpklljclgaaW.PrintWords Go.Proofs.YtcgefpklljclgaaW.PrintLast Go.Proofs.YtcgefpklljclgaaW.PrintMore
attribute [local go_sem] max2_int min2_int max_two min_two max_three min_three max_four min_four   -- for this text's walks alone
set_option linter.unusedVariables false
set_option linter.unusedSimpArgs false
/-! ### vec_Add: function 119 -/
theorem vecAdd1_calls (x y : Int) (W : World) : Calls Try.prog 163 #[.int .i64 x, .int .i64 y] W fun e w' => e = .returned (.int .i64 (wrap64 (x + y))) ∧ w' = W := by
  go_enter Try.func163, Try.ntmps163
  go_wp2
  go_ret
  exact ⟨rfl, rfl⟩
def vec_Add.f (l0 : List (S27)) : Option (Int × Int × Int) := some (vecByF (fun x y => wrap64 (x + y)) l0 0 0 0)
set_option maxHeartbeats 1000000 in
set_option maxRecDepth 100000 in
theorem vec_Add.calls (A0 : Option Addr) (c0 : Nat) (l0 : List (S27)) (r1 : Int) (r2 : Int) (r3 : Int) (w : World) (hr0 : Kd.C k27 w A0 l0.length l0) (hc0 : l0.length ≤ c0) (h : vec_Add.f l0 = some (r1, r2, r3)) :
    Calls Try.prog 119 #[.slice A0 l0.length c0] w fun e w' => e = .returned (.agg #[.int .i64 r1, .int .i64 r2, .int .i64 r3]) ∧ Below w.heap.size w w' := by
  have hu27 := Try.underlying27
  have hm : l0.length ≤ maxLen := hr0.2.1
  have HC := Aside0.mk (vecBy_calls 163 (fun x y => wrap64 (x + y)) (enters_of Try.func163 (by kernel_rfl) rfl) vecAdd1_calls A0 c0 l0 0 0 0 (w.alloc (.cells #[.int .i64 0, .int .i64 0, .int .i64 0] 27)) (Kd.C_below hr0 (below_alloc (Below.refl _ _) _)) hc0 hm)
  have HH := Aside0.mk h
  clear hr0 h
  go_enter Try.func119, Try.ntmps119
  go_wp2_with fail
  refine HC.out.mono ?_
  rintro e w1 ⟨rfl, hb⟩
  have h := Option.some.inj (show some (vecByF (fun x y => wrap64 (x + y)) l0 0 0 0) = some (r1, r2, r3) from HH.out)
  rw [h]
  have hZ := blk_below (blk_new w (.cells #[.int .i64 0, .int .i64 0, .int .i64 0] 27)) hb
  have HB := Aside0.mk hb
  have HZ := Aside0.mk hZ
  clear h hb hZ
  have g0 := (blk_cell HZ.out 0).trans rfl
  have g1 := (blk_cell HZ.out 1).trans rfl
  have g2 := (blk_cell HZ.out 2).trans rfl
  have z0 := blk_frozen HZ.out 0
  have z1 := blk_frozen HZ.out 1
  have z2 := blk_frozen HZ.out 2
  have hs1 : w.heap.size < w1.heap.size := blk_lt HZ.out
  go_wp2
  refine bodyPost_ret (results_cell_row rfl _ _ w.heap.size 27 #[.int .i64 r1, .int .i64 r2, .int .i64 r3] (0, 0) _ rfl (blk_put (blk_put (blk_put HZ.out 0 _ rfl) 1 _ rfl) 2 _ rfl) Try.underlying27 rfl (by kernel_rfl)) rfl ?_
  exact ⟨rfl, below_set (below_set (below_set (below_step (below_alloc (Below.refl _ _) _) HB.out) (Nat.le_refl _)) (Nat.le_refl _)) (Nat.le_refl _)⟩
end Go.Proofs.Ytcgefpklljclgaa.Print

namespace Go.Proofs.Ytcgefpklljclgaa.Print
open Go.RowKit Go.Proofs.YtcgefpklljclgaaW.PrintWords Go.Proofs.YtcgefpklljclgaaW.PrintLast Go.Proofs.YtcgefpklljclgaaW.PrintMore
attribute [local go_sem] max2_int min2_int max_two min_two max_three min_three max_four min_four   -- for this text's walks alone
set_option linter.unusedVariables false
set_option linter.unusedSimpArgs false
attribute [local go_sem high] eqA27
/-! ### tree_node_fits: function 126 -/
def tree_node_fits.f (a0_0 : ByteArray) (a0_1 : ByteArray) (a0_2 : Int) (a0_3 : Int) (a0_4 : Int) (a0_5 : Int) (a0_6 : Int) (a0_7 : Int) (a0_8 : Int) (a0_9 : Int) (a0_10 : Int) (a0_11 : Int) (l0_12 : List (S27)) : Option (Bool) := if l0_12.length < 5864062014805 then ((vec_Add.f (l0_12 ++ [(⟨a0_5, a0_6, a0_7⟩ : S27)])).bind fun bt5 => (if (a0_8 == bt5.1 && (a0_9 == bt5.2.1 && (a0_10 == bt5.2.2))) = true then ((vec_Le.f a0_8 a0_9 a0_10 a0_2 a0_3 a0_4).bind fun t8 => (some t8)) else (some false))) else (none)
def tree_node_fits.T1 : Bool × List (List Nat × List Nat) := (true, [([], []), ([0], [0]), ([1], [1]), ([], []), ([3], [3]), ([], []), ([5], [5]), ([6], [6]), ([7], [7]), ([4, 8], [4, 8]), ([9, 9], [9]), ([2, 10], [2, 10]), ([11, 10], [11]), ([12], [12]), ([13, 12], [12, 13]), ([14, 12], [12, 14]), ([12], [12]), ([16, 12], [12, 16]), ([17, 12], [12, 17]), ([15, 18, 12, 12], [12, 15, 18]), ([12, 19], [12, 19]), ([20, 19, 0, 1, 2, 3, 4, 5, 6, 7, 8, 9, 10, 11, 12, 13, 14, 15, 16, 17, 18, 19, 20], [20])])
def tree_node_fits.B1 : List Nat := [0, 1, 3, 0, 8, 0, 32, 96, 224, 504, 1016, 2047, 4095, 8191, 16383, 32767, 8191, 73727, 204799, 524287, 1048575, 2097151]
theorem tree_node_fits.tab1 : rtab .any (opsOf Try.f126 1) = tree_node_fits.T1 := by kernel_rfl
theorem tree_node_fits.bits1 : waitsOk tree_node_fits.T1.2 tree_node_fits.B1 = true := by kernel_rfl
set_option maxHeartbeats 8000000 in
set_option maxRecDepth 100000 in
theorem tree_node_fits.calls (a0_0 : ByteArray) (a0_1 : ByteArray) (a0_2 : Int) (a0_3 : Int) (a0_4 : Int) (a0_5 : Int) (a0_6 : Int) (a0_7 : Int) (a0_8 : Int) (a0_9 : Int) (a0_10 : Int) (a0_11 : Int) (P0_12_ : Nat → Prop) (u9000_ : Value) (l0_12 : List (S27)) (r : Bool) (w0 w : World) (hB : Below w0.heap.size w0 w) (ho0_12 : Kd.R k27 27 w w0.heap.size P0_12_ u9000_ l0_12) (h : tree_node_fits.f a0_0 a0_1 a0_2 a0_3 a0_4 a0_5 a0_6 a0_7 a0_8 a0_9 a0_10 a0_11 l0_12 = some r) :
  Calls Try.prog 126 #[.agg #[.string a0_0, .string a0_1, .int .i64 a0_2, .int .i64 a0_3, .int .i64 a0_4, .int .i64 a0_5, .int .i64 a0_6, .int .i64 a0_7, .int .i64 a0_8, .int .i64 a0_9, .int .i64 a0_10, .int .i64 a0_11, u9000_]] w fun e w' => e = .returned (.bool r) ∧ Below w0.heap.size w0 w' ∧ Kept w w' (fun k_ => P0_12_ k_) := by
 have hu159 := Try.underlying159
 have hu27 := Try.underlying27
 have HO0_12 := Aside0.mk (show Kd.R k27 27 w w0.heap.size (fun k_ => (P0_12_ k_ ∨ w.heap.size ≤ k_)) u9000_ l0_12 from Kd.R_mono ho0_12 (fun k_ hk => (.inl hk)))
 have HK := Aside0.mk (Kept.refl w (fun k_ => P0_12_ k_))
 have HW0 := Aside0.mk hB.size
 have HB := Aside0.mk hB
 clear hB
 have H : (if l0_12.length < 5864062014805 then ((vec_Add.f (l0_12 ++ [(⟨a0_5, a0_6, a0_7⟩ : S27)])).bind fun bt5 => (if (a0_8 == bt5.1 && (a0_9 == bt5.2.1 && (a0_10 == bt5.2.2))) = true then ((vec_Le.f a0_8 a0_9 a0_10 a0_2 a0_3 a0_4).bind fun t8 => (some t8)) else (some false))) else (none)) = some r := h
 clear h
 by_cases c2 : l0_12.length < 5864062014805
 ·rw [if_pos c2] at H
  have LMc2 := Aside0.mk c2
  clear c2
  obtain ⟨y2, hy2⟩ : ∃ y_ : List (S27), y_ = (l0_12 ++ [(⟨a0_5, a0_6, a0_7⟩ : S27)]) := ⟨_, rfl⟩
  replace H : ((vec_Add.f y2).bind fun bt5 => (if (a0_8 == bt5.1 && (a0_9 == bt5.2.1 && (a0_10 == bt5.2.2))) = true then ((vec_Le.f a0_8 a0_9 a0_10 a0_2 a0_3 a0_4).bind fun t8 => (some t8)) else (some false))) = some r := by first|(rw [hy2];with_reducible exact H)|(have H2_ := (Option.bind_some _ _).symm.trans H;rw [hy2];with_reducible exact H2_)|(have H2_ := (Option.bind_some _ _).symm.trans H;with_reducible exact H2_)|with_reducible exact H|(rw [hy2];exact H)|exact H
  have Ny2 := Aside0.mk hy2
  clear hy2
  replace H := Option.bind_eq_some_iff.mp H
  obtain ⟨⟨t5, t6, t7⟩, A30, H⟩ := H
  replace H : (if (a0_8 == t5 && (a0_9 == t6 && (a0_10 == t7))) = true then ((vec_Le.f a0_8 a0_9 a0_10 a0_2 a0_3 a0_4).bind fun t8 => (some t8)) else (some false)) = some r := H
  have A3 := Aside0.mk A30
  clear A30
  by_cases c4 : (a0_8 == t5 && (a0_9 == t6 && (a0_10 == t7))) = true
  ·rw [if_pos c4] at H
   have c4b0 : (a0_8 == t5 && (a0_9 == t6 && (a0_10 == t7))) = true := c4
   (try (have c4b1 : decide (a0_8 = t5 && (a0_9 == t6 && (a0_10 == t7))) = true := by simpa using c4))
   (try (have c4b2 : (a0_8 == t5 && (a0_9 == t6 && (a0_10 == t7))) = true := by simpa using c4))
   clear c4
   replace H := Option.bind_eq_some_iff.mp H
   obtain ⟨t8, A50, H⟩ := H
   replace H : (some t8) = some r := H
   have A5 := Aside0.mk A50
   clear A50
   obtain rfl := Option.some.inj H
   obtain ⟨Ao6, co6, eo6⟩ := Kd.R_slice HO0_12.out
   subst eo6
   go_enter Try.func126, Try.ntmps126
   try go_wp2_with (first|((with_reducible refine gate_dst (N := 1) rfl ?_);refine box_event ?hg (N := 1) ?hd (cs := #[.string a0_0, .string a0_1, .int .i64 a0_2, .int .i64 a0_3, .int .i64 a0_4, .int .i64 a0_5, .int .i64 a0_6, .int .i64 a0_7, .int .i64 a0_8, .int .i64 a0_9, .int .i64 a0_10, .int .i64 a0_11, .slice Ao6 l0_12.length co6]) (t := 159) ?hr ?_;(case hd => rfl);(case hg => rfl);(case hr => first|(go_simp;done)|(go_simp;rfl));intro gb1 hg w7 hbox hb;have n0_ := Aside0.mk (Kd.R_below (by (with_reducible repeat (first|apply Kd.R_alloc|apply Kd.R_drewN|apply Kd.R_drew));exact HO0_12.out) hb);have n1_ := Aside0.mk (Kept.below (S := (fun k_ => P0_12_ k_)) (by repeat (first|(with_reducible first|exact HK.out|apply Kept.alloc|apply Kept.drewN|apply Kept.drew)|exact HK.out)) hb);have n2_ := Aside0.mk (below_step (by repeat (first|(with_reducible first|exact HB.out|apply below_alloc|apply pw_below_drewN|apply below_drew1)|exact HB.out)) hb);have n3_ := Aside0.mk (hbox);have n4_ := Aside0.mk ((by rw [hg];exact (by first|exact HK.out.1|exact (show Kept w _ (fun k_ => P0_12_ k_) from by repeat (first|(with_reducible first|exact HK.out|apply Kept.alloc|apply Kept.drewN|apply Kept.drew)|exact HK.out)).1) : w.heap.size ≤ gb1));have n5_ := Aside0.mk ((by rw [hg];exact (below_size (by repeat (first|(with_reducible first|exact HB.out|apply below_alloc|apply pw_below_drewN|apply below_drew1)|exact HB.out))) : w0.heap.size ≤ gb1));clear HO0_12;clear HK;clear HB;have HO0_12 := n0_;have HK := n1_;have HB := n2_;have BK1 := n3_;have GW1 := n4_;have GE1 := n5_;clear n0_ n1_ n2_ n3_ n4_ n5_;clear hb hbox hg))
   have n0_ := Aside0.mk (Kd.R_drew HO0_12.out)
   have n1_ := Aside0.mk (blk_drew BK1.out)
   have n2_ := Aside0.mk (Kept.drew HK.out)
   have n3_ := Aside0.mk (below_drew1 HB.out)
   clear HO0_12
   clear BK1
   clear HK
   clear HB
   have HO0_12 := n0_
   have BK1 := n1_
   have HK := n2_
   have HB := n3_
   clear n0_ n1_ n2_ n3_
   refine start_ (n := 22) (S := fun w' => w'.cell? ⟨gb1, 0, none⟩ = some (.string a0_0) ∧ w'.cell? ⟨gb1, 1, none⟩ = some (.string a0_1) ∧ w'.cell? ⟨gb1, 2, none⟩ = some (.int .i64 a0_2) ∧ w'.cell? ⟨gb1, 3, none⟩ = some (.int .i64 a0_3) ∧ w'.cell? ⟨gb1, 4, none⟩ = some (.int .i64 a0_4) ∧ w'.cell? ⟨gb1, 5, none⟩ = some (.int .i64 a0_5) ∧ w'.cell? ⟨gb1, 6, none⟩ = some (.int .i64 a0_6) ∧ w'.cell? ⟨gb1, 7, none⟩ = some (.int .i64 a0_7) ∧ w'.cell? ⟨gb1, 8, none⟩ = some (.int .i64 a0_8) ∧ w'.cell? ⟨gb1, 9, none⟩ = some (.int .i64 a0_9) ∧ w'.cell? ⟨gb1, 10, none⟩ = some (.int .i64 a0_10) ∧ w'.cell? ⟨gb1, 11, none⟩ = some (.int .i64 a0_11) ∧ w'.cell? ⟨gb1, 12, none⟩ = some (.slice Ao6 l0_12.length co6)) (ds := []) #[false, false, false, false, false, false, false, false, false, false, false, false, false, false, false, false, false, false, false, false, false, false] (by kernel_rfl) rfl rfl ⟨(blk_cell BK1.out 0).trans rfl, (blk_cell BK1.out 1).trans rfl, (blk_cell BK1.out 2).trans rfl, (blk_cell BK1.out 3).trans rfl, (blk_cell BK1.out 4).trans rfl, (blk_cell BK1.out 5).trans rfl, (blk_cell BK1.out 6).trans rfl, (blk_cell BK1.out 7).trans rfl, (blk_cell BK1.out 8).trans rfl, (blk_cell BK1.out 9).trans rfl, (blk_cell BK1.out 10).trans rfl, (blk_cell BK1.out 11).trans rfl, (blk_cell BK1.out 12).trans rfl⟩ (fun hHeld => ?_); refine with_tabW tree_node_fits.tab1 tree_node_fits.bits1 (fun HT_ HW_ => ?_)
   generalize w7.drew = w8 at HO0_12 BK1 HK HB hHeld ⊢
   refine pure_ (i := 0) (N := some 3) (v := ?_) (a' := ?_) #[true, false, false, false, false, false, false, false, false, false, false, false, false, false, false, false, false, false, false, false, false, false] rfl rfl (any_of HT_.out (by kernel_rfl)) (fun _ _ _ h => h) (Or.inl ⟨by rfl, ?_⟩) ?_ ?_
   rotate_left
   ·intro w'
    go_simp
    with_reducible rfl
   rotate_left
   ·simp only [Act.put, List.setIfInBounds_toArray, List.set_cons_zero, List.set_cons_succ, i64_w, i32_w]
    rfl
   refine pure_ (i := 1) (N := some 4) (v := ?_) (a' := ?_) #[true, true, false, false, false, false, false, false, false, false, false, false, false, false, false, false, false, false, false, false, false, false] rfl rfl (any_of HT_.out (by kernel_rfl)) (fun _ _ _ h => h) (Or.inl ⟨by rfl, ?_⟩) ?_ ?_
   rotate_left
   ·intro w'
    go_simp
    with_reducible rfl
   rotate_left
   ·simp only [Act.put, List.setIfInBounds_toArray, List.set_cons_zero, List.set_cons_succ, i64_w, i32_w]
    rfl
   refine pure_ (i := 3) (N := some 6) (v := ?_) (a' := ?_) #[true, true, false, true, false, false, false, false, false, false, false, false, false, false, false, false, false, false, false, false, false, false] rfl rfl (any_of HT_.out (by kernel_rfl)) (fun _ _ _ h => h) (Or.inl ⟨by rfl, ?_⟩) ?_ ?_
   rotate_left
   ·intro w'
    go_simp
    with_reducible rfl
   rotate_left
   ·simp only [Act.put, List.setIfInBounds_toArray, List.set_cons_zero, List.set_cons_succ, i64_w, i32_w]
    rfl
   refine pure_ (i := 5) (N := some 8) (v := ?_) (a' := ?_) #[true, true, false, true, false, true, false, false, false, false, false, false, false, false, false, false, false, false, false, false, false, false] rfl rfl (any_of HT_.out (by kernel_rfl)) (fun _ _ _ h => h) (Or.inl ⟨by rfl, ?_⟩) ?_ ?_
   rotate_left
   ·intro w'
    go_simp
    with_reducible rfl
   rotate_left
   ·simp only [Act.put, List.setIfInBounds_toArray, List.set_cons_zero, List.set_cons_succ, i64_w, i32_w]
    rfl
   refine pure_ (i := 6) (N := some 9) (v := ?_) (a' := ?_) #[true, true, false, true, false, true, true, false, false, false, false, false, false, false, false, false, false, false, false, false, false, false] rfl rfl (any_of HT_.out (by kernel_rfl)) (fun _ _ _ h => h) (Or.inl ⟨by rfl, ?_⟩) ?_ ?_
   rotate_left
   ·intro w'
    go_simp
    with_reducible rfl
   rotate_left
   ·simp only [Act.put, List.setIfInBounds_toArray, List.set_cons_zero, List.set_cons_succ, i64_w, i32_w]
    rfl
   refine take_ (i := 2) (N := some 5) (v := ?_) (a' := ?_) #[true, true, true, true, false, true, true, false, false, false, false, false, false, false, false, false, false, false, false, false, false, false] rfl rfl (take_ofW HT_.out HW_.out (by kernel_rfl)) (fun _ _ _ h => h) (Or.inl ⟨by rfl, ?_⟩) hHeld ?_ ?_
   rotate_left
   ·rintro w' ⟨s0, s1, s2, s3, s4, s5, s6, s7, s8, s9, s10, s11, s12⟩
    go_simp
    with_reducible rfl
   rotate_left
   ·simp only [Act.put, List.setIfInBounds_toArray, List.set_cons_zero, List.set_cons_succ, i64_w, i32_w]
    rfl
   refine take_ (i := 4) (N := some 7) (v := ?_) (a' := ?_) #[true, true, true, true, true, true, true, false, false, false, false, false, false, false, false, false, false, false, false, false, false, false] rfl rfl (take_ofW HT_.out HW_.out (by kernel_rfl)) (fun _ _ _ h => h) (Or.inl ⟨by rfl, ?_⟩) hHeld ?_ ?_
   rotate_left
   ·rintro w' ⟨s0, s1, s2, s3, s4, s5, s6, s7, s8, s9, s10, s11, s12⟩
    go_simp
    with_reducible rfl
   rotate_left
   ·simp only [Act.put, List.setIfInBounds_toArray, List.set_cons_zero, List.set_cons_succ, i64_w, i32_w]
    rfl
   refine take_ (i := 7) (N := some 10) (v := ?_) (a' := ?_) #[true, true, true, true, true, true, true, true, false, false, false, false, false, false, false, false, false, false, false, false, false, false] rfl rfl (take_ofW HT_.out HW_.out (by kernel_rfl)) (fun _ _ _ h => h) (Or.inl ⟨by rfl, ?_⟩) hHeld ?_ ?_
   rotate_left
   ·rintro w' ⟨s0, s1, s2, s3, s4, s5, s6, s7, s8, s9, s10, s11, s12⟩
    go_simp
    with_reducible rfl
   rotate_left
   ·simp only [Act.put, List.setIfInBounds_toArray, List.set_cons_zero, List.set_cons_succ, i64_w, i32_w]
    rfl
   refine one_ (i := 8) (N := some 11) #[true, true, true, true, true, true, true, true, true, false, false, false, false, false, false, false, false, false, false, false, false, false] rfl rfl (one_of HT_.out (by kernel_rfl)) (by decide) (fun K hK => ?_)
   refine value_ (w1 := ?_) (v := ?_) (by rfl) rfl ?_ ?_
   rotate_left 2
   ·go_simp
    constructor
    ·rfl
    ·rfl
   refine hK.out _ _ ⟨(blk_cell (blk_alloc BK1.out _) 0).trans rfl, (blk_cell (blk_alloc BK1.out _) 1).trans rfl, (blk_cell (blk_alloc BK1.out _) 2).trans rfl, (blk_cell (blk_alloc BK1.out _) 3).trans rfl, (blk_cell (blk_alloc BK1.out _) 4).trans rfl, (blk_cell (blk_alloc BK1.out _) 5).trans rfl, (blk_cell (blk_alloc BK1.out _) 6).trans rfl, (blk_cell (blk_alloc BK1.out _) 7).trans rfl, (blk_cell (blk_alloc BK1.out _) 8).trans rfl, (blk_cell (blk_alloc BK1.out _) 9).trans rfl, (blk_cell (blk_alloc BK1.out _) 10).trans rfl, (blk_cell (blk_alloc BK1.out _) 11).trans rfl, (blk_cell (blk_alloc BK1.out _) 12).trans rfl⟩ (fun hHeld => ?_)
   clear hK K
   refine norm_ (a' := ?_) ?_ ?_
   rotate_left
   ·show Act.put _ (some 11) _ = _
    simp only [Act.put, List.setIfInBounds_toArray, List.set_cons_zero, List.set_cons_succ, i64_w, i32_w]
    rfl
   refine one_ (i := 9) (N := some 12) #[true, true, true, true, true, true, true, true, true, true, false, false, false, false, false, false, false, false, false, false, false, false] rfl rfl (one_of HT_.out (by kernel_rfl)) (by decide) (fun K hK => ?_)
   refine Kd.R_append_step k27 (w0 := w0) w0.heap.size (by rfl) (.tmp 7) (.tmp 11) 157 27 (.agg #[(.int .i64 0), (.int .i64 0), (.int .i64 0)]) 24 rfl Try.underlying157 info27 rfl (by decide) (by omega) (.slice Ao6 l0_12.length co6) l0_12 (⟨a0_5, a0_6, a0_7⟩ : S27) [.int .i64 a0_5, .int .i64 a0_6, .int .i64 a0_7] (fun k_ => (P0_12_ k_ ∨ w.heap.size ≤ k_)) (fun _ => False) rfl rfl ?aP (fun _ hk => hk.elim) ?aF ?aO ?aB ?aS ?aL ?_
   (case aP => exact k27_mkM _ _ _ (⟨a0_5, a0_6, a0_7⟩ : S27))
   (case aB => exact (by repeat (first|(with_reducible first|exact HB.out|apply below_alloc|apply pw_below_drewN|apply below_drew1|refine below_set ?_ GE1.out)|exact HB.out)))
   (case aF => exact (fun k_ hk => (.inr (Nat.le_trans (by first|exact HK.out.1|exact (show Kept w _ (fun k_ => P0_12_ k_) from by repeat (first|(with_reducible first|exact HK.out|apply Kept.alloc|apply Kept.drewN|apply Kept.drew|refine Kept.setCell ?_ (.inr GW1.out) _)|exact HK.out)).1) hk))))
   (case aO => exact (by (with_reducible repeat (first|apply Kd.R_alloc|apply Kd.R_drewN|apply Kd.R_drew));exact HO0_12.out))
   (case aS => exact (below_size (by repeat (first|(with_reducible first|exact HB.out|apply below_alloc|apply pw_below_drewN|apply below_drew1|refine below_set ?_ GE1.out)|exact HB.out))))
   (case aL => have := LMc2.out; omega)
   intro v3 w9 ho hb hg hat
   rw [← Ny2.out] at ho
   have n0_ := Aside0.mk (blk_grown (g := gb1) (o := .cells #[.string a0_0, .string a0_1, .int .i64 a0_2, .int .i64 a0_3, .int .i64 a0_4, .int .i64 a0_5, .int .i64 a0_6, .int .i64 a0_7, .int .i64 a0_8, .int .i64 a0_9, .int .i64 a0_10, .int .i64 a0_11, .slice Ao6 l0_12.length co6] 159 (0, 0)) (by (with_reducible repeat (first|refine blk_drewN ?_ _|refine blk_drew ?_|refine blk_alloc ?_ _));exact BK1.out) hg (Kd.R_ne HO0_12.out BK1.out (by decide)))
   have n1_ := Aside0.mk (hb)
   have n2_ := Aside0.mk (Kept.of_grown (S := (fun k_ => P0_12_ k_)) hg (by repeat (first|(with_reducible first|exact HK.out|apply Kept.alloc|apply Kept.drewN|apply Kept.drew|refine Kept.setCell ?_ (.inr GW1.out) _)|exact HK.out)) (fun k_ e_ => (HO0_12.out.1 k_ e_)))
   have n3_ := Aside0.mk (ho)
   clear BK1
   clear HB
   clear HK
   clear HO0_12
   have BK1 := n0_
   have HB := n1_
   have HK := n2_
   have HO4 := n3_
   clear n0_ n1_ n2_ n3_
   clear ho hb hg hat
   obtain ⟨Ao10, co10, eo10⟩ := Kd.R_slice HO4.out
   (first | subst eo10 | (injection eo10 with f1_ f2_ f3_; have f4_ := f1_.symm; have f5_ := f3_.symm; clear f1_ f2_ f3_; subst f4_; subst f5_))
   refine hK.out _ _ ⟨(blk_cell BK1.out 0).trans rfl, (blk_cell BK1.out 1).trans rfl, (blk_cell BK1.out 2).trans rfl, (blk_cell BK1.out 3).trans rfl, (blk_cell BK1.out 4).trans rfl, (blk_cell BK1.out 5).trans rfl, (blk_cell BK1.out 6).trans rfl, (blk_cell BK1.out 7).trans rfl, (blk_cell BK1.out 8).trans rfl, (blk_cell BK1.out 9).trans rfl, (blk_cell BK1.out 10).trans rfl, (blk_cell BK1.out 11).trans rfl, (blk_cell BK1.out 12).trans rfl⟩ (fun hHeld => ?_)
   clear hK K
   refine norm_ (a' := ?_) ?_ ?_
   rotate_left
   ·show Act.put _ (some 12) _ = _
    simp only [Act.put, List.setIfInBounds_toArray, List.set_cons_zero, List.set_cons_succ, i64_w, i32_w]
    rfl
   refine one_ (i := 10) (N := some 13) #[true, true, true, true, true, true, true, true, true, true, true, false, false, false, false, false, false, false, false, false, false, false] rfl rfl (one_of HT_.out (by kernel_rfl)) (by decide) (fun K hK => ?_)
   refine goes_ Try.func119 (by kernel_rfl) rfl #[.slice Ao10 y2.length co10] (by rfl) rfl rfl (by (try simp only [List.map_toArray, List.map_cons, List.map_nil]); first | done | rfl | (simp only [List.length_drop, List.length_take]; rfl)) ?_
   with_reducible refine (vec_Add.calls _ _ y2 t5 t6 t7 _ ?side1 ?side2 A3.out).mono ?_
   (case side1 => repeat (first|exact (Kd.R_reads' HO4.out).2.2|(with_reducible refine Kd.C_alloc ?_ _)|(with_reducible refine Kd.C_drewN ?_ _)|(with_reducible refine Kd.C_drew ?_)))
   (case side2 => exact (Kd.R_reads' HO4.out).2.1)
   rintro e w11 ⟨rfl, hb⟩
   refine ⟨_, rfl, ?_⟩
   have n0_ := Aside0.mk (Kd.R_below (by (with_reducible repeat (first|apply Kd.R_alloc|apply Kd.R_drewN|apply Kd.R_drew));exact HO4.out) hb)
   have n1_ := Aside0.mk (blk_below (g := gb1) (o := .cells #[.string a0_0, .string a0_1, .int .i64 a0_2, .int .i64 a0_3, .int .i64 a0_4, .int .i64 a0_5, .int .i64 a0_6, .int .i64 a0_7, .int .i64 a0_8, .int .i64 a0_9, .int .i64 a0_10, .int .i64 a0_11, .slice Ao6 l0_12.length co6] 159 (0, 0)) (by (with_reducible repeat (first|refine blk_drewN ?_ _|refine blk_drew ?_|refine blk_alloc ?_ _));exact BK1.out) hb)
   have n2_ := Aside0.mk (Kept.below (S := (fun k_ => P0_12_ k_)) (by repeat (first|(with_reducible first|exact HK.out|apply Kept.alloc|apply Kept.drewN|apply Kept.drew|refine Kept.setCell ?_ (.inr GW1.out) _)|exact HK.out)) hb)
   have n3_ := Aside0.mk (below_step (by repeat (first|(with_reducible first|exact HB.out|apply below_alloc|apply pw_below_drewN|apply below_drew1|refine below_set ?_ GE1.out)|exact HB.out)) hb)
   clear HO4
   clear BK1
   clear HK
   clear HB
   have HO4 := n0_
   have BK1 := n1_
   have HK := n2_
   have HB := n3_
   clear n0_ n1_ n2_ n3_
   (try clear hb)
   (try clear hb2)
   (try clear hk)
   (try clear hi)
   refine hK.out _ _ ⟨(blk_cell BK1.out 0).trans rfl, (blk_cell BK1.out 1).trans rfl, (blk_cell BK1.out 2).trans rfl, (blk_cell BK1.out 3).trans rfl, (blk_cell BK1.out 4).trans rfl, (blk_cell BK1.out 5).trans rfl, (blk_cell BK1.out 6).trans rfl, (blk_cell BK1.out 7).trans rfl, (blk_cell BK1.out 8).trans rfl, (blk_cell BK1.out 9).trans rfl, (blk_cell BK1.out 10).trans rfl, (blk_cell BK1.out 11).trans rfl, (blk_cell BK1.out 12).trans rfl⟩ (fun hHeld => ?_)
   clear hK K
   refine norm_ (a' := ?_) ?_ ?_
   rotate_left
   ·show Act.put _ (some 13) _ = _
    simp only [Act.put, List.setIfInBounds_toArray, List.set_cons_zero, List.set_cons_succ, i64_w, i32_w]
    rfl
   refine pure_ (i := 11) (N := some 14) (v := ?_) (a' := ?_) #[true, true, true, true, true, true, true, true, true, true, true, true, false, false, false, false, false, false, false, false, false, false] rfl rfl (any_of HT_.out (by kernel_rfl)) (fun _ _ _ h => h) (Or.inl ⟨by rfl, ?_⟩) ?_ ?_
   rotate_left
   ·intro w'
    go_simp
    with_reducible rfl
   rotate_left
   ·simp only [Act.put, List.setIfInBounds_toArray, List.set_cons_zero, List.set_cons_succ, i64_w, i32_w]
    rfl
   refine pure_ (i := 12) (N := some 15) (v := ?_) (a' := ?_) #[true, true, true, true, true, true, true, true, true, true, true, true, true, false, false, false, false, false, false, false, false, false] rfl rfl (any_of HT_.out (by kernel_rfl)) (fun _ _ _ h => h) (Or.inl ⟨by rfl, ?_⟩) ?_ ?_
   rotate_left
   ·intro w'
    go_simp
    with_reducible rfl
   rotate_left
   ·simp only [Act.put, List.setIfInBounds_toArray, List.set_cons_zero, List.set_cons_succ, i64_w, i32_w]
    rfl
   refine pure_ (i := 13) (N := some 16) (v := ?_) (a' := ?_) #[true, true, true, true, true, true, true, true, true, true, true, true, true, true, false, false, false, false, false, false, false, false] rfl rfl (any_of HT_.out (by kernel_rfl)) (fun _ _ _ h => h) (Or.inl ⟨by rfl, ?_⟩) ?_ ?_
   rotate_left
   ·intro w'
    go_simp
    with_reducible rfl
   rotate_left
   ·simp only [Act.put, List.setIfInBounds_toArray, List.set_cons_zero, List.set_cons_succ, i64_w, i32_w]
    rfl
   refine pure_ (i := 14) (N := some 17) (v := ?_) (a' := ?_) #[true, true, true, true, true, true, true, true, true, true, true, true, true, true, true, false, false, false, false, false, false, false] rfl rfl (any_of HT_.out (by kernel_rfl)) (fun _ _ _ h => h) (Or.inl ⟨by rfl, ?_⟩) ?_ ?_
   rotate_left
   ·intro w'
    go_simp
    with_reducible rfl
   rotate_left
   ·simp only [Act.put, List.setIfInBounds_toArray, List.set_cons_zero, List.set_cons_succ, i64_w, i32_w]
    rfl
   refine pure_ (i := 16) (N := some 19) (v := ?_) (a' := ?_) #[true, true, true, true, true, true, true, true, true, true, true, true, true, true, true, false, true, false, false, false, false, false] rfl rfl (any_of HT_.out (by kernel_rfl)) (fun _ _ _ h => h) (Or.inl ⟨by rfl, ?_⟩) ?_ ?_
   rotate_left
   ·intro w'
    go_simp
    with_reducible rfl
   rotate_left
   ·simp only [Act.put, List.setIfInBounds_toArray, List.set_cons_zero, List.set_cons_succ, i64_w, i32_w]
    rfl
   refine pure_ (i := 17) (N := some 20) (v := ?_) (a' := ?_) #[true, true, true, true, true, true, true, true, true, true, true, true, true, true, true, false, true, true, false, false, false, false] rfl rfl (any_of HT_.out (by kernel_rfl)) (fun _ _ _ h => h) (Or.inl ⟨by rfl, ?_⟩) ?_ ?_
   rotate_left
   ·intro w'
    go_simp
    with_reducible rfl
   rotate_left
   ·simp only [Act.put, List.setIfInBounds_toArray, List.set_cons_zero, List.set_cons_succ, i64_w, i32_w]
    rfl
   refine take_ (i := 15) (N := some 18) (v := ?_) (a' := ?_) #[true, true, true, true, true, true, true, true, true, true, true, true, true, true, true, true, true, true, false, false, false, false] rfl rfl (take_ofW HT_.out HW_.out (by kernel_rfl)) (fun _ _ _ h => h) (Or.inl ⟨by rfl, ?_⟩) hHeld ?_ ?_
   rotate_left
   ·rintro w' ⟨s0, s1, s2, s3, s4, s5, s6, s7, s8, s9, s10, s11, s12⟩
    go_simp
    with_reducible rfl
   rotate_left
   ·simp only [Act.put, List.setIfInBounds_toArray, List.set_cons_zero, List.set_cons_succ, i64_w, i32_w]
    rfl
   refine take_ (i := 18) (N := some 21) (v := ?_) (a' := ?_) #[true, true, true, true, true, true, true, true, true, true, true, true, true, true, true, true, true, true, true, false, false, false] rfl rfl (take_ofW HT_.out HW_.out (by kernel_rfl)) (fun _ _ _ h => h) (Or.inl ⟨by rfl, ?_⟩) hHeld ?_ ?_
   rotate_left
   ·rintro w' ⟨s0, s1, s2, s3, s4, s5, s6, s7, s8, s9, s10, s11, s12⟩
    go_simp
    with_reducible rfl
   rotate_left
   ·simp only [Act.put, List.setIfInBounds_toArray, List.set_cons_zero, List.set_cons_succ, i64_w, i32_w]
    rfl
   refine one_ (i := 19) (N := some 22) #[true, true, true, true, true, true, true, true, true, true, true, true, true, true, true, true, true, true, true, true, false, false] rfl rfl (one_of HT_.out (by kernel_rfl)) (by decide) (fun K hK => ?_)
   refine goes_ Try.func118 (by kernel_rfl) rfl #[.agg #[.int .i64 a0_8, .int .i64 a0_9, .int .i64 a0_10], .agg #[.int .i64 a0_2, .int .i64 a0_3, .int .i64 a0_4]] (by rfl) rfl rfl (by (try simp only [List.map_toArray, List.map_cons, List.map_nil]); first | done | rfl | (simp only [List.length_drop, List.length_take]; rfl)) ?_
   with_reducible refine (vec_Le.calls a0_8 a0_9 a0_10 a0_2 a0_3 a0_4 t8 _ A5.out).mono ?_
   rintro e w12 ⟨rfl, hb⟩
   refine ⟨_, rfl, ?_⟩
   have n0_ := Aside0.mk (Kd.R_below (by (with_reducible repeat (first|apply Kd.R_alloc|apply Kd.R_drewN|apply Kd.R_drew));exact HO4.out) hb)
   have n1_ := Aside0.mk (blk_below (g := gb1) (o := .cells #[.string a0_0, .string a0_1, .int .i64 a0_2, .int .i64 a0_3, .int .i64 a0_4, .int .i64 a0_5, .int .i64 a0_6, .int .i64 a0_7, .int .i64 a0_8, .int .i64 a0_9, .int .i64 a0_10, .int .i64 a0_11, .slice Ao6 l0_12.length co6] 159 (0, 0)) (by (with_reducible repeat (first|refine blk_drewN ?_ _|refine blk_drew ?_|refine blk_alloc ?_ _));exact BK1.out) hb)
   have n2_ := Aside0.mk (Kept.below (S := (fun k_ => P0_12_ k_)) (by repeat (first|(with_reducible first|exact HK.out|apply Kept.alloc|apply Kept.drewN|apply Kept.drew|refine Kept.setCell ?_ (.inr GW1.out) _)|exact HK.out)) hb)
   have n3_ := Aside0.mk (below_step (by repeat (first|(with_reducible first|exact HB.out|apply below_alloc|apply pw_below_drewN|apply below_drew1|refine below_set ?_ GE1.out)|exact HB.out)) hb)
   clear HO4
   clear BK1
   clear HK
   clear HB
   have HO4 := n0_
   have BK1 := n1_
   have HK := n2_
   have HB := n3_
   clear n0_ n1_ n2_ n3_
   (try clear hb)
   (try clear hb2)
   (try clear hk)
   (try clear hi)
   refine hK.out _ _ ⟨(blk_cell BK1.out 0).trans rfl, (blk_cell BK1.out 1).trans rfl, (blk_cell BK1.out 2).trans rfl, (blk_cell BK1.out 3).trans rfl, (blk_cell BK1.out 4).trans rfl, (blk_cell BK1.out 5).trans rfl, (blk_cell BK1.out 6).trans rfl, (blk_cell BK1.out 7).trans rfl, (blk_cell BK1.out 8).trans rfl, (blk_cell BK1.out 9).trans rfl, (blk_cell BK1.out 10).trans rfl, (blk_cell BK1.out 11).trans rfl, (blk_cell BK1.out 12).trans rfl⟩ (fun hHeld => ?_)
   clear hK K
   refine norm_ (a' := ?_) ?_ ?_
   rotate_left
   ·show Act.put _ (some 22) _ = _
    simp only [Act.put, List.setIfInBounds_toArray, List.set_cons_zero, List.set_cons_succ, i64_w, i32_w]
    rfl
   refine pure_ (i := 20) (N := some 23) (v := ?_) (a' := ?_) #[true, true, true, true, true, true, true, true, true, true, true, true, true, true, true, true, true, true, true, true, true, false] rfl rfl (any_of HT_.out (by kernel_rfl)) (fun _ _ _ h => h) (Or.inl ⟨by rfl, ?_⟩) ?_ ?_
   rotate_left
   ·intro w'
    go_simp
    with_reducible rfl
   rotate_left
   ·simp only [Act.put, List.setIfInBounds_toArray, List.set_cons_zero, List.set_cons_succ, i64_w, i32_w]
    rfl
   refine pure_ (i := 21) (N := some 2) (v := ?_) (a' := ?_) #[true, true, true, true, true, true, true, true, true, true, true, true, true, true, true, true, true, true, true, true, true, true] rfl rfl (any_of HT_.out (by kernel_rfl)) (fun _ _ _ h => h) (Or.inl ⟨by rfl, ?_⟩) ?_ ?_
   rotate_left
   ·intro w'
    go_simp
    with_reducible rfl
   rotate_left
   ·simp only [Act.put, List.setIfInBounds_toArray, List.set_cons_zero, List.set_cons_succ, i64_w, i32_w]
    rfl
   refine done_ (done_of HT_.out (by kernel_rfl)) ?_
   try go_wp2
   go_ret
   exact ⟨by first|rfl|(simp [errW_none, errW_some] <;> rfl)|(simp [*, errW_none, errW_some] <;> rfl), by repeat (first|(with_reducible first|exact HB.out|apply below_alloc|apply pw_below_drewN|apply below_drew1|refine below_set ?_ GE1.out)|exact HB.out), by repeat (first|(with_reducible first|exact HK.out|apply Kept.alloc|apply Kept.drewN|apply Kept.drew|refine Kept.setCell ?_ (.inr GW1.out) _)|exact HK.out)⟩
  ·rw [if_neg c4] at H
   have c4b0 : (a0_8 == t5 && (a0_9 == t6 && (a0_10 == t7))) = false := by simpa using c4
   (try (have c4b1 : decide (a0_8 = t5 && (a0_9 == t6 && (a0_10 == t7))) = false := by simpa using c4))
   (try (have c4b2 : (a0_8 == t5 && (a0_9 == t6 && (a0_10 == t7))) = false := by simpa using c4))
   (try (have c4b3 : ¬ (a0_8 = t5 && (a0_9 == t6 && (a0_10 == t7))) := by simpa using c4))
   clear c4
   obtain rfl := Option.some.inj H
   obtain ⟨Ao13, co13, eo13⟩ := Kd.R_slice HO0_12.out
   subst eo13
   go_enter Try.func126, Try.ntmps126
   try go_wp2_with (first|((with_reducible refine gate_dst (N := 1) rfl ?_);refine box_event ?hg (N := 1) ?hd (cs := #[.string a0_0, .string a0_1, .int .i64 a0_2, .int .i64 a0_3, .int .i64 a0_4, .int .i64 a0_5, .int .i64 a0_6, .int .i64 a0_7, .int .i64 a0_8, .int .i64 a0_9, .int .i64 a0_10, .int .i64 a0_11, .slice Ao13 l0_12.length co13]) (t := 159) ?hr ?_;(case hd => rfl);(case hg => rfl);(case hr => first|(go_simp;done)|(go_simp;rfl));intro gb1 hg w14 hbox hb;have n0_ := Aside0.mk (Kd.R_below (by (with_reducible repeat (first|apply Kd.R_alloc|apply Kd.R_drewN|apply Kd.R_drew));exact HO0_12.out) hb);have n1_ := Aside0.mk (Kept.below (S := (fun k_ => P0_12_ k_)) (by repeat (first|(with_reducible first|exact HK.out|apply Kept.alloc|apply Kept.drewN|apply Kept.drew)|exact HK.out)) hb);have n2_ := Aside0.mk (below_step (by repeat (first|(with_reducible first|exact HB.out|apply below_alloc|apply pw_below_drewN|apply below_drew1)|exact HB.out)) hb);have n3_ := Aside0.mk (hbox);have n4_ := Aside0.mk ((by rw [hg];exact (by first|exact HK.out.1|exact (show Kept w _ (fun k_ => P0_12_ k_) from by repeat (first|(with_reducible first|exact HK.out|apply Kept.alloc|apply Kept.drewN|apply Kept.drew)|exact HK.out)).1) : w.heap.size ≤ gb1));have n5_ := Aside0.mk ((by rw [hg];exact (below_size (by repeat (first|(with_reducible first|exact HB.out|apply below_alloc|apply pw_below_drewN|apply below_drew1)|exact HB.out))) : w0.heap.size ≤ gb1));clear HO0_12;clear HK;clear HB;have HO0_12 := n0_;have HK := n1_;have HB := n2_;have BK1 := n3_;have GW1 := n4_;have GE1 := n5_;clear n0_ n1_ n2_ n3_ n4_ n5_;clear hb hbox hg))
   have n0_ := Aside0.mk (Kd.R_drew HO0_12.out)
   have n1_ := Aside0.mk (blk_drew BK1.out)
   have n2_ := Aside0.mk (Kept.drew HK.out)
   have n3_ := Aside0.mk (below_drew1 HB.out)
   clear HO0_12
   clear BK1
   clear HK
   clear HB
   have HO0_12 := n0_
   have BK1 := n1_
   have HK := n2_
   have HB := n3_
   clear n0_ n1_ n2_ n3_
   refine start_ (n := 22) (S := fun w' => w'.cell? ⟨gb1, 0, none⟩ = some (.string a0_0) ∧ w'.cell? ⟨gb1, 1, none⟩ = some (.string a0_1) ∧ w'.cell? ⟨gb1, 2, none⟩ = some (.int .i64 a0_2) ∧ w'.cell? ⟨gb1, 3, none⟩ = some (.int .i64 a0_3) ∧ w'.cell? ⟨gb1, 4, none⟩ = some (.int .i64 a0_4) ∧ w'.cell? ⟨gb1, 5, none⟩ = some (.int .i64 a0_5) ∧ w'.cell? ⟨gb1, 6, none⟩ = some (.int .i64 a0_6) ∧ w'.cell? ⟨gb1, 7, none⟩ = some (.int .i64 a0_7) ∧ w'.cell? ⟨gb1, 8, none⟩ = some (.int .i64 a0_8) ∧ w'.cell? ⟨gb1, 9, none⟩ = some (.int .i64 a0_9) ∧ w'.cell? ⟨gb1, 10, none⟩ = some (.int .i64 a0_10) ∧ w'.cell? ⟨gb1, 11, none⟩ = some (.int .i64 a0_11) ∧ w'.cell? ⟨gb1, 12, none⟩ = some (.slice Ao13 l0_12.length co13)) (ds := []) #[false, false, false, false, false, false, false, false, false, false, false, false, false, false, false, false, false, false, false, false, false, false] (by kernel_rfl) rfl rfl ⟨(blk_cell BK1.out 0).trans rfl, (blk_cell BK1.out 1).trans rfl, (blk_cell BK1.out 2).trans rfl, (blk_cell BK1.out 3).trans rfl, (blk_cell BK1.out 4).trans rfl, (blk_cell BK1.out 5).trans rfl, (blk_cell BK1.out 6).trans rfl, (blk_cell BK1.out 7).trans rfl, (blk_cell BK1.out 8).trans rfl, (blk_cell BK1.out 9).trans rfl, (blk_cell BK1.out 10).trans rfl, (blk_cell BK1.out 11).trans rfl, (blk_cell BK1.out 12).trans rfl⟩ (fun hHeld => ?_); refine with_tabW tree_node_fits.tab1 tree_node_fits.bits1 (fun HT_ HW_ => ?_)
   generalize w14.drew = w15 at HO0_12 BK1 HK HB hHeld ⊢
   refine pure_ (i := 0) (N := some 3) (v := ?_) (a' := ?_) #[true, false, false, false, false, false, false, false, false, false, false, false, false, false, false, false, false, false, false, false, false, false] rfl rfl (any_of HT_.out (by kernel_rfl)) (fun _ _ _ h => h) (Or.inl ⟨by rfl, ?_⟩) ?_ ?_
   rotate_left
   ·intro w'
    go_simp
    with_reducible rfl
   rotate_left
   ·simp only [Act.put, List.setIfInBounds_toArray, List.set_cons_zero, List.set_cons_succ, i64_w, i32_w]
    rfl
   refine pure_ (i := 1) (N := some 4) (v := ?_) (a' := ?_) #[true, true, false, false, false, false, false, false, false, false, false, false, false, false, false, false, false, false, false, false, false, false] rfl rfl (any_of HT_.out (by kernel_rfl)) (fun _ _ _ h => h) (Or.inl ⟨by rfl, ?_⟩) ?_ ?_
   rotate_left
   ·intro w'
    go_simp
    with_reducible rfl
   rotate_left
   ·simp only [Act.put, List.setIfInBounds_toArray, List.set_cons_zero, List.set_cons_succ, i64_w, i32_w]
    rfl
   refine pure_ (i := 3) (N := some 6) (v := ?_) (a' := ?_) #[true, true, false, true, false, false, false, false, false, false, false, false, false, false, false, false, false, false, false, false, false, false] rfl rfl (any_of HT_.out (by kernel_rfl)) (fun _ _ _ h => h) (Or.inl ⟨by rfl, ?_⟩) ?_ ?_
   rotate_left
   ·intro w'
    go_simp
    with_reducible rfl
   rotate_left
   ·simp only [Act.put, List.setIfInBounds_toArray, List.set_cons_zero, List.set_cons_succ, i64_w, i32_w]
    rfl
   refine pure_ (i := 5) (N := some 8) (v := ?_) (a' := ?_) #[true, true, false, true, false, true, false, false, false, false, false, false, false, false, false, false, false, false, false, false, false, false] rfl rfl (any_of HT_.out (by kernel_rfl)) (fun _ _ _ h => h) (Or.inl ⟨by rfl, ?_⟩) ?_ ?_
   rotate_left
   ·intro w'
    go_simp
    with_reducible rfl
   rotate_left
   ·simp only [Act.put, List.setIfInBounds_toArray, List.set_cons_zero, List.set_cons_succ, i64_w, i32_w]
    rfl
   refine pure_ (i := 6) (N := some 9) (v := ?_) (a' := ?_) #[true, true, false, true, false, true, true, false, false, false, false, false, false, false, false, false, false, false, false, false, false, false] rfl rfl (any_of HT_.out (by kernel_rfl)) (fun _ _ _ h => h) (Or.inl ⟨by rfl, ?_⟩) ?_ ?_
   rotate_left
   ·intro w'
    go_simp
    with_reducible rfl
   rotate_left
   ·simp only [Act.put, List.setIfInBounds_toArray, List.set_cons_zero, List.set_cons_succ, i64_w, i32_w]
    rfl
   refine take_ (i := 2) (N := some 5) (v := ?_) (a' := ?_) #[true, true, true, true, false, true, true, false, false, false, false, false, false, false, false, false, false, false, false, false, false, false] rfl rfl (take_ofW HT_.out HW_.out (by kernel_rfl)) (fun _ _ _ h => h) (Or.inl ⟨by rfl, ?_⟩) hHeld ?_ ?_
   rotate_left
   ·rintro w' ⟨s0, s1, s2, s3, s4, s5, s6, s7, s8, s9, s10, s11, s12⟩
    go_simp
    with_reducible rfl
   rotate_left
   ·simp only [Act.put, List.setIfInBounds_toArray, List.set_cons_zero, List.set_cons_succ, i64_w, i32_w]
    rfl
   refine take_ (i := 4) (N := some 7) (v := ?_) (a' := ?_) #[true, true, true, true, true, true, true, false, false, false, false, false, false, false, false, false, false, false, false, false, false, false] rfl rfl (take_ofW HT_.out HW_.out (by kernel_rfl)) (fun _ _ _ h => h) (Or.inl ⟨by rfl, ?_⟩) hHeld ?_ ?_
   rotate_left
   ·rintro w' ⟨s0, s1, s2, s3, s4, s5, s6, s7, s8, s9, s10, s11, s12⟩
    go_simp
    with_reducible rfl
   rotate_left
   ·simp only [Act.put, List.setIfInBounds_toArray, List.set_cons_zero, List.set_cons_succ, i64_w, i32_w]
    rfl
   refine take_ (i := 7) (N := some 10) (v := ?_) (a' := ?_) #[true, true, true, true, true, true, true, true, false, false, false, false, false, false, false, false, false, false, false, false, false, false] rfl rfl (take_ofW HT_.out HW_.out (by kernel_rfl)) (fun _ _ _ h => h) (Or.inl ⟨by rfl, ?_⟩) hHeld ?_ ?_
   rotate_left
   ·rintro w' ⟨s0, s1, s2, s3, s4, s5, s6, s7, s8, s9, s10, s11, s12⟩
    go_simp
    with_reducible rfl
   rotate_left
   ·simp only [Act.put, List.setIfInBounds_toArray, List.set_cons_zero, List.set_cons_succ, i64_w, i32_w]
    rfl
   refine one_ (i := 8) (N := some 11) #[true, true, true, true, true, true, true, true, true, false, false, false, false, false, false, false, false, false, false, false, false, false] rfl rfl (one_of HT_.out (by kernel_rfl)) (by decide) (fun K hK => ?_)
   refine value_ (w1 := ?_) (v := ?_) (by rfl) rfl ?_ ?_
   rotate_left 2
   ·go_simp
    constructor
    ·rfl
    ·rfl
   refine hK.out _ _ ⟨(blk_cell (blk_alloc BK1.out _) 0).trans rfl, (blk_cell (blk_alloc BK1.out _) 1).trans rfl, (blk_cell (blk_alloc BK1.out _) 2).trans rfl, (blk_cell (blk_alloc BK1.out _) 3).trans rfl, (blk_cell (blk_alloc BK1.out _) 4).trans rfl, (blk_cell (blk_alloc BK1.out _) 5).trans rfl, (blk_cell (blk_alloc BK1.out _) 6).trans rfl, (blk_cell (blk_alloc BK1.out _) 7).trans rfl, (blk_cell (blk_alloc BK1.out _) 8).trans rfl, (blk_cell (blk_alloc BK1.out _) 9).trans rfl, (blk_cell (blk_alloc BK1.out _) 10).trans rfl, (blk_cell (blk_alloc BK1.out _) 11).trans rfl, (blk_cell (blk_alloc BK1.out _) 12).trans rfl⟩ (fun hHeld => ?_)
   clear hK K
   refine norm_ (a' := ?_) ?_ ?_
   rotate_left
   ·show Act.put _ (some 11) _ = _
    simp only [Act.put, List.setIfInBounds_toArray, List.set_cons_zero, List.set_cons_succ, i64_w, i32_w]
    rfl
   refine one_ (i := 9) (N := some 12) #[true, true, true, true, true, true, true, true, true, true, false, false, false, false, false, false, false, false, false, false, false, false] rfl rfl (one_of HT_.out (by kernel_rfl)) (by decide) (fun K hK => ?_)
   refine Kd.R_append_step k27 (w0 := w0) w0.heap.size (by rfl) (.tmp 7) (.tmp 11) 157 27 (.agg #[(.int .i64 0), (.int .i64 0), (.int .i64 0)]) 24 rfl Try.underlying157 info27 rfl (by decide) (by omega) (.slice Ao13 l0_12.length co13) l0_12 (⟨a0_5, a0_6, a0_7⟩ : S27) [.int .i64 a0_5, .int .i64 a0_6, .int .i64 a0_7] (fun k_ => (P0_12_ k_ ∨ w.heap.size ≤ k_)) (fun _ => False) rfl rfl ?aP (fun _ hk => hk.elim) ?aF ?aO ?aB ?aS ?aL ?_
   (case aP => exact k27_mkM _ _ _ (⟨a0_5, a0_6, a0_7⟩ : S27))
   (case aB => exact (by repeat (first|(with_reducible first|exact HB.out|apply below_alloc|apply pw_below_drewN|apply below_drew1|refine below_set ?_ GE1.out)|exact HB.out)))
   (case aF => exact (fun k_ hk => (.inr (Nat.le_trans (by first|exact HK.out.1|exact (show Kept w _ (fun k_ => P0_12_ k_) from by repeat (first|(with_reducible first|exact HK.out|apply Kept.alloc|apply Kept.drewN|apply Kept.drew|refine Kept.setCell ?_ (.inr GW1.out) _)|exact HK.out)).1) hk))))
   (case aO => exact (by (with_reducible repeat (first|apply Kd.R_alloc|apply Kd.R_drewN|apply Kd.R_drew));exact HO0_12.out))
   (case aS => exact (below_size (by repeat (first|(with_reducible first|exact HB.out|apply below_alloc|apply pw_below_drewN|apply below_drew1|refine below_set ?_ GE1.out)|exact HB.out))))
   (case aL => have := LMc2.out; omega)
   intro v3 w16 ho hb hg hat
   rw [← Ny2.out] at ho
   have n0_ := Aside0.mk (blk_grown (g := gb1) (o := .cells #[.string a0_0, .string a0_1, .int .i64 a0_2, .int .i64 a0_3, .int .i64 a0_4, .int .i64 a0_5, .int .i64 a0_6, .int .i64 a0_7, .int .i64 a0_8, .int .i64 a0_9, .int .i64 a0_10, .int .i64 a0_11, .slice Ao13 l0_12.length co13] 159 (0, 0)) (by (with_reducible repeat (first|refine blk_drewN ?_ _|refine blk_drew ?_|refine blk_alloc ?_ _));exact BK1.out) hg (Kd.R_ne HO0_12.out BK1.out (by decide)))
   have n1_ := Aside0.mk (hb)
   have n2_ := Aside0.mk (Kept.of_grown (S := (fun k_ => P0_12_ k_)) hg (by repeat (first|(with_reducible first|exact HK.out|apply Kept.alloc|apply Kept.drewN|apply Kept.drew|refine Kept.setCell ?_ (.inr GW1.out) _)|exact HK.out)) (fun k_ e_ => (HO0_12.out.1 k_ e_)))
   have n3_ := Aside0.mk (ho)
   clear BK1
   clear HB
   clear HK
   clear HO0_12
   have BK1 := n0_
   have HB := n1_
   have HK := n2_
   have HO4 := n3_
   clear n0_ n1_ n2_ n3_
   clear ho hb hg hat
   obtain ⟨Ao17, co17, eo17⟩ := Kd.R_slice HO4.out
   (first | subst eo17 | (injection eo17 with f1_ f2_ f3_; have f4_ := f1_.symm; have f5_ := f3_.symm; clear f1_ f2_ f3_; subst f4_; subst f5_))
   refine hK.out _ _ ⟨(blk_cell BK1.out 0).trans rfl, (blk_cell BK1.out 1).trans rfl, (blk_cell BK1.out 2).trans rfl, (blk_cell BK1.out 3).trans rfl, (blk_cell BK1.out 4).trans rfl, (blk_cell BK1.out 5).trans rfl, (blk_cell BK1.out 6).trans rfl, (blk_cell BK1.out 7).trans rfl, (blk_cell BK1.out 8).trans rfl, (blk_cell BK1.out 9).trans rfl, (blk_cell BK1.out 10).trans rfl, (blk_cell BK1.out 11).trans rfl, (blk_cell BK1.out 12).trans rfl⟩ (fun hHeld => ?_)
   clear hK K
   refine norm_ (a' := ?_) ?_ ?_
   rotate_left
   ·show Act.put _ (some 12) _ = _
    simp only [Act.put, List.setIfInBounds_toArray, List.set_cons_zero, List.set_cons_succ, i64_w, i32_w]
    rfl
   refine one_ (i := 10) (N := some 13) #[true, true, true, true, true, true, true, true, true, true, true, false, false, false, false, false, false, false, false, false, false, false] rfl rfl (one_of HT_.out (by kernel_rfl)) (by decide) (fun K hK => ?_)
   refine goes_ Try.func119 (by kernel_rfl) rfl #[.slice Ao17 y2.length co17] (by rfl) rfl rfl (by (try simp only [List.map_toArray, List.map_cons, List.map_nil]); first | done | rfl | (simp only [List.length_drop, List.length_take]; rfl)) ?_
   with_reducible refine (vec_Add.calls _ _ y2 t5 t6 t7 _ ?side1 ?side2 A3.out).mono ?_
   (case side1 => repeat (first|exact (Kd.R_reads' HO4.out).2.2|(with_reducible refine Kd.C_alloc ?_ _)|(with_reducible refine Kd.C_drewN ?_ _)|(with_reducible refine Kd.C_drew ?_)))
   (case side2 => exact (Kd.R_reads' HO4.out).2.1)
   rintro e w18 ⟨rfl, hb⟩
   refine ⟨_, rfl, ?_⟩
   have n0_ := Aside0.mk (Kd.R_below (by (with_reducible repeat (first|apply Kd.R_alloc|apply Kd.R_drewN|apply Kd.R_drew));exact HO4.out) hb)
   have n1_ := Aside0.mk (blk_below (g := gb1) (o := .cells #[.string a0_0, .string a0_1, .int .i64 a0_2, .int .i64 a0_3, .int .i64 a0_4, .int .i64 a0_5, .int .i64 a0_6, .int .i64 a0_7, .int .i64 a0_8, .int .i64 a0_9, .int .i64 a0_10, .int .i64 a0_11, .slice Ao13 l0_12.length co13] 159 (0, 0)) (by (with_reducible repeat (first|refine blk_drewN ?_ _|refine blk_drew ?_|refine blk_alloc ?_ _));exact BK1.out) hb)
   have n2_ := Aside0.mk (Kept.below (S := (fun k_ => P0_12_ k_)) (by repeat (first|(with_reducible first|exact HK.out|apply Kept.alloc|apply Kept.drewN|apply Kept.drew|refine Kept.setCell ?_ (.inr GW1.out) _)|exact HK.out)) hb)
   have n3_ := Aside0.mk (below_step (by repeat (first|(with_reducible first|exact HB.out|apply below_alloc|apply pw_below_drewN|apply below_drew1|refine below_set ?_ GE1.out)|exact HB.out)) hb)
   clear HO4
   clear BK1
   clear HK
   clear HB
   have HO4 := n0_
   have BK1 := n1_
   have HK := n2_
   have HB := n3_
   clear n0_ n1_ n2_ n3_
   (try clear hb)
   (try clear hb2)
   (try clear hk)
   (try clear hi)
   refine hK.out _ _ ⟨(blk_cell BK1.out 0).trans rfl, (blk_cell BK1.out 1).trans rfl, (blk_cell BK1.out 2).trans rfl, (blk_cell BK1.out 3).trans rfl, (blk_cell BK1.out 4).trans rfl, (blk_cell BK1.out 5).trans rfl, (blk_cell BK1.out 6).trans rfl, (blk_cell BK1.out 7).trans rfl, (blk_cell BK1.out 8).trans rfl, (blk_cell BK1.out 9).trans rfl, (blk_cell BK1.out 10).trans rfl, (blk_cell BK1.out 11).trans rfl, (blk_cell BK1.out 12).trans rfl⟩ (fun hHeld => ?_)
   clear hK K
   refine norm_ (a' := ?_) ?_ ?_
   rotate_left
   ·show Act.put _ (some 13) _ = _
    simp only [Act.put, List.setIfInBounds_toArray, List.set_cons_zero, List.set_cons_succ, i64_w, i32_w]
    rfl
   refine pure_ (i := 11) (N := some 14) (v := ?_) (a' := ?_) #[true, true, true, true, true, true, true, true, true, true, true, true, false, false, false, false, false, false, false, false, false, false] rfl rfl (any_of HT_.out (by kernel_rfl)) (fun _ _ _ h => h) (Or.inl ⟨by rfl, ?_⟩) ?_ ?_
   rotate_left
   ·intro w'
    go_simp
    with_reducible rfl
   rotate_left
   ·simp only [Act.put, List.setIfInBounds_toArray, List.set_cons_zero, List.set_cons_succ, i64_w, i32_w]
    rfl
   refine pure_ (i := 12) (N := some 15) (v := ?_) (a' := ?_) #[true, true, true, true, true, true, true, true, true, true, true, true, true, false, false, false, false, false, false, false, false, false] rfl rfl (any_of HT_.out (by kernel_rfl)) (fun _ _ _ h => h) (Or.inl ⟨by rfl, ?_⟩) ?_ ?_
   rotate_left
   ·intro w'
    go_simp
    with_reducible rfl
   rotate_left
   ·simp only [Act.put, List.setIfInBounds_toArray, List.set_cons_zero, List.set_cons_succ, i64_w, i32_w]
    rfl
   refine pure_ (i := 13) (N := some 16) (v := undef) (a' := ?_) #[true, true, true, true, true, true, true, true, true, true, true, true, true, true, false, false, false, false, false, false, false, false] rfl rfl (any_of HT_.out (by kernel_rfl)) (fun _ _ _ h => h) (Or.inr ⟨by rfl, rfl⟩) ?_ ?_
   rotate_left
   ·simp only [Act.put, List.setIfInBounds_toArray, List.set_cons_zero, List.set_cons_succ, i64_w, i32_w]
    rfl
   refine pure_ (i := 14) (N := some 17) (v := undef) (a' := ?_) #[true, true, true, true, true, true, true, true, true, true, true, true, true, true, true, false, false, false, false, false, false, false] rfl rfl (any_of HT_.out (by kernel_rfl)) (fun _ _ _ h => h) (Or.inr ⟨by rfl, rfl⟩) ?_ ?_
   rotate_left
   ·simp only [Act.put, List.setIfInBounds_toArray, List.set_cons_zero, List.set_cons_succ, i64_w, i32_w]
    rfl
   refine pure_ (i := 15) (N := some 18) (v := undef) (a' := ?_) #[true, true, true, true, true, true, true, true, true, true, true, true, true, true, true, true, false, false, false, false, false, false] rfl rfl (any_of HT_.out (by kernel_rfl)) (fun _ _ _ h => h) (Or.inr ⟨by rfl, rfl⟩) ?_ ?_
   rotate_left
   ·simp only [Act.put, List.setIfInBounds_toArray, List.set_cons_zero, List.set_cons_succ, i64_w, i32_w]
    rfl
   refine pure_ (i := 16) (N := some 19) (v := undef) (a' := ?_) #[true, true, true, true, true, true, true, true, true, true, true, true, true, true, true, true, true, false, false, false, false, false] rfl rfl (any_of HT_.out (by kernel_rfl)) (fun _ _ _ h => h) (Or.inr ⟨by rfl, rfl⟩) ?_ ?_
   rotate_left
   ·simp only [Act.put, List.setIfInBounds_toArray, List.set_cons_zero, List.set_cons_succ, i64_w, i32_w]
    rfl
   refine pure_ (i := 17) (N := some 20) (v := undef) (a' := ?_) #[true, true, true, true, true, true, true, true, true, true, true, true, true, true, true, true, true, true, false, false, false, false] rfl rfl (any_of HT_.out (by kernel_rfl)) (fun _ _ _ h => h) (Or.inr ⟨by rfl, rfl⟩) ?_ ?_
   rotate_left
   ·simp only [Act.put, List.setIfInBounds_toArray, List.set_cons_zero, List.set_cons_succ, i64_w, i32_w]
    rfl
   refine pure_ (i := 18) (N := some 21) (v := undef) (a' := ?_) #[true, true, true, true, true, true, true, true, true, true, true, true, true, true, true, true, true, true, true, false, false, false] rfl rfl (any_of HT_.out (by kernel_rfl)) (fun _ _ _ h => h) (Or.inr ⟨by rfl, rfl⟩) ?_ ?_
   rotate_left
   ·simp only [Act.put, List.setIfInBounds_toArray, List.set_cons_zero, List.set_cons_succ, i64_w, i32_w]
    rfl
   refine pure_ (i := 19) (N := some 22) (v := undef) (a' := ?_) #[true, true, true, true, true, true, true, true, true, true, true, true, true, true, true, true, true, true, true, true, false, false] rfl rfl (any_of HT_.out (by kernel_rfl)) (fun _ _ _ h => h) (Or.inr ⟨by rfl, rfl⟩) ?_ ?_
   rotate_left
   ·simp only [Act.put, List.setIfInBounds_toArray, List.set_cons_zero, List.set_cons_succ, i64_w, i32_w]
    rfl
   refine pure_ (i := 20) (N := some 23) (v := ?_) (a' := ?_) #[true, true, true, true, true, true, true, true, true, true, true, true, true, true, true, true, true, true, true, true, true, false] rfl rfl (any_of HT_.out (by kernel_rfl)) (fun _ _ _ h => h) (Or.inl ⟨by rfl, ?_⟩) ?_ ?_
   rotate_left
   ·intro w'
    go_simp
    with_reducible rfl
   rotate_left
   ·simp only [Act.put, List.setIfInBounds_toArray, List.set_cons_zero, List.set_cons_succ, i64_w, i32_w]
    rfl
   refine pure_ (i := 21) (N := some 2) (v := ?_) (a' := ?_) #[true, true, true, true, true, true, true, true, true, true, true, true, true, true, true, true, true, true, true, true, true, true] rfl rfl (any_of HT_.out (by kernel_rfl)) (fun _ _ _ h => h) (Or.inl ⟨by rfl, ?_⟩) ?_ ?_
   rotate_left
   ·intro w'
    go_simp
    with_reducible rfl
   rotate_left
   ·simp only [Act.put, List.setIfInBounds_toArray, List.set_cons_zero, List.set_cons_succ, i64_w, i32_w]
    rfl
   refine done_ (done_of HT_.out (by kernel_rfl)) ?_
   try go_wp2
   go_ret
   exact ⟨by first|rfl|(simp [errW_none, errW_some] <;> rfl)|(simp [*, errW_none, errW_some] <;> rfl), by repeat (first|(with_reducible first|exact HB.out|apply below_alloc|apply pw_below_drewN|apply below_drew1|refine below_set ?_ GE1.out)|exact HB.out), by repeat (first|(with_reducible first|exact HK.out|apply Kept.alloc|apply Kept.drewN|apply Kept.drew|refine Kept.setCell ?_ (.inr GW1.out) _)|exact HK.out)⟩
 ·rw [if_neg c2] at H
  exact absurd H (by simp)
end Go.Proofs.Ytcgefpklljclgaa.Print
