/- A part of the proof of AdmitRoom: the machine's side by the kit's print, contracts and lemmas by this session. -/
import Derived.Laws.Strings
import Derived.Test.YtcgefpklljclgaaBAdmitRoom1
import Derived.Test.YtcgefpklljclgaaBAdmitRoom2
import Derived.Test.YtcgefpklljclgaaBAdmitRoom3
import Derived.Test.YtcgefpklljclgaaBAdmitRoom4
namespace Go.Proofs.Ytcgefpklljclgaa.Print
open Go.RowKit Go.Proofs.YtcgefpklljclgaaW.PrintWords Go.Proofs.YtcgefpklljclgaaW.PrintLast Go.Proofs.YtcgefpklljclgaaW.PrintMore
attribute [local go_sem] max2_int min2_int max_two min_two max_three min_three max_four min_four   -- for this text's walks alone
set_option linter.unusedVariables false
set_option linter.unusedSimpArgs false
/-! ### law14_awake: function 59 -/
def law14_awake.f (k : Nat)  : Option (Bool) := (admit_Admit.f k ([] : List (S31)) (⟨#[97]⟩ : ByteArray) 0 0 0).bind fun bt1 => ((admit_Admit.f k (([(⟨(⟨#[97]⟩ : ByteArray), (⟨#[]⟩ : ByteArray), (⟨5, 0, 0⟩ : S27), (⟨0, 0, 0⟩ : S27), (⟨0, 0, 0⟩ : S27), 1⟩ : S31)] : List (S31))) (⟨#[97]⟩ : ByteArray) 3 0 0).bind fun bt8 => ((law1_Num.f bt1.2).bind fun t12 => (if t12 = 2 then ((law1_Num.f bt8.2).bind fun t13 => (if t13 = 0 then (if (bt8.1.length : Int) = 1 then (if 0 < (bt8.1.length : Int) then (if ((rd_T31 bt8.1 0).f3.f0) = 3 then (some (((rd_T31 bt8.1 0).f4.f0) == 3)) else (some false)) else (none)) else (some false)) else (some false))) else (some false))))
theorem law14_awake.mono : ∀ k, LeO (law14_awake.f k ) (law14_awake.f (k + 1) ) := by
 intro  k
 unfold law14_awake.f
 repeat' first
   | (with_reducible exact admit_Admit.mono _ _ _ _ _ _)
   | (with_reducible exact LeO.refl _)
   | (with_reducible exact LeO.none _)
   | (with_reducible refine LeO.ite ?_ ?_)
   | (with_reducible refine LeO.bind ?_ (fun _ => ?_))
   | exact admit_Admit.mono _ _ _ _ _ _
   | exact LeO.none _
   | refine LeO.ite ?_ ?_
   | refine LeO.bind ?_ (fun _ => ?_)
set_option maxHeartbeats 8000000 in
set_option maxRecDepth 100000 in
theorem law14_awake.calls (k : Nat)  (r : Bool) (w : World) (h : law14_awake.f k  = some r) :
  Calls Try.prog 59 #[] w fun e w' => e = .returned (.bool r) ∧ Below w.heap.size w w' := by
 have hu27 := Try.underlying27
 have hu31 := Try.underlying31
 have HB := Aside0.mk (Below.refl w.heap.size w)
 have H : ((admit_Admit.f k ([] : List (S31)) (⟨#[97]⟩ : ByteArray) 0 0 0).bind fun bt1 => ((admit_Admit.f k (([(⟨(⟨#[97]⟩ : ByteArray), (⟨#[]⟩ : ByteArray), (⟨5, 0, 0⟩ : S27), (⟨0, 0, 0⟩ : S27), (⟨0, 0, 0⟩ : S27), 1⟩ : S31)] : List (S31))) (⟨#[97]⟩ : ByteArray) 3 0 0).bind fun bt8 => ((law1_Num.f bt1.2).bind fun t12 => (if t12 = 2 then ((law1_Num.f bt8.2).bind fun t13 => (if t13 = 0 then (if (bt8.1.length : Int) = 1 then (if 0 < (bt8.1.length : Int) then (if ((rd_T31 bt8.1 0).f3.f0) = 3 then (some (((rd_T31 bt8.1 0).f4.f0) == 3)) else (some false)) else (none)) else (some false)) else (some false))) else (some false))))) = some r := h
 clear h
 replace H := Option.bind_eq_some_iff.mp H
 obtain ⟨⟨t1, t4⟩, A10, H⟩ := H
 replace H : ((admit_Admit.f k (([(⟨(⟨#[97]⟩ : ByteArray), (⟨#[]⟩ : ByteArray), (⟨5, 0, 0⟩ : S27), (⟨0, 0, 0⟩ : S27), (⟨0, 0, 0⟩ : S27), 1⟩ : S31)] : List (S31))) (⟨#[97]⟩ : ByteArray) 3 0 0).bind fun bt8 => ((law1_Num.f t4).bind fun t12 => (if t12 = 2 then ((law1_Num.f bt8.2).bind fun t13 => (if t13 = 0 then (if (bt8.1.length : Int) = 1 then (if 0 < (bt8.1.length : Int) then (if ((rd_T31 bt8.1 0).f3.f0) = 3 then (some (((rd_T31 bt8.1 0).f4.f0) == 3)) else (some false)) else (none)) else (some false)) else (some false))) else (some false)))) = some r := H
 have A1 := Aside0.mk A10
 clear A10
 obtain ⟨y5, hy5⟩ : ∃ y_ : List (S31), y_ = (([(⟨(⟨#[97]⟩ : ByteArray), (⟨#[]⟩ : ByteArray), (⟨5, 0, 0⟩ : S27), (⟨0, 0, 0⟩ : S27), (⟨0, 0, 0⟩ : S27), 1⟩ : S31)] : List (S31))) := ⟨_, rfl⟩
 replace H : ((admit_Admit.f k y5 (⟨#[97]⟩ : ByteArray) 3 0 0).bind fun bt8 => ((law1_Num.f t4).bind fun t12 => (if t12 = 2 then ((law1_Num.f bt8.2).bind fun t13 => (if t13 = 0 then (if (bt8.1.length : Int) = 1 then (if 0 < (bt8.1.length : Int) then (if ((rd_T31 bt8.1 0).f3.f0) = 3 then (some (((rd_T31 bt8.1 0).f4.f0) == 3)) else (some false)) else (none)) else (some false)) else (some false))) else (some false)))) = some r := by first|(rw [hy5];with_reducible exact H)|(have H2_ := (Option.bind_some _ _).symm.trans H;rw [hy5];with_reducible exact H2_)|(have H2_ := (Option.bind_some _ _).symm.trans H;with_reducible exact H2_)|with_reducible exact H|(rw [hy5];exact H)|exact H
 have Ny5 := Aside0.mk hy5
 clear hy5
 replace H := Option.bind_eq_some_iff.mp H
 obtain ⟨⟨t8, t11⟩, A20, H⟩ := H
 replace H : ((law1_Num.f t4).bind fun t12 => (if t12 = 2 then ((law1_Num.f t11).bind fun t13 => (if t13 = 0 then (if (t8.length : Int) = 1 then (if 0 < (t8.length : Int) then (if ((rd_T31 t8 0).f3.f0) = 3 then (some (((rd_T31 t8 0).f4.f0) == 3)) else (some false)) else (none)) else (some false)) else (some false))) else (some false))) = some r := H
 have A2 := Aside0.mk A20
 clear A20
 replace H := Option.bind_eq_some_iff.mp H
 obtain ⟨t12, A30, H⟩ := H
 replace H : (if t12 = 2 then ((law1_Num.f t11).bind fun t13 => (if t13 = 0 then (if (t8.length : Int) = 1 then (if 0 < (t8.length : Int) then (if ((rd_T31 t8 0).f3.f0) = 3 then (some (((rd_T31 t8 0).f4.f0) == 3)) else (some false)) else (none)) else (some false)) else (some false))) else (some false)) = some r := H
 have A3 := Aside0.mk A30
 clear A30
 by_cases c4 : t12 = 2
 ·rw [if_pos c4] at H
  have c4b0 : (t12 == 2) = true := beq_iff_eq.mpr c4
  have c4b1 : (t12 != 2) = false := bne_eq_false_iff_eq.mpr c4
  clear c4
  replace H := Option.bind_eq_some_iff.mp H
  obtain ⟨t13, A50, H⟩ := H
  replace H : (if t13 = 0 then (if (t8.length : Int) = 1 then (if 0 < (t8.length : Int) then (if ((rd_T31 t8 0).f3.f0) = 3 then (some (((rd_T31 t8 0).f4.f0) == 3)) else (some false)) else (none)) else (some false)) else (some false)) = some r := H
  have A5 := Aside0.mk A50
  clear A50
  by_cases c6 : t13 = 0
  ·rw [if_pos c6] at H
   have c6b0 : (t13 == 0) = true := beq_iff_eq.mpr c6
   have c6b1 : (t13 != 0) = false := bne_eq_false_iff_eq.mpr c6
   clear c6
   by_cases c7 : (t8.length : Int) = 1
   ·rw [if_pos c7] at H
    have c7b0 : ((t8.length : Int) == 1) = true := beq_iff_eq.mpr c7
    have c7b1 : ((t8.length : Int) != 1) = false := bne_eq_false_iff_eq.mpr c7
    clear c7
    by_cases c8 : 0 < (t8.length : Int)
    ·rw [if_pos c8] at H
     have c8b0 : decide (0 < (t8.length : Int)) = true := decide_eq_true c8
     have c8b1 : decide (0 < t8.length) = true := decide_eq_true (by omega)
     clear c8
     by_cases c9 : ((rd_T31 t8 0).f3.f0) = 3
     ·rw [if_pos c9] at H
      have c9b0 : (((rd_T31 t8 0).f3.f0) == 3) = true := beq_iff_eq.mpr c9
      have c9b1 : (((rd_T31 t8 0).f3.f0) != 3) = false := bne_eq_false_iff_eq.mpr c9
      clear c9
      obtain rfl := Option.some.inj H
      go_enter Try.func59, Try.ntmps59
      go_wp2_with (first|((with_reducible refine gate_callee (f := 60) rfl ?_);refine goesL_ (some 7) rfl rfl Try.func60 (by kernel_rfl) rfl #[.slice none 0 0, .string (⟨#[97]⟩ : ByteArray), .agg #[.int .i64 0, .int .i64 0, .int .i64 0]] rfl (by (try simp only [List.map_toArray, List.map_cons, List.map_nil]);first|done|rfl|(simp only [List.length_drop, List.length_take];rfl)) ?_;(refine (admit_Admit.calls k _ _ ([] : List (S31)) (⟨#[97]⟩ : ByteArray) 0 0 0 t1 t4 _ ?side1 ?side2 A1.out).mono ?_);(case side1 => exact Kd.C_nil _ _);(case side2 => exact Nat.le_refl _);rintro e w10 ⟨v2, rfl, ho0, hb⟩;refine ⟨_, rfl, ?_⟩;have n0_ := Aside0.mk (Kd.R_lower ho0 (below_size (by repeat (first|(with_reducible first|exact HB.out|apply below_alloc|apply pw_below_drewN|apply below_drew1)|exact HB.out))));have n1_ := Aside0.mk (below_step (by repeat (first|(with_reducible first|exact HB.out|apply below_alloc|apply pw_below_drewN|apply below_drew1)|exact HB.out)) hb);clear HB;have HO3 := n0_;have HB := n1_;clear n0_ n1_;(try clear hb);(try clear hb2);(try clear hk);(try clear hi);(try clear ho0))|((with_reducible refine gate_dst (N := 13) rfl ?_);(try (refine gate_guard (by rfl) ?_;dsimp only));refine Kd.R_lit k31 _ 31 ?hg (N := 13) ?hd (xs := ([(⟨(⟨#[97]⟩ : ByteArray), (⟨#[]⟩ : ByteArray), (⟨5, 0, 0⟩ : S27), (⟨0, 0, 0⟩ : S27), (⟨0, 0, 0⟩ : S27), 1⟩ : S31)] : List (S31))) (inner := [.string (⟨#[97]⟩ : ByteArray), .string (⟨#[]⟩ : ByteArray), .int .i64 5, .int .i64 0, .int .i64 0, .int .i64 0, .int .i64 0, .int .i64 0, .int .i64 0, .int .i64 0, .int .i64 0, .int .i64 1]) (ok := fun _ => True) (okp := fun _ => True) ?hr ?hp (fun _ hk => hk) trivial (Below.refl _ _) (Nat.le_refl _) (by simp) ?_;(case hd => rfl);(case hg => rfl);(case hr => first|(go_simp;done)|(go_simp;rfl));(case hp => exact (Reps.front (show Kd.M k31 _ _ _ (⟨(⟨#[97]⟩ : ByteArray), (⟨#[]⟩ : ByteArray), (⟨5, 0, 0⟩ : S27), (⟨0, 0, 0⟩ : S27), (⟨0, 0, 0⟩ : S27), 1⟩ : S31) [.string (⟨#[97]⟩ : ByteArray), .string (⟨#[]⟩ : ByteArray), .int .i64 5, .int .i64 0, .int .i64 0, .int .i64 0, .int .i64 0, .int .i64 0, .int .i64 0, .int .i64 0, .int .i64 0, .int .i64 1] from (k31_mkM _ _ _ (⟨(⟨#[97]⟩ : ByteArray), (⟨#[]⟩ : ByteArray), (⟨5, 0, 0⟩ : S27), (⟨0, 0, 0⟩ : S27), (⟨0, 0, 0⟩ : S27), 1⟩ : S31) )) rfl (Reps.none _ _) rfl));intro v6 w11 ho12 hb hg_ hnew_;clear hg_ hnew_;(first|rw [← Ny5.out] at ho12|(simp only [Int.reduceToNat] at ho12;rw [← Ny5.out] at ho12));have n0_ := Aside0.mk (Kd.R_elder' (by (with_reducible repeat (first|apply Kd.R_alloc|apply Kd.R_drewN|apply Kd.R_drew));exact HO3.out) (Kd.R_base ho12) hb);have n1_ := Aside0.mk (Kd.R_lower (Kd.R_new' ho12 (Kd.R_lt (by (with_reducible repeat (first|apply Kd.R_alloc|apply Kd.R_drewN|apply Kd.R_drew));exact HO3.out))) (below_size (by repeat (first|(with_reducible first|exact HB.out|apply below_alloc|apply pw_below_drewN|apply below_drew1)|exact HB.out))));have n2_ := Aside0.mk (below_step (by repeat (first|(with_reducible first|exact HB.out|apply below_alloc|apply pw_below_drewN|apply below_drew1)|exact HB.out)) hb);clear HO3;clear HB;have HO3 := n0_;have HO7 := n1_;have HB := n2_;clear n0_ n1_ n2_;clear hb ho12;obtain ⟨Ao13, co13, eo13⟩ := Kd.R_slice HO7.out;subst eo13)|((with_reducible refine gate_callee (f := 60) rfl ?_);refine goesL_ (some 15) rfl rfl Try.func60 (by kernel_rfl) rfl #[.slice Ao13 y5.length co13, .string (⟨#[97]⟩ : ByteArray), .agg #[.int .i64 3, .int .i64 0, .int .i64 0]] rfl (by (try simp only [List.map_toArray, List.map_cons, List.map_nil]);first|done|rfl|(simp only [List.length_drop, List.length_take];rfl)) ?_;(with_reducible refine (admit_Admit.calls k _ _ y5 (⟨#[97]⟩ : ByteArray) 3 0 0 t8 t11 _ ?side1 ?side2 A2.out).mono ?_);(case side1 => repeat (first|exact (Kd.R_reads' HO7.out).2.2|(with_reducible refine Kd.C_alloc ?_ _)|(with_reducible refine Kd.C_drewN ?_ _)|(with_reducible refine Kd.C_drew ?_)));(case side2 => exact (Kd.R_reads' HO7.out).2.1);rintro e w14 ⟨v9, rfl, ho0, hb⟩;refine ⟨_, rfl, ?_⟩;have n0_ := Aside0.mk (Kd.R_elder' (by (with_reducible repeat (first|apply Kd.R_alloc|apply Kd.R_drewN|apply Kd.R_drew));exact HO3.out) (Kd.R_base ho0) hb);have n1_ := Aside0.mk (Kd.R_elder' (by (with_reducible repeat (first|apply Kd.R_alloc|apply Kd.R_drewN|apply Kd.R_drew));exact HO7.out) (Kd.R_base ho0) hb);have n2_ := Aside0.mk (Kd.R_lower (Kd.R_new' (Kd.R_new' ho0 (Kd.R_lt (by (with_reducible repeat (first|apply Kd.R_alloc|apply Kd.R_drewN|apply Kd.R_drew));exact HO3.out))) (Kd.R_lt (by (with_reducible repeat (first|apply Kd.R_alloc|apply Kd.R_drewN|apply Kd.R_drew));exact HO7.out))) (below_size (by repeat (first|(with_reducible first|exact HB.out|apply below_alloc|apply pw_below_drewN|apply below_drew1)|exact HB.out))));have n3_ := Aside0.mk (below_step (by repeat (first|(with_reducible first|exact HB.out|apply below_alloc|apply pw_below_drewN|apply below_drew1)|exact HB.out)) hb);clear HO3;clear HO7;clear HB;have HO3 := n0_;have HO7 := n1_;have HO10 := n2_;have HB := n3_;clear n0_ n1_ n2_ n3_;(try clear hb);(try clear hb2);(try clear hk);(try clear hi);(try clear ho0))|((with_reducible refine gate_callee (f := 61) rfl ?_);refine goesL_ (some 19) rfl rfl Try.func61 (by kernel_rfl) rfl #[.int .i64 t4] rfl (by (try simp only [List.map_toArray, List.map_cons, List.map_nil]);first|done|rfl|(simp only [List.length_drop, List.length_take];rfl)) ?_;(with_reducible refine (law1_Num.calls t4 t12 _ A3.out).mono ?_);rintro e w' ⟨rfl, ⟨nd, rfl⟩⟩;refine ⟨_, rfl, ?_⟩)|(go_at_call 61;(with_reducible refine (law1_Num.calls t11 t13 _ A5.out).mono ?_);rintro e w' ⟨rfl, ⟨nd, rfl⟩⟩;obtain ⟨Ao15, co15, eo15⟩ := Kd.R_slice HO10.out;subst eo15;have p14 : 0 ≤ (0 : Int) := (by omega);have q14 : 0 < (t8.length : Int) := of_decide_eq_true (by first|(with_reducible assumption)|assumption);obtain ⟨ad14, e14, hx14_0, hx14_1, hx14_2, hx14_3, hx14_4, hx14_5, hx14_6, hx14_7, hx14_8, hx14_9, hx14_10, hx14_11⟩ := at_T31 (Kd.R_reads' HO10.out).2.2 0 p14 q14;cases e14;have qi14 : (0 < t8.length) = True := eq_true (by omega);(try rw [show ((0 : Int)).toNat = 0 from rfl] at hx14_0);(try rw [show 0 * 12 = 0 from rfl] at hx14_0);(try rw [Addr.add_zero'] at hx14_0);(try rw [show ((0 : Int)).toNat = 0 from rfl] at hx14_1);(try rw [show 0 * 12 = 0 from rfl] at hx14_1);(try rw [Addr.add_zero'] at hx14_1);(try rw [show ((0 : Int)).toNat = 0 from rfl] at hx14_2);(try rw [show 0 * 12 = 0 from rfl] at hx14_2);(try rw [Addr.add_zero'] at hx14_2);(try rw [show ((0 : Int)).toNat = 0 from rfl] at hx14_3);(try rw [show 0 * 12 = 0 from rfl] at hx14_3);(try rw [Addr.add_zero'] at hx14_3);(try rw [show ((0 : Int)).toNat = 0 from rfl] at hx14_4);(try rw [show 0 * 12 = 0 from rfl] at hx14_4);(try rw [Addr.add_zero'] at hx14_4);(try rw [show ((0 : Int)).toNat = 0 from rfl] at hx14_5);(try rw [show 0 * 12 = 0 from rfl] at hx14_5);(try rw [Addr.add_zero'] at hx14_5);(try rw [show ((0 : Int)).toNat = 0 from rfl] at hx14_6);(try rw [show 0 * 12 = 0 from rfl] at hx14_6);(try rw [Addr.add_zero'] at hx14_6);(try rw [show ((0 : Int)).toNat = 0 from rfl] at hx14_7);(try rw [show 0 * 12 = 0 from rfl] at hx14_7);(try rw [Addr.add_zero'] at hx14_7);(try rw [show ((0 : Int)).toNat = 0 from rfl] at hx14_8);(try rw [show 0 * 12 = 0 from rfl] at hx14_8);(try rw [Addr.add_zero'] at hx14_8);(try rw [show ((0 : Int)).toNat = 0 from rfl] at hx14_9);(try rw [show 0 * 12 = 0 from rfl] at hx14_9);(try rw [Addr.add_zero'] at hx14_9);(try rw [show ((0 : Int)).toNat = 0 from rfl] at hx14_10);(try rw [show 0 * 12 = 0 from rfl] at hx14_10);(try rw [Addr.add_zero'] at hx14_10);(try rw [show ((0 : Int)).toNat = 0 from rfl] at hx14_11);(try rw [show 0 * 12 = 0 from rfl] at hx14_11);(try rw [Addr.add_zero'] at hx14_11);replace p14 := eq_true p14;replace q14 := eq_true q14;have p15 : 0 ≤ (0 : Int) := (by omega);have q15 : 0 < (t8.length : Int) := of_decide_eq_true (by first|(with_reducible assumption)|assumption);obtain ⟨ad15, e15, hx15_0, hx15_1, hx15_2, hx15_3, hx15_4, hx15_5, hx15_6, hx15_7, hx15_8, hx15_9, hx15_10, hx15_11⟩ := at_T31 (Kd.R_reads' HO10.out).2.2 0 p15 q15;obtain rfl : ad14 = ad15 := (by injection e15);have qi15 : (0 < t8.length) = True := eq_true (by omega);(try rw [show ((0 : Int)).toNat = 0 from rfl] at hx15_0);(try rw [show 0 * 12 = 0 from rfl] at hx15_0);(try rw [Addr.add_zero'] at hx15_0);(try rw [show ((0 : Int)).toNat = 0 from rfl] at hx15_1);(try rw [show 0 * 12 = 0 from rfl] at hx15_1);(try rw [Addr.add_zero'] at hx15_1);(try rw [show ((0 : Int)).toNat = 0 from rfl] at hx15_2);(try rw [show 0 * 12 = 0 from rfl] at hx15_2);(try rw [Addr.add_zero'] at hx15_2);(try rw [show ((0 : Int)).toNat = 0 from rfl] at hx15_3);(try rw [show 0 * 12 = 0 from rfl] at hx15_3);(try rw [Addr.add_zero'] at hx15_3);(try rw [show ((0 : Int)).toNat = 0 from rfl] at hx15_4);(try rw [show 0 * 12 = 0 from rfl] at hx15_4);(try rw [Addr.add_zero'] at hx15_4);(try rw [show ((0 : Int)).toNat = 0 from rfl] at hx15_5);(try rw [show 0 * 12 = 0 from rfl] at hx15_5);(try rw [Addr.add_zero'] at hx15_5);(try rw [show ((0 : Int)).toNat = 0 from rfl] at hx15_6);(try rw [show 0 * 12 = 0 from rfl] at hx15_6);(try rw [Addr.add_zero'] at hx15_6);(try rw [show ((0 : Int)).toNat = 0 from rfl] at hx15_7);(try rw [show 0 * 12 = 0 from rfl] at hx15_7);(try rw [Addr.add_zero'] at hx15_7);(try rw [show ((0 : Int)).toNat = 0 from rfl] at hx15_8);(try rw [show 0 * 12 = 0 from rfl] at hx15_8);(try rw [Addr.add_zero'] at hx15_8);(try rw [show ((0 : Int)).toNat = 0 from rfl] at hx15_9);(try rw [show 0 * 12 = 0 from rfl] at hx15_9);(try rw [Addr.add_zero'] at hx15_9);(try rw [show ((0 : Int)).toNat = 0 from rfl] at hx15_10);(try rw [show 0 * 12 = 0 from rfl] at hx15_10);(try rw [Addr.add_zero'] at hx15_10);(try rw [show ((0 : Int)).toNat = 0 from rfl] at hx15_11);(try rw [show 0 * 12 = 0 from rfl] at hx15_11);(try rw [Addr.add_zero'] at hx15_11);replace p15 := eq_true p15;replace q15 := eq_true q15))
      go_ret
      exact ⟨by first|rfl|(simp [errW_none, errW_some] <;> rfl)|(simp [*, errW_none, errW_some] <;> rfl), by repeat (first|(with_reducible first|exact HB.out|apply below_alloc|apply pw_below_drewN|apply below_drew1)|exact HB.out)⟩
     ·rw [if_neg c9] at H
      have c9b0 : (((rd_T31 t8 0).f3.f0) == 3) = false := beq_eq_false_iff_ne.mpr c9
      have c9b1 : (((rd_T31 t8 0).f3.f0) != 3) = true := bne_iff_ne.mpr c9
      obtain rfl := Option.some.inj H
      go_enter Try.func59, Try.ntmps59
      go_wp2_with (first|((with_reducible refine gate_callee (f := 60) rfl ?_);refine goesL_ (some 7) rfl rfl Try.func60 (by kernel_rfl) rfl #[.slice none 0 0, .string (⟨#[97]⟩ : ByteArray), .agg #[.int .i64 0, .int .i64 0, .int .i64 0]] rfl (by (try simp only [List.map_toArray, List.map_cons, List.map_nil]);first|done|rfl|(simp only [List.length_drop, List.length_take];rfl)) ?_;(refine (admit_Admit.calls k _ _ ([] : List (S31)) (⟨#[97]⟩ : ByteArray) 0 0 0 t1 t4 _ ?side1 ?side2 A1.out).mono ?_);(case side1 => exact Kd.C_nil _ _);(case side2 => exact Nat.le_refl _);rintro e w16 ⟨v2, rfl, ho0, hb⟩;refine ⟨_, rfl, ?_⟩;have n0_ := Aside0.mk (Kd.R_lower ho0 (below_size (by repeat (first|(with_reducible first|exact HB.out|apply below_alloc|apply pw_below_drewN|apply below_drew1)|exact HB.out))));have n1_ := Aside0.mk (below_step (by repeat (first|(with_reducible first|exact HB.out|apply below_alloc|apply pw_below_drewN|apply below_drew1)|exact HB.out)) hb);clear HB;have HO3 := n0_;have HB := n1_;clear n0_ n1_;(try clear hb);(try clear hb2);(try clear hk);(try clear hi);(try clear ho0))|((with_reducible refine gate_dst (N := 13) rfl ?_);(try (refine gate_guard (by rfl) ?_;dsimp only));refine Kd.R_lit k31 _ 31 ?hg (N := 13) ?hd (xs := ([(⟨(⟨#[97]⟩ : ByteArray), (⟨#[]⟩ : ByteArray), (⟨5, 0, 0⟩ : S27), (⟨0, 0, 0⟩ : S27), (⟨0, 0, 0⟩ : S27), 1⟩ : S31)] : List (S31))) (inner := [.string (⟨#[97]⟩ : ByteArray), .string (⟨#[]⟩ : ByteArray), .int .i64 5, .int .i64 0, .int .i64 0, .int .i64 0, .int .i64 0, .int .i64 0, .int .i64 0, .int .i64 0, .int .i64 0, .int .i64 1]) (ok := fun _ => True) (okp := fun _ => True) ?hr ?hp (fun _ hk => hk) trivial (Below.refl _ _) (Nat.le_refl _) (by simp) ?_;(case hd => rfl);(case hg => rfl);(case hr => first|(go_simp;done)|(go_simp;rfl));(case hp => exact (Reps.front (show Kd.M k31 _ _ _ (⟨(⟨#[97]⟩ : ByteArray), (⟨#[]⟩ : ByteArray), (⟨5, 0, 0⟩ : S27), (⟨0, 0, 0⟩ : S27), (⟨0, 0, 0⟩ : S27), 1⟩ : S31) [.string (⟨#[97]⟩ : ByteArray), .string (⟨#[]⟩ : ByteArray), .int .i64 5, .int .i64 0, .int .i64 0, .int .i64 0, .int .i64 0, .int .i64 0, .int .i64 0, .int .i64 0, .int .i64 0, .int .i64 1] from (k31_mkM _ _ _ (⟨(⟨#[97]⟩ : ByteArray), (⟨#[]⟩ : ByteArray), (⟨5, 0, 0⟩ : S27), (⟨0, 0, 0⟩ : S27), (⟨0, 0, 0⟩ : S27), 1⟩ : S31) )) rfl (Reps.none _ _) rfl));intro v6 w17 ho18 hb hg_ hnew_;clear hg_ hnew_;(first|rw [← Ny5.out] at ho18|(simp only [Int.reduceToNat] at ho18;rw [← Ny5.out] at ho18));have n0_ := Aside0.mk (Kd.R_elder' (by (with_reducible repeat (first|apply Kd.R_alloc|apply Kd.R_drewN|apply Kd.R_drew));exact HO3.out) (Kd.R_base ho18) hb);have n1_ := Aside0.mk (Kd.R_lower (Kd.R_new' ho18 (Kd.R_lt (by (with_reducible repeat (first|apply Kd.R_alloc|apply Kd.R_drewN|apply Kd.R_drew));exact HO3.out))) (below_size (by repeat (first|(with_reducible first|exact HB.out|apply below_alloc|apply pw_below_drewN|apply below_drew1)|exact HB.out))));have n2_ := Aside0.mk (below_step (by repeat (first|(with_reducible first|exact HB.out|apply below_alloc|apply pw_below_drewN|apply below_drew1)|exact HB.out)) hb);clear HO3;clear HB;have HO3 := n0_;have HO7 := n1_;have HB := n2_;clear n0_ n1_ n2_;clear hb ho18;obtain ⟨Ao19, co19, eo19⟩ := Kd.R_slice HO7.out;subst eo19)|((with_reducible refine gate_callee (f := 60) rfl ?_);refine goesL_ (some 15) rfl rfl Try.func60 (by kernel_rfl) rfl #[.slice Ao19 y5.length co19, .string (⟨#[97]⟩ : ByteArray), .agg #[.int .i64 3, .int .i64 0, .int .i64 0]] rfl (by (try simp only [List.map_toArray, List.map_cons, List.map_nil]);first|done|rfl|(simp only [List.length_drop, List.length_take];rfl)) ?_;(with_reducible refine (admit_Admit.calls k _ _ y5 (⟨#[97]⟩ : ByteArray) 3 0 0 t8 t11 _ ?side1 ?side2 A2.out).mono ?_);(case side1 => repeat (first|exact (Kd.R_reads' HO7.out).2.2|(with_reducible refine Kd.C_alloc ?_ _)|(with_reducible refine Kd.C_drewN ?_ _)|(with_reducible refine Kd.C_drew ?_)));(case side2 => exact (Kd.R_reads' HO7.out).2.1);rintro e w20 ⟨v9, rfl, ho0, hb⟩;refine ⟨_, rfl, ?_⟩;have n0_ := Aside0.mk (Kd.R_elder' (by (with_reducible repeat (first|apply Kd.R_alloc|apply Kd.R_drewN|apply Kd.R_drew));exact HO3.out) (Kd.R_base ho0) hb);have n1_ := Aside0.mk (Kd.R_elder' (by (with_reducible repeat (first|apply Kd.R_alloc|apply Kd.R_drewN|apply Kd.R_drew));exact HO7.out) (Kd.R_base ho0) hb);have n2_ := Aside0.mk (Kd.R_lower (Kd.R_new' (Kd.R_new' ho0 (Kd.R_lt (by (with_reducible repeat (first|apply Kd.R_alloc|apply Kd.R_drewN|apply Kd.R_drew));exact HO3.out))) (Kd.R_lt (by (with_reducible repeat (first|apply Kd.R_alloc|apply Kd.R_drewN|apply Kd.R_drew));exact HO7.out))) (below_size (by repeat (first|(with_reducible first|exact HB.out|apply below_alloc|apply pw_below_drewN|apply below_drew1)|exact HB.out))));have n3_ := Aside0.mk (below_step (by repeat (first|(with_reducible first|exact HB.out|apply below_alloc|apply pw_below_drewN|apply below_drew1)|exact HB.out)) hb);clear HO3;clear HO7;clear HB;have HO3 := n0_;have HO7 := n1_;have HO10 := n2_;have HB := n3_;clear n0_ n1_ n2_ n3_;(try clear hb);(try clear hb2);(try clear hk);(try clear hi);(try clear ho0))|((with_reducible refine gate_callee (f := 61) rfl ?_);refine goesL_ (some 19) rfl rfl Try.func61 (by kernel_rfl) rfl #[.int .i64 t4] rfl (by (try simp only [List.map_toArray, List.map_cons, List.map_nil]);first|done|rfl|(simp only [List.length_drop, List.length_take];rfl)) ?_;(with_reducible refine (law1_Num.calls t4 t12 _ A3.out).mono ?_);rintro e w' ⟨rfl, ⟨nd, rfl⟩⟩;refine ⟨_, rfl, ?_⟩)|(go_at_call 61;(with_reducible refine (law1_Num.calls t11 t13 _ A5.out).mono ?_);rintro e w' ⟨rfl, ⟨nd, rfl⟩⟩;obtain ⟨Ao21, co21, eo21⟩ := Kd.R_slice HO10.out;subst eo21;have p14 : 0 ≤ (0 : Int) := (by omega);have q14 : 0 < (t8.length : Int) := of_decide_eq_true (by first|(with_reducible assumption)|assumption);obtain ⟨ad14, e14, hx14_0, hx14_1, hx14_2, hx14_3, hx14_4, hx14_5, hx14_6, hx14_7, hx14_8, hx14_9, hx14_10, hx14_11⟩ := at_T31 (Kd.R_reads' HO10.out).2.2 0 p14 q14;cases e14;have qi14 : (0 < t8.length) = True := eq_true (by omega);(try rw [show ((0 : Int)).toNat = 0 from rfl] at hx14_0);(try rw [show 0 * 12 = 0 from rfl] at hx14_0);(try rw [Addr.add_zero'] at hx14_0);(try rw [show ((0 : Int)).toNat = 0 from rfl] at hx14_1);(try rw [show 0 * 12 = 0 from rfl] at hx14_1);(try rw [Addr.add_zero'] at hx14_1);(try rw [show ((0 : Int)).toNat = 0 from rfl] at hx14_2);(try rw [show 0 * 12 = 0 from rfl] at hx14_2);(try rw [Addr.add_zero'] at hx14_2);(try rw [show ((0 : Int)).toNat = 0 from rfl] at hx14_3);(try rw [show 0 * 12 = 0 from rfl] at hx14_3);(try rw [Addr.add_zero'] at hx14_3);(try rw [show ((0 : Int)).toNat = 0 from rfl] at hx14_4);(try rw [show 0 * 12 = 0 from rfl] at hx14_4);(try rw [Addr.add_zero'] at hx14_4);(try rw [show ((0 : Int)).toNat = 0 from rfl] at hx14_5);(try rw [show 0 * 12 = 0 from rfl] at hx14_5);(try rw [Addr.add_zero'] at hx14_5);(try rw [show ((0 : Int)).toNat = 0 from rfl] at hx14_6);(try rw [show 0 * 12 = 0 from rfl] at hx14_6);(try rw [Addr.add_zero'] at hx14_6);(try rw [show ((0 : Int)).toNat = 0 from rfl] at hx14_7);(try rw [show 0 * 12 = 0 from rfl] at hx14_7);(try rw [Addr.add_zero'] at hx14_7);(try rw [show ((0 : Int)).toNat = 0 from rfl] at hx14_8);(try rw [show 0 * 12 = 0 from rfl] at hx14_8);(try rw [Addr.add_zero'] at hx14_8);(try rw [show ((0 : Int)).toNat = 0 from rfl] at hx14_9);(try rw [show 0 * 12 = 0 from rfl] at hx14_9);(try rw [Addr.add_zero'] at hx14_9);(try rw [show ((0 : Int)).toNat = 0 from rfl] at hx14_10);(try rw [show 0 * 12 = 0 from rfl] at hx14_10);(try rw [Addr.add_zero'] at hx14_10);(try rw [show ((0 : Int)).toNat = 0 from rfl] at hx14_11);(try rw [show 0 * 12 = 0 from rfl] at hx14_11);(try rw [Addr.add_zero'] at hx14_11);replace p14 := eq_true p14;replace q14 := eq_true q14))
      go_ret
      exact ⟨by first|rfl|(simp [errW_none, errW_some] <;> rfl)|(simp [*, errW_none, errW_some] <;> rfl), by repeat (first|(with_reducible first|exact HB.out|apply below_alloc|apply pw_below_drewN|apply below_drew1)|exact HB.out)⟩
    ·rw [if_neg c8] at H
     exact absurd H (by simp)
   ·rw [if_neg c7] at H
    have c7b0 : ((t8.length : Int) == 1) = false := beq_eq_false_iff_ne.mpr c7
    have c7b1 : ((t8.length : Int) != 1) = true := bne_iff_ne.mpr c7
    obtain rfl := Option.some.inj H
    go_enter Try.func59, Try.ntmps59
    go_wp2_with (first|((with_reducible refine gate_callee (f := 60) rfl ?_);refine goesL_ (some 7) rfl rfl Try.func60 (by kernel_rfl) rfl #[.slice none 0 0, .string (⟨#[97]⟩ : ByteArray), .agg #[.int .i64 0, .int .i64 0, .int .i64 0]] rfl (by (try simp only [List.map_toArray, List.map_cons, List.map_nil]);first|done|rfl|(simp only [List.length_drop, List.length_take];rfl)) ?_;(refine (admit_Admit.calls k _ _ ([] : List (S31)) (⟨#[97]⟩ : ByteArray) 0 0 0 t1 t4 _ ?side1 ?side2 A1.out).mono ?_);(case side1 => exact Kd.C_nil _ _);(case side2 => exact Nat.le_refl _);rintro e w22 ⟨v2, rfl, ho0, hb⟩;refine ⟨_, rfl, ?_⟩;have n0_ := Aside0.mk (Kd.R_lower ho0 (below_size (by repeat (first|(with_reducible first|exact HB.out|apply below_alloc|apply pw_below_drewN|apply below_drew1)|exact HB.out))));have n1_ := Aside0.mk (below_step (by repeat (first|(with_reducible first|exact HB.out|apply below_alloc|apply pw_below_drewN|apply below_drew1)|exact HB.out)) hb);clear HB;have HO3 := n0_;have HB := n1_;clear n0_ n1_;(try clear hb);(try clear hb2);(try clear hk);(try clear hi);(try clear ho0))|((with_reducible refine gate_dst (N := 13) rfl ?_);(try (refine gate_guard (by rfl) ?_;dsimp only));refine Kd.R_lit k31 _ 31 ?hg (N := 13) ?hd (xs := ([(⟨(⟨#[97]⟩ : ByteArray), (⟨#[]⟩ : ByteArray), (⟨5, 0, 0⟩ : S27), (⟨0, 0, 0⟩ : S27), (⟨0, 0, 0⟩ : S27), 1⟩ : S31)] : List (S31))) (inner := [.string (⟨#[97]⟩ : ByteArray), .string (⟨#[]⟩ : ByteArray), .int .i64 5, .int .i64 0, .int .i64 0, .int .i64 0, .int .i64 0, .int .i64 0, .int .i64 0, .int .i64 0, .int .i64 0, .int .i64 1]) (ok := fun _ => True) (okp := fun _ => True) ?hr ?hp (fun _ hk => hk) trivial (Below.refl _ _) (Nat.le_refl _) (by simp) ?_;(case hd => rfl);(case hg => rfl);(case hr => first|(go_simp;done)|(go_simp;rfl));(case hp => exact (Reps.front (show Kd.M k31 _ _ _ (⟨(⟨#[97]⟩ : ByteArray), (⟨#[]⟩ : ByteArray), (⟨5, 0, 0⟩ : S27), (⟨0, 0, 0⟩ : S27), (⟨0, 0, 0⟩ : S27), 1⟩ : S31) [.string (⟨#[97]⟩ : ByteArray), .string (⟨#[]⟩ : ByteArray), .int .i64 5, .int .i64 0, .int .i64 0, .int .i64 0, .int .i64 0, .int .i64 0, .int .i64 0, .int .i64 0, .int .i64 0, .int .i64 1] from (k31_mkM _ _ _ (⟨(⟨#[97]⟩ : ByteArray), (⟨#[]⟩ : ByteArray), (⟨5, 0, 0⟩ : S27), (⟨0, 0, 0⟩ : S27), (⟨0, 0, 0⟩ : S27), 1⟩ : S31) )) rfl (Reps.none _ _) rfl));intro v6 w23 ho24 hb hg_ hnew_;clear hg_ hnew_;(first|rw [← Ny5.out] at ho24|(simp only [Int.reduceToNat] at ho24;rw [← Ny5.out] at ho24));have n0_ := Aside0.mk (Kd.R_elder' (by (with_reducible repeat (first|apply Kd.R_alloc|apply Kd.R_drewN|apply Kd.R_drew));exact HO3.out) (Kd.R_base ho24) hb);have n1_ := Aside0.mk (Kd.R_lower (Kd.R_new' ho24 (Kd.R_lt (by (with_reducible repeat (first|apply Kd.R_alloc|apply Kd.R_drewN|apply Kd.R_drew));exact HO3.out))) (below_size (by repeat (first|(with_reducible first|exact HB.out|apply below_alloc|apply pw_below_drewN|apply below_drew1)|exact HB.out))));have n2_ := Aside0.mk (below_step (by repeat (first|(with_reducible first|exact HB.out|apply below_alloc|apply pw_below_drewN|apply below_drew1)|exact HB.out)) hb);clear HO3;clear HB;have HO3 := n0_;have HO7 := n1_;have HB := n2_;clear n0_ n1_ n2_;clear hb ho24;obtain ⟨Ao25, co25, eo25⟩ := Kd.R_slice HO7.out;subst eo25)|((with_reducible refine gate_callee (f := 60) rfl ?_);refine goesL_ (some 15) rfl rfl Try.func60 (by kernel_rfl) rfl #[.slice Ao25 y5.length co25, .string (⟨#[97]⟩ : ByteArray), .agg #[.int .i64 3, .int .i64 0, .int .i64 0]] rfl (by (try simp only [List.map_toArray, List.map_cons, List.map_nil]);first|done|rfl|(simp only [List.length_drop, List.length_take];rfl)) ?_;(with_reducible refine (admit_Admit.calls k _ _ y5 (⟨#[97]⟩ : ByteArray) 3 0 0 t8 t11 _ ?side1 ?side2 A2.out).mono ?_);(case side1 => repeat (first|exact (Kd.R_reads' HO7.out).2.2|(with_reducible refine Kd.C_alloc ?_ _)|(with_reducible refine Kd.C_drewN ?_ _)|(with_reducible refine Kd.C_drew ?_)));(case side2 => exact (Kd.R_reads' HO7.out).2.1);rintro e w26 ⟨v9, rfl, ho0, hb⟩;refine ⟨_, rfl, ?_⟩;have n0_ := Aside0.mk (Kd.R_elder' (by (with_reducible repeat (first|apply Kd.R_alloc|apply Kd.R_drewN|apply Kd.R_drew));exact HO3.out) (Kd.R_base ho0) hb);have n1_ := Aside0.mk (Kd.R_elder' (by (with_reducible repeat (first|apply Kd.R_alloc|apply Kd.R_drewN|apply Kd.R_drew));exact HO7.out) (Kd.R_base ho0) hb);have n2_ := Aside0.mk (Kd.R_lower (Kd.R_new' (Kd.R_new' ho0 (Kd.R_lt (by (with_reducible repeat (first|apply Kd.R_alloc|apply Kd.R_drewN|apply Kd.R_drew));exact HO3.out))) (Kd.R_lt (by (with_reducible repeat (first|apply Kd.R_alloc|apply Kd.R_drewN|apply Kd.R_drew));exact HO7.out))) (below_size (by repeat (first|(with_reducible first|exact HB.out|apply below_alloc|apply pw_below_drewN|apply below_drew1)|exact HB.out))));have n3_ := Aside0.mk (below_step (by repeat (first|(with_reducible first|exact HB.out|apply below_alloc|apply pw_below_drewN|apply below_drew1)|exact HB.out)) hb);clear HO3;clear HO7;clear HB;have HO3 := n0_;have HO7 := n1_;have HO10 := n2_;have HB := n3_;clear n0_ n1_ n2_ n3_;(try clear hb);(try clear hb2);(try clear hk);(try clear hi);(try clear ho0))|((with_reducible refine gate_callee (f := 61) rfl ?_);refine goesL_ (some 19) rfl rfl Try.func61 (by kernel_rfl) rfl #[.int .i64 t4] rfl (by (try simp only [List.map_toArray, List.map_cons, List.map_nil]);first|done|rfl|(simp only [List.length_drop, List.length_take];rfl)) ?_;(with_reducible refine (law1_Num.calls t4 t12 _ A3.out).mono ?_);rintro e w' ⟨rfl, ⟨nd, rfl⟩⟩;refine ⟨_, rfl, ?_⟩)|(go_at_call 61;(with_reducible refine (law1_Num.calls t11 t13 _ A5.out).mono ?_);rintro e w' ⟨rfl, ⟨nd, rfl⟩⟩;obtain ⟨Ao27, co27, eo27⟩ := Kd.R_slice HO10.out;subst eo27))
    go_ret
    exact ⟨by first|rfl|(simp [errW_none, errW_some] <;> rfl)|(simp [*, errW_none, errW_some] <;> rfl), by repeat (first|(with_reducible first|exact HB.out|apply below_alloc|apply pw_below_drewN|apply below_drew1)|exact HB.out)⟩
  ·rw [if_neg c6] at H
   have c6b0 : (t13 == 0) = false := beq_eq_false_iff_ne.mpr c6
   have c6b1 : (t13 != 0) = true := bne_iff_ne.mpr c6
   obtain rfl := Option.some.inj H
   go_enter Try.func59, Try.ntmps59
   go_wp2_with (first|((with_reducible refine gate_callee (f := 60) rfl ?_);refine goesL_ (some 7) rfl rfl Try.func60 (by kernel_rfl) rfl #[.slice none 0 0, .string (⟨#[97]⟩ : ByteArray), .agg #[.int .i64 0, .int .i64 0, .int .i64 0]] rfl (by (try simp only [List.map_toArray, List.map_cons, List.map_nil]);first|done|rfl|(simp only [List.length_drop, List.length_take];rfl)) ?_;(refine (admit_Admit.calls k _ _ ([] : List (S31)) (⟨#[97]⟩ : ByteArray) 0 0 0 t1 t4 _ ?side1 ?side2 A1.out).mono ?_);(case side1 => exact Kd.C_nil _ _);(case side2 => exact Nat.le_refl _);rintro e w28 ⟨v2, rfl, ho0, hb⟩;refine ⟨_, rfl, ?_⟩;have n0_ := Aside0.mk (Kd.R_lower ho0 (below_size (by repeat (first|(with_reducible first|exact HB.out|apply below_alloc|apply pw_below_drewN|apply below_drew1)|exact HB.out))));have n1_ := Aside0.mk (below_step (by repeat (first|(with_reducible first|exact HB.out|apply below_alloc|apply pw_below_drewN|apply below_drew1)|exact HB.out)) hb);clear HB;have HO3 := n0_;have HB := n1_;clear n0_ n1_;(try clear hb);(try clear hb2);(try clear hk);(try clear hi);(try clear ho0))|((with_reducible refine gate_dst (N := 13) rfl ?_);(try (refine gate_guard (by rfl) ?_;dsimp only));refine Kd.R_lit k31 _ 31 ?hg (N := 13) ?hd (xs := ([(⟨(⟨#[97]⟩ : ByteArray), (⟨#[]⟩ : ByteArray), (⟨5, 0, 0⟩ : S27), (⟨0, 0, 0⟩ : S27), (⟨0, 0, 0⟩ : S27), 1⟩ : S31)] : List (S31))) (inner := [.string (⟨#[97]⟩ : ByteArray), .string (⟨#[]⟩ : ByteArray), .int .i64 5, .int .i64 0, .int .i64 0, .int .i64 0, .int .i64 0, .int .i64 0, .int .i64 0, .int .i64 0, .int .i64 0, .int .i64 1]) (ok := fun _ => True) (okp := fun _ => True) ?hr ?hp (fun _ hk => hk) trivial (Below.refl _ _) (Nat.le_refl _) (by simp) ?_;(case hd => rfl);(case hg => rfl);(case hr => first|(go_simp;done)|(go_simp;rfl));(case hp => exact (Reps.front (show Kd.M k31 _ _ _ (⟨(⟨#[97]⟩ : ByteArray), (⟨#[]⟩ : ByteArray), (⟨5, 0, 0⟩ : S27), (⟨0, 0, 0⟩ : S27), (⟨0, 0, 0⟩ : S27), 1⟩ : S31) [.string (⟨#[97]⟩ : ByteArray), .string (⟨#[]⟩ : ByteArray), .int .i64 5, .int .i64 0, .int .i64 0, .int .i64 0, .int .i64 0, .int .i64 0, .int .i64 0, .int .i64 0, .int .i64 0, .int .i64 1] from (k31_mkM _ _ _ (⟨(⟨#[97]⟩ : ByteArray), (⟨#[]⟩ : ByteArray), (⟨5, 0, 0⟩ : S27), (⟨0, 0, 0⟩ : S27), (⟨0, 0, 0⟩ : S27), 1⟩ : S31) )) rfl (Reps.none _ _) rfl));intro v6 w29 ho30 hb hg_ hnew_;clear hg_ hnew_;(first|rw [← Ny5.out] at ho30|(simp only [Int.reduceToNat] at ho30;rw [← Ny5.out] at ho30));have n0_ := Aside0.mk (Kd.R_elder' (by (with_reducible repeat (first|apply Kd.R_alloc|apply Kd.R_drewN|apply Kd.R_drew));exact HO3.out) (Kd.R_base ho30) hb);have n1_ := Aside0.mk (Kd.R_lower (Kd.R_new' ho30 (Kd.R_lt (by (with_reducible repeat (first|apply Kd.R_alloc|apply Kd.R_drewN|apply Kd.R_drew));exact HO3.out))) (below_size (by repeat (first|(with_reducible first|exact HB.out|apply below_alloc|apply pw_below_drewN|apply below_drew1)|exact HB.out))));have n2_ := Aside0.mk (below_step (by repeat (first|(with_reducible first|exact HB.out|apply below_alloc|apply pw_below_drewN|apply below_drew1)|exact HB.out)) hb);clear HO3;clear HB;have HO3 := n0_;have HO7 := n1_;have HB := n2_;clear n0_ n1_ n2_;clear hb ho30;obtain ⟨Ao31, co31, eo31⟩ := Kd.R_slice HO7.out;subst eo31)|((with_reducible refine gate_callee (f := 60) rfl ?_);refine goesL_ (some 15) rfl rfl Try.func60 (by kernel_rfl) rfl #[.slice Ao31 y5.length co31, .string (⟨#[97]⟩ : ByteArray), .agg #[.int .i64 3, .int .i64 0, .int .i64 0]] rfl (by (try simp only [List.map_toArray, List.map_cons, List.map_nil]);first|done|rfl|(simp only [List.length_drop, List.length_take];rfl)) ?_;(with_reducible refine (admit_Admit.calls k _ _ y5 (⟨#[97]⟩ : ByteArray) 3 0 0 t8 t11 _ ?side1 ?side2 A2.out).mono ?_);(case side1 => repeat (first|exact (Kd.R_reads' HO7.out).2.2|(with_reducible refine Kd.C_alloc ?_ _)|(with_reducible refine Kd.C_drewN ?_ _)|(with_reducible refine Kd.C_drew ?_)));(case side2 => exact (Kd.R_reads' HO7.out).2.1);rintro e w32 ⟨v9, rfl, ho0, hb⟩;refine ⟨_, rfl, ?_⟩;have n0_ := Aside0.mk (Kd.R_elder' (by (with_reducible repeat (first|apply Kd.R_alloc|apply Kd.R_drewN|apply Kd.R_drew));exact HO3.out) (Kd.R_base ho0) hb);have n1_ := Aside0.mk (Kd.R_elder' (by (with_reducible repeat (first|apply Kd.R_alloc|apply Kd.R_drewN|apply Kd.R_drew));exact HO7.out) (Kd.R_base ho0) hb);have n2_ := Aside0.mk (Kd.R_lower (Kd.R_new' (Kd.R_new' ho0 (Kd.R_lt (by (with_reducible repeat (first|apply Kd.R_alloc|apply Kd.R_drewN|apply Kd.R_drew));exact HO3.out))) (Kd.R_lt (by (with_reducible repeat (first|apply Kd.R_alloc|apply Kd.R_drewN|apply Kd.R_drew));exact HO7.out))) (below_size (by repeat (first|(with_reducible first|exact HB.out|apply below_alloc|apply pw_below_drewN|apply below_drew1)|exact HB.out))));have n3_ := Aside0.mk (below_step (by repeat (first|(with_reducible first|exact HB.out|apply below_alloc|apply pw_below_drewN|apply below_drew1)|exact HB.out)) hb);clear HO3;clear HO7;clear HB;have HO3 := n0_;have HO7 := n1_;have HO10 := n2_;have HB := n3_;clear n0_ n1_ n2_ n3_;(try clear hb);(try clear hb2);(try clear hk);(try clear hi);(try clear ho0))|((with_reducible refine gate_callee (f := 61) rfl ?_);refine goesL_ (some 19) rfl rfl Try.func61 (by kernel_rfl) rfl #[.int .i64 t4] rfl (by (try simp only [List.map_toArray, List.map_cons, List.map_nil]);first|done|rfl|(simp only [List.length_drop, List.length_take];rfl)) ?_;(with_reducible refine (law1_Num.calls t4 t12 _ A3.out).mono ?_);rintro e w' ⟨rfl, ⟨nd, rfl⟩⟩;refine ⟨_, rfl, ?_⟩)|(go_at_call 61;(with_reducible refine (law1_Num.calls t11 t13 _ A5.out).mono ?_);rintro e w' ⟨rfl, ⟨nd, rfl⟩⟩))
   go_ret
   exact ⟨by first|rfl|(simp [errW_none, errW_some] <;> rfl)|(simp [*, errW_none, errW_some] <;> rfl), by repeat (first|(with_reducible first|exact HB.out|apply below_alloc|apply pw_below_drewN|apply below_drew1)|exact HB.out)⟩
 ·rw [if_neg c4] at H
  have c4b0 : (t12 == 2) = false := beq_eq_false_iff_ne.mpr c4
  have c4b1 : (t12 != 2) = true := bne_iff_ne.mpr c4
  obtain rfl := Option.some.inj H
  go_enter Try.func59, Try.ntmps59
  go_wp2_with (first|((with_reducible refine gate_callee (f := 60) rfl ?_);refine goesL_ (some 7) rfl rfl Try.func60 (by kernel_rfl) rfl #[.slice none 0 0, .string (⟨#[97]⟩ : ByteArray), .agg #[.int .i64 0, .int .i64 0, .int .i64 0]] rfl (by (try simp only [List.map_toArray, List.map_cons, List.map_nil]);first|done|rfl|(simp only [List.length_drop, List.length_take];rfl)) ?_;(refine (admit_Admit.calls k _ _ ([] : List (S31)) (⟨#[97]⟩ : ByteArray) 0 0 0 t1 t4 _ ?side1 ?side2 A1.out).mono ?_);(case side1 => exact Kd.C_nil _ _);(case side2 => exact Nat.le_refl _);rintro e w33 ⟨v2, rfl, ho0, hb⟩;refine ⟨_, rfl, ?_⟩;have n0_ := Aside0.mk (Kd.R_lower ho0 (below_size (by repeat (first|(with_reducible first|exact HB.out|apply below_alloc|apply pw_below_drewN|apply below_drew1)|exact HB.out))));have n1_ := Aside0.mk (below_step (by repeat (first|(with_reducible first|exact HB.out|apply below_alloc|apply pw_below_drewN|apply below_drew1)|exact HB.out)) hb);clear HB;have HO3 := n0_;have HB := n1_;clear n0_ n1_;(try clear hb);(try clear hb2);(try clear hk);(try clear hi);(try clear ho0))|((with_reducible refine gate_dst (N := 13) rfl ?_);(try (refine gate_guard (by rfl) ?_;dsimp only));refine Kd.R_lit k31 _ 31 ?hg (N := 13) ?hd (xs := ([(⟨(⟨#[97]⟩ : ByteArray), (⟨#[]⟩ : ByteArray), (⟨5, 0, 0⟩ : S27), (⟨0, 0, 0⟩ : S27), (⟨0, 0, 0⟩ : S27), 1⟩ : S31)] : List (S31))) (inner := [.string (⟨#[97]⟩ : ByteArray), .string (⟨#[]⟩ : ByteArray), .int .i64 5, .int .i64 0, .int .i64 0, .int .i64 0, .int .i64 0, .int .i64 0, .int .i64 0, .int .i64 0, .int .i64 0, .int .i64 1]) (ok := fun _ => True) (okp := fun _ => True) ?hr ?hp (fun _ hk => hk) trivial (Below.refl _ _) (Nat.le_refl _) (by simp) ?_;(case hd => rfl);(case hg => rfl);(case hr => first|(go_simp;done)|(go_simp;rfl));(case hp => exact (Reps.front (show Kd.M k31 _ _ _ (⟨(⟨#[97]⟩ : ByteArray), (⟨#[]⟩ : ByteArray), (⟨5, 0, 0⟩ : S27), (⟨0, 0, 0⟩ : S27), (⟨0, 0, 0⟩ : S27), 1⟩ : S31) [.string (⟨#[97]⟩ : ByteArray), .string (⟨#[]⟩ : ByteArray), .int .i64 5, .int .i64 0, .int .i64 0, .int .i64 0, .int .i64 0, .int .i64 0, .int .i64 0, .int .i64 0, .int .i64 0, .int .i64 1] from (k31_mkM _ _ _ (⟨(⟨#[97]⟩ : ByteArray), (⟨#[]⟩ : ByteArray), (⟨5, 0, 0⟩ : S27), (⟨0, 0, 0⟩ : S27), (⟨0, 0, 0⟩ : S27), 1⟩ : S31) )) rfl (Reps.none _ _) rfl));intro v6 w34 ho35 hb hg_ hnew_;clear hg_ hnew_;(first|rw [← Ny5.out] at ho35|(simp only [Int.reduceToNat] at ho35;rw [← Ny5.out] at ho35));have n0_ := Aside0.mk (Kd.R_elder' (by (with_reducible repeat (first|apply Kd.R_alloc|apply Kd.R_drewN|apply Kd.R_drew));exact HO3.out) (Kd.R_base ho35) hb);have n1_ := Aside0.mk (Kd.R_lower (Kd.R_new' ho35 (Kd.R_lt (by (with_reducible repeat (first|apply Kd.R_alloc|apply Kd.R_drewN|apply Kd.R_drew));exact HO3.out))) (below_size (by repeat (first|(with_reducible first|exact HB.out|apply below_alloc|apply pw_below_drewN|apply below_drew1)|exact HB.out))));have n2_ := Aside0.mk (below_step (by repeat (first|(with_reducible first|exact HB.out|apply below_alloc|apply pw_below_drewN|apply below_drew1)|exact HB.out)) hb);clear HO3;clear HB;have HO3 := n0_;have HO7 := n1_;have HB := n2_;clear n0_ n1_ n2_;clear hb ho35;obtain ⟨Ao36, co36, eo36⟩ := Kd.R_slice HO7.out;subst eo36)|((with_reducible refine gate_callee (f := 60) rfl ?_);refine goesL_ (some 15) rfl rfl Try.func60 (by kernel_rfl) rfl #[.slice Ao36 y5.length co36, .string (⟨#[97]⟩ : ByteArray), .agg #[.int .i64 3, .int .i64 0, .int .i64 0]] rfl (by (try simp only [List.map_toArray, List.map_cons, List.map_nil]);first|done|rfl|(simp only [List.length_drop, List.length_take];rfl)) ?_;(with_reducible refine (admit_Admit.calls k _ _ y5 (⟨#[97]⟩ : ByteArray) 3 0 0 t8 t11 _ ?side1 ?side2 A2.out).mono ?_);(case side1 => repeat (first|exact (Kd.R_reads' HO7.out).2.2|(with_reducible refine Kd.C_alloc ?_ _)|(with_reducible refine Kd.C_drewN ?_ _)|(with_reducible refine Kd.C_drew ?_)));(case side2 => exact (Kd.R_reads' HO7.out).2.1);rintro e w37 ⟨v9, rfl, ho0, hb⟩;refine ⟨_, rfl, ?_⟩;have n0_ := Aside0.mk (Kd.R_elder' (by (with_reducible repeat (first|apply Kd.R_alloc|apply Kd.R_drewN|apply Kd.R_drew));exact HO3.out) (Kd.R_base ho0) hb);have n1_ := Aside0.mk (Kd.R_elder' (by (with_reducible repeat (first|apply Kd.R_alloc|apply Kd.R_drewN|apply Kd.R_drew));exact HO7.out) (Kd.R_base ho0) hb);have n2_ := Aside0.mk (Kd.R_lower (Kd.R_new' (Kd.R_new' ho0 (Kd.R_lt (by (with_reducible repeat (first|apply Kd.R_alloc|apply Kd.R_drewN|apply Kd.R_drew));exact HO3.out))) (Kd.R_lt (by (with_reducible repeat (first|apply Kd.R_alloc|apply Kd.R_drewN|apply Kd.R_drew));exact HO7.out))) (below_size (by repeat (first|(with_reducible first|exact HB.out|apply below_alloc|apply pw_below_drewN|apply below_drew1)|exact HB.out))));have n3_ := Aside0.mk (below_step (by repeat (first|(with_reducible first|exact HB.out|apply below_alloc|apply pw_below_drewN|apply below_drew1)|exact HB.out)) hb);clear HO3;clear HO7;clear HB;have HO3 := n0_;have HO7 := n1_;have HO10 := n2_;have HB := n3_;clear n0_ n1_ n2_ n3_;(try clear hb);(try clear hb2);(try clear hk);(try clear hi);(try clear ho0))|((with_reducible refine gate_callee (f := 61) rfl ?_);refine goesL_ (some 19) rfl rfl Try.func61 (by kernel_rfl) rfl #[.int .i64 t4] rfl (by (try simp only [List.map_toArray, List.map_cons, List.map_nil]);first|done|rfl|(simp only [List.length_drop, List.length_take];rfl)) ?_;(with_reducible refine (law1_Num.calls t4 t12 _ A3.out).mono ?_);rintro e w' ⟨rfl, ⟨nd, rfl⟩⟩;refine ⟨_, rfl, ?_⟩))
  go_ret
  exact ⟨by first|rfl|(simp [errW_none, errW_some] <;> rfl)|(simp [*, errW_none, errW_some] <;> rfl), by repeat (first|(with_reducible first|exact HB.out|apply below_alloc|apply pw_below_drewN|apply below_drew1)|exact HB.out)⟩
end Go.Proofs.Ytcgefpklljclgaa.Print

namespace Go.Proofs.Ytcgefpklljclgaa.Print
open Go.RowKit Go.Proofs.YtcgefpklljclgaaW.PrintWords Go.Proofs.YtcgefpklljclgaaW.PrintLast Go.Proofs.YtcgefpklljclgaaW.PrintMore
attribute [local go_sem] max2_int min2_int max_two min_two max_three min_three max_four min_four   -- for this text's walks alone
set_option linter.unusedVariables false
set_option linter.unusedSimpArgs false
mutual
def law14_AdmitRoom.l0 : Nat → List (S31) → ByteArray → Bool → Int → Int → Int → Int → Option (Bool)
 | 0, _, _, _, _, _, _, _ => none
 | k + 1, x9, x10, x12, x13, x8000, x8001, x8002 => if x13 ≥ 0 then (if x12 = true then (if 0 ≤ x13 then (if x13 < (x9.length : Int) then (if (wrap64 (((rd_T31 x9 x13).f4.f0) + x8000)) ≤ ((rd_T31 x9 x13).f2.f0) then ((r10_Find.f k x9 ((rd_T31 x9 x13).f1)).bind fun t14 => (law14_AdmitRoom.l0 k x9 x10 (decide ((wrap64 (((rd_T31 x9 x13).f4.f1) + x8001)) ≤ ((rd_T31 x9 x13).f2.f1))) t14 x8000 x8001 x8002)) else ((r10_Find.f k x9 ((rd_T31 x9 x13).f1)).bind fun t16 => (law14_AdmitRoom.l0 k x9 x10 false t16 x8000 x8001 x8002))) else (none)) else (none)) else (if 0 ≤ x13 then (if x13 < (x9.length : Int) then ((r10_Find.f k x9 ((rd_T31 x9 x13).f1)).bind fun t18 => (law14_AdmitRoom.l0 k x9 x10 false t18 x8000 x8001 x8002)) else (none)) else (none))) else ((admit_Admit.f k x9 x10 x8000 x8001 x8002).bind fun bt19 => (if x12 = true then ((law1_Num.f bt19.2).bind fun t25 => (if t25 = 0 then ((r10_Right.f k bt19.1).bind fun t26 => (law14_AdmitRoom.j1 k x9 x10 bt19.1 (!t26) x8000 x8001 x8002)) else (law14_AdmitRoom.j1 k x9 x10 bt19.1 true x8000 x8001 x8002))) else ((law1_Num.f bt19.2).bind fun t23 => (if t23 = 12 then (if (bt19.1.length : Int) = 0 then ((law14_awake.f k).bind fun t24 => (some t24)) else (some false)) else (some false)))))
def law14_AdmitRoom.j1 : Nat → List (S31) → ByteArray → List (S31) → Bool → Int → Int → Int → Option (Bool)
 | 0, _, _, _, _, _, _, _ => none
 | k + 1, x9, x10, x14, x121, x8000, x8001, x8002 => if x121 = true then (some false) else ((r10_Find.f k x14 x10).bind fun t27 => (if t27 < 0 then (some false) else ((admit_Release.f k x14 x10 x8000 x8001 x8002).bind fun bt28 => (if 0 ≤ t27 then (if t27 < (x14.length : Int) then ((admit_Release.f k x14 x10 0 0 (wrap64 (((rd_T31 x14 t27).f3.f2) + 1))).bind fun bt33 => ((law1_Num.f bt28.2).bind fun t37 => (if t37 = 0 then ((r10_SameItems.f k bt28.1 x9).bind fun t38 => (if t38 = true then ((law1_Num.f bt33.2).bind fun t39 => (if t39 = 1 then ((law14_awake.f k).bind fun t40 => (some t40)) else (some false))) else (some false))) else (some false)))) else (none)) else (none)))))
end
def law14_AdmitRoom.f (k : Nat) (l0 : List Int) (a1 : Int) (a2 : Int) (a3 : Int) : Option (Bool) := if (l0.length : Int) > 90 then ((law14_awake.f k).bind fun t1 => (some t1)) else ((law12_Make.f k l0).bind fun t2 => (if (t2.length : Int) = 0 then ((law14_awake.f k).bind fun t5 => (some t5)) else (if 0 ≤ (Int.tmod (wrap64 (a1)) (t2.length : Int)) then (if (Int.tmod (wrap64 (a1)) (t2.length : Int)) < (t2.length : Int) then ((r10_Find.f k t2 ((rd_T31 t2 (Int.tmod (wrap64 (a1)) (t2.length : Int))).f0)).bind fun t8 => (law14_AdmitRoom.l0 k t2 ((rd_T31 t2 (Int.tmod (wrap64 (a1)) (t2.length : Int))).f0) true t8 (wrap64 (a2)) (wrap64 (a3)) 0)) else (none)) else (none))))
theorem law14_AdmitRoom.mono_l : ∀ k, (∀ y0 y1 y2 y3 y4 y5 y6, LeO (law14_AdmitRoom.l0 k y0 y1 y2 y3 y4 y5 y6) (law14_AdmitRoom.l0 (k + 1) y0 y1 y2 y3 y4 y5 y6)) ∧ (∀ y0 y1 y2 y3 y4 y5 y6, LeO (law14_AdmitRoom.j1 k y0 y1 y2 y3 y4 y5 y6) (law14_AdmitRoom.j1 (k + 1) y0 y1 y2 y3 y4 y5 y6))
 | 0 => ⟨fun _ _ _ _ _ _ _ r h => by simp [law14_AdmitRoom.l0] at h, fun _ _ _ _ _ _ _ r h => by simp [law14_AdmitRoom.j1] at h⟩
 | k + 1 => by
  obtain ⟨ih0, ih1⟩ := law14_AdmitRoom.mono_l k
  refine ⟨?_, ?_⟩
  ·intro y0 y1 y2 y3 y4 y5 y6
   unfold law14_AdmitRoom.l0
   repeat' first
   | (with_reducible exact ih0 _ _ _ _ _ _ _)
   | (with_reducible exact ih1 _ _ _ _ _ _ _)
   | (with_reducible exact admit_Admit.mono _ _ _ _ _ _)
   | (with_reducible exact admit_Release.mono _ _ _ _ _ _)
   | (with_reducible exact law12_Make.mono _ _)
   | (with_reducible exact law14_awake.mono _)
   | (with_reducible exact r10_Find.mono _ _ _)
   | (with_reducible exact r10_Right.mono _ _)
   | (with_reducible exact r10_SameItems.mono _ _ _)
   | (with_reducible exact LeO.refl _)
   | (with_reducible exact LeO.none _)
   | (with_reducible refine LeO.ite ?_ ?_)
   | (with_reducible refine LeO.bind ?_ (fun _ => ?_))
   | exact ih0 _ _ _ _ _ _ _
   | exact ih1 _ _ _ _ _ _ _
   | exact admit_Admit.mono _ _ _ _ _ _
   | exact admit_Release.mono _ _ _ _ _ _
   | exact law12_Make.mono _ _
   | exact law14_awake.mono _
   | exact r10_Find.mono _ _ _
   | exact r10_Right.mono _ _
   | exact r10_SameItems.mono _ _ _
   | exact LeO.none _
   | refine LeO.ite ?_ ?_
   | refine LeO.bind ?_ (fun _ => ?_)
  ·intro y0 y1 y2 y3 y4 y5 y6
   unfold law14_AdmitRoom.j1
   repeat' first
   | (with_reducible exact ih0 _ _ _ _ _ _ _)
   | (with_reducible exact ih1 _ _ _ _ _ _ _)
   | (with_reducible exact admit_Admit.mono _ _ _ _ _ _)
   | (with_reducible exact admit_Release.mono _ _ _ _ _ _)
   | (with_reducible exact law12_Make.mono _ _)
   | (with_reducible exact law14_awake.mono _)
   | (with_reducible exact r10_Find.mono _ _ _)
   | (with_reducible exact r10_Right.mono _ _)
   | (with_reducible exact r10_SameItems.mono _ _ _)
   | (with_reducible exact LeO.refl _)
   | (with_reducible exact LeO.none _)
   | (with_reducible refine LeO.ite ?_ ?_)
   | (with_reducible refine LeO.bind ?_ (fun _ => ?_))
   | exact ih0 _ _ _ _ _ _ _
   | exact ih1 _ _ _ _ _ _ _
   | exact admit_Admit.mono _ _ _ _ _ _
   | exact admit_Release.mono _ _ _ _ _ _
   | exact law12_Make.mono _ _
   | exact law14_awake.mono _
   | exact r10_Find.mono _ _ _
   | exact r10_Right.mono _ _
   | exact r10_SameItems.mono _ _ _
   | exact LeO.none _
   | refine LeO.ite ?_ ?_
   | refine LeO.bind ?_ (fun _ => ?_)
theorem law14_AdmitRoom.mono : ∀ a0 a1 a2 a3 k, LeO (law14_AdmitRoom.f k a0 a1 a2 a3) (law14_AdmitRoom.f (k + 1) a0 a1 a2 a3) := by
 intro a0 a1 a2 a3 k
 obtain ⟨ih0, ih1⟩ := law14_AdmitRoom.mono_l k
 unfold law14_AdmitRoom.f
 repeat' first
   | (with_reducible exact ih0 _ _ _ _ _ _ _)
   | (with_reducible exact ih1 _ _ _ _ _ _ _)
   | (with_reducible exact admit_Admit.mono _ _ _ _ _ _)
   | (with_reducible exact admit_Release.mono _ _ _ _ _ _)
   | (with_reducible exact law12_Make.mono _ _)
   | (with_reducible exact law14_awake.mono _)
   | (with_reducible exact r10_Find.mono _ _ _)
   | (with_reducible exact r10_Right.mono _ _)
   | (with_reducible exact r10_SameItems.mono _ _ _)
   | (with_reducible exact LeO.refl _)
   | (with_reducible exact LeO.none _)
   | (with_reducible refine LeO.ite ?_ ?_)
   | (with_reducible refine LeO.bind ?_ (fun _ => ?_))
   | exact ih0 _ _ _ _ _ _ _
   | exact ih1 _ _ _ _ _ _ _
   | exact admit_Admit.mono _ _ _ _ _ _
   | exact admit_Release.mono _ _ _ _ _ _
   | exact law12_Make.mono _ _
   | exact law14_awake.mono _
   | exact r10_Find.mono _ _ _
   | exact r10_Right.mono _ _
   | exact r10_SameItems.mono _ _ _
   | exact LeO.none _
   | refine LeO.ite ?_ ?_
   | refine LeO.bind ?_ (fun _ => ?_)
set_option maxHeartbeats 8000000 in
set_option maxRecDepth 100000 in
theorem law14_AdmitRoom.calls (k : Nat) (A0 : Option Addr) (c0 : Nat) (l0 : List Int) (a1 : Int) (a2 : Int) (a3 : Int) (r : Bool) (w : World) (hr0 : Kd.C (Kd.int .u8) w A0 l0.length l0) (hc0 : l0.length ≤ c0) (h : law14_AdmitRoom.f k l0 a1 a2 a3 = some r) :
  Calls Try.prog 18 #[.slice A0 l0.length c0, .int .u8 a1, .int .u8 a2, .int .u8 a3] w fun e w' => e = .returned (.bool r) ∧ Below w.heap.size w w' := by
 have hu27 := Try.underlying27
 have HR0 := Aside0.mk hr0
 have HC0 := Aside0.mk hc0
 clear hr0 hc0
 have HB := Aside0.mk (Below.refl w.heap.size w)
 have H : (if (l0.length : Int) > 90 then ((law14_awake.f k).bind fun t1 => (some t1)) else ((law12_Make.f k l0).bind fun t2 => (if (t2.length : Int) = 0 then ((law14_awake.f k).bind fun t5 => (some t5)) else (if 0 ≤ (Int.tmod (wrap64 (a1)) (t2.length : Int)) then (if (Int.tmod (wrap64 (a1)) (t2.length : Int)) < (t2.length : Int) then ((r10_Find.f k t2 ((rd_T31 t2 (Int.tmod (wrap64 (a1)) (t2.length : Int))).f0)).bind fun t8 => (law14_AdmitRoom.l0 k t2 ((rd_T31 t2 (Int.tmod (wrap64 (a1)) (t2.length : Int))).f0) true t8 (wrap64 (a2)) (wrap64 (a3)) 0)) else (none)) else (none))))) = some r := h
 clear h
 by_cases c5 : (l0.length : Int) > 90
 ·rw [if_pos c5] at H
  have c5b0 : decide (90 < (l0.length : Int)) = true := decide_eq_true c5
  have c5b1 : decide (90 < l0.length) = true := decide_eq_true (by omega)
  clear c5
  replace H := Option.bind_eq_some_iff.mp H
  obtain ⟨t1, A60, H⟩ := H
  replace H : (some t1) = some r := H
  have A6 := Aside0.mk A60
  clear A60
  obtain rfl := Option.some.inj H
  go_enter Try.func18, Try.ntmps18
  go_wp2_with (first|(go_at_call 59;(with_reducible refine (law14_awake.calls k  t1 _ A6.out).mono ?_);rintro e w7 ⟨rfl, hb⟩;have n0_ := Aside0.mk (below_step (by repeat (first|(with_reducible first|exact HB.out|apply below_alloc|apply pw_below_drewN|apply below_drew1)|exact HB.out)) hb);clear HB;have HB := n0_;clear n0_;(try clear hb);(try clear hb2);(try clear hk);(try clear hi)))
  repeat (go_quiet (first|(go_at_call 59;(with_reducible refine (law14_awake.calls k  t1 _ A6.out).mono ?_);rintro e w7 ⟨rfl, hb⟩;have n0_ := Aside0.mk (below_step (by repeat (first|(with_reducible first|exact HB.out|apply below_alloc|apply pw_below_drewN|apply below_drew1)|exact HB.out)) hb);clear HB;have HB := n0_;clear n0_;(try clear hb);(try clear hb2);(try clear hk);(try clear hi)));try go_wp2_with (first|(go_at_call 59;(with_reducible refine (law14_awake.calls k  t1 _ A6.out).mono ?_);rintro e w7 ⟨rfl, hb⟩;have n0_ := Aside0.mk (below_step (by repeat (first|(with_reducible first|exact HB.out|apply below_alloc|apply pw_below_drewN|apply below_drew1)|exact HB.out)) hb);clear HB;have HB := n0_;clear n0_;(try clear hb);(try clear hb2);(try clear hk);(try clear hi))))
  go_ret
  exact ⟨by first|rfl|(simp [errW_none, errW_some] <;> rfl)|(simp [*, errW_none, errW_some] <;> rfl), by repeat (first|(with_reducible first|exact HB.out|apply below_alloc|apply pw_below_drewN|apply below_drew1)|exact HB.out)⟩
 ·rw [if_neg c5] at H
  have c5b0 : decide (90 < (l0.length : Int)) = false := decide_eq_false c5
  have c5b1 : decide (90 < l0.length) = false := decide_eq_false (by omega)
  clear c5
  replace H := Option.bind_eq_some_iff.mp H
  obtain ⟨t2, A80, H⟩ := H
  replace H : (if (t2.length : Int) = 0 then ((law14_awake.f k).bind fun t5 => (some t5)) else (if 0 ≤ (Int.tmod (wrap64 (a1)) (t2.length : Int)) then (if (Int.tmod (wrap64 (a1)) (t2.length : Int)) < (t2.length : Int) then ((r10_Find.f k t2 ((rd_T31 t2 (Int.tmod (wrap64 (a1)) (t2.length : Int))).f0)).bind fun t8 => (law14_AdmitRoom.l0 k t2 ((rd_T31 t2 (Int.tmod (wrap64 (a1)) (t2.length : Int))).f0) true t8 (wrap64 (a2)) (wrap64 (a3)) 0)) else (none)) else (none))) = some r := H
  have A8 := Aside0.mk A80
  clear A80
  by_cases c9 : (t2.length : Int) = 0
  ·rw [if_pos c9] at H
   have c9b0 : ((t2.length : Int) == 0) = true := beq_iff_eq.mpr c9
   have c9b1 : ((t2.length : Int) != 0) = false := bne_eq_false_iff_eq.mpr c9
   clear c9
   replace H := Option.bind_eq_some_iff.mp H
   obtain ⟨t5, A100, H⟩ := H
   replace H : (some t5) = some r := H
   have A10 := Aside0.mk A100
   clear A100
   obtain rfl := Option.some.inj H
   go_enter Try.func18, Try.ntmps18
   go_wp2_with (first|(go_at_call 32;(with_reducible refine (law12_Make.calls k _ _ l0 t2 _ ?side1 ?side2 A8.out).mono ?_);(case side1 => repeat (first|exact HR0.out|(with_reducible refine Kd.C_alloc ?_ _)|(with_reducible refine Kd.C_drewN ?_ _)|(with_reducible refine Kd.C_drew ?_)));(case side2 => exact HC0.out);rintro e w11 ⟨v3, rfl, ho0, hb⟩;have n0_ := Aside0.mk (Kd.R_lower ho0 (below_size (by repeat (first|(with_reducible first|exact HB.out|apply below_alloc|apply pw_below_drewN|apply below_drew1)|exact HB.out))));have n1_ := Aside0.mk (below_step (by repeat (first|(with_reducible first|exact HB.out|apply below_alloc|apply pw_below_drewN|apply below_drew1)|exact HB.out)) hb);clear HB;have HO4 := n0_;have HB := n1_;clear n0_ n1_;(try clear hb);(try clear hb2);(try clear hk);(try clear hi);(try clear ho0);obtain ⟨Ao12, co12, eo12⟩ := Kd.R_slice HO4.out;subst eo12)|(go_at_call 59;(with_reducible refine (law14_awake.calls k  t5 _ A10.out).mono ?_);rintro e w13 ⟨rfl, hb⟩;have n0_ := Aside0.mk (Kd.R_below (by (with_reducible repeat (first|apply Kd.R_alloc|apply Kd.R_drewN|apply Kd.R_drew));exact HO4.out) hb);have n1_ := Aside0.mk (below_step (by repeat (first|(with_reducible first|exact HB.out|apply below_alloc|apply pw_below_drewN|apply below_drew1)|exact HB.out)) hb);clear HO4;clear HB;have HO4 := n0_;have HB := n1_;clear n0_ n1_;(try clear hb);(try clear hb2);(try clear hk);(try clear hi)))
   repeat (go_quiet (first|(go_at_call 32;(with_reducible refine (law12_Make.calls k _ _ l0 t2 _ ?side1 ?side2 A8.out).mono ?_);(case side1 => repeat (first|exact HR0.out|(with_reducible refine Kd.C_alloc ?_ _)|(with_reducible refine Kd.C_drewN ?_ _)|(with_reducible refine Kd.C_drew ?_)));(case side2 => exact HC0.out);rintro e w11 ⟨v3, rfl, ho0, hb⟩;have n0_ := Aside0.mk (Kd.R_lower ho0 (below_size (by repeat (first|(with_reducible first|exact HB.out|apply below_alloc|apply pw_below_drewN|apply below_drew1)|exact HB.out))));have n1_ := Aside0.mk (below_step (by repeat (first|(with_reducible first|exact HB.out|apply below_alloc|apply pw_below_drewN|apply below_drew1)|exact HB.out)) hb);clear HB;have HO4 := n0_;have HB := n1_;clear n0_ n1_;(try clear hb);(try clear hb2);(try clear hk);(try clear hi);(try clear ho0);obtain ⟨Ao12, co12, eo12⟩ := Kd.R_slice HO4.out;subst eo12)|(go_at_call 59;(with_reducible refine (law14_awake.calls k  t5 _ A10.out).mono ?_);rintro e w13 ⟨rfl, hb⟩;have n0_ := Aside0.mk (Kd.R_below (by (with_reducible repeat (first|apply Kd.R_alloc|apply Kd.R_drewN|apply Kd.R_drew));exact HO4.out) hb);have n1_ := Aside0.mk (below_step (by repeat (first|(with_reducible first|exact HB.out|apply below_alloc|apply pw_below_drewN|apply below_drew1)|exact HB.out)) hb);clear HO4;clear HB;have HO4 := n0_;have HB := n1_;clear n0_ n1_;(try clear hb);(try clear hb2);(try clear hk);(try clear hi)));try go_wp2_with (first|(go_at_call 32;(with_reducible refine (law12_Make.calls k _ _ l0 t2 _ ?side1 ?side2 A8.out).mono ?_);(case side1 => repeat (first|exact HR0.out|(with_reducible refine Kd.C_alloc ?_ _)|(with_reducible refine Kd.C_drewN ?_ _)|(with_reducible refine Kd.C_drew ?_)));(case side2 => exact HC0.out);rintro e w11 ⟨v3, rfl, ho0, hb⟩;have n0_ := Aside0.mk (Kd.R_lower ho0 (below_size (by repeat (first|(with_reducible first|exact HB.out|apply below_alloc|apply pw_below_drewN|apply below_drew1)|exact HB.out))));have n1_ := Aside0.mk (below_step (by repeat (first|(with_reducible first|exact HB.out|apply below_alloc|apply pw_below_drewN|apply below_drew1)|exact HB.out)) hb);clear HB;have HO4 := n0_;have HB := n1_;clear n0_ n1_;(try clear hb);(try clear hb2);(try clear hk);(try clear hi);(try clear ho0);obtain ⟨Ao12, co12, eo12⟩ := Kd.R_slice HO4.out;subst eo12)|(go_at_call 59;(with_reducible refine (law14_awake.calls k  t5 _ A10.out).mono ?_);rintro e w13 ⟨rfl, hb⟩;have n0_ := Aside0.mk (Kd.R_below (by (with_reducible repeat (first|apply Kd.R_alloc|apply Kd.R_drewN|apply Kd.R_drew));exact HO4.out) hb);have n1_ := Aside0.mk (below_step (by repeat (first|(with_reducible first|exact HB.out|apply below_alloc|apply pw_below_drewN|apply below_drew1)|exact HB.out)) hb);clear HO4;clear HB;have HO4 := n0_;have HB := n1_;clear n0_ n1_;(try clear hb);(try clear hb2);(try clear hk);(try clear hi))))
   go_ret
   exact ⟨by first|rfl|(simp [errW_none, errW_some] <;> rfl)|(simp [*, errW_none, errW_some] <;> rfl), by repeat (first|(with_reducible first|exact HB.out|apply below_alloc|apply pw_below_drewN|apply below_drew1)|exact HB.out)⟩
  ·rw [if_neg c9] at H
   have c9b0 : ((t2.length : Int) == 0) = false := beq_eq_false_iff_ne.mpr c9
   have c9b1 : ((t2.length : Int) != 0) = true := bne_iff_ne.mpr c9
   have c9b2 : ¬ (t2 = []) := fun h_ => c9 (by rw [h_]; rfl)
   obtain ⟨ji14, hji14⟩ : ∃ j_ : Int, (Int.tmod (wrap64 (a1)) (t2.length : Int)) = j_ := ⟨_, rfl⟩
   replace H : (if 0 ≤ (ji14) then (if (ji14) < (t2.length : Int) then ((r10_Find.f k t2 ((rd_T31 t2 (ji14)).f0)).bind fun t8 => (law14_AdmitRoom.l0 k t2 ((rd_T31 t2 (ji14)).f0) true t8 (wrap64 (a2)) (wrap64 (a3)) 0)) else (none)) else (none)) = some r := by first | (rw [hji14] at H; exact H) | (simp only [hji14] at H ⊢; exact H)
   (try rw [hji14] at A8)
   by_cases c15 : 0 ≤ (ji14)
   ·rw [if_pos c15] at H
    have c15b0 : decide (0 ≤ (ji14)) = true := decide_eq_true c15
    clear c15
    by_cases c16 : (ji14) < (t2.length : Int)
    ·rw [if_pos c16] at H
     have c16b0 : decide ((ji14) < (t2.length : Int)) = true := decide_eq_true c16
     clear c16
     replace H := Option.bind_eq_some_iff.mp H
     obtain ⟨t8, A170, H⟩ := H
     replace H : (law14_AdmitRoom.l0 k t2 ((rd_T31 t2 (ji14)).f0) true t8 (wrap64 (a2)) (wrap64 (a3)) 0) = some r := H
     have A17 := Aside0.mk A170
     clear A170
     have H' := Aside0.mk H
     clear H
     go_enter Try.func18, Try.ntmps18
     go_wp2_with (first|(go_at_call 32;(with_reducible refine (law12_Make.calls k _ _ l0 t2 _ ?side1 ?side2 A8.out).mono ?_);(case side1 => repeat (first|exact HR0.out|(with_reducible refine Kd.C_alloc ?_ _)|(with_reducible refine Kd.C_drewN ?_ _)|(with_reducible refine Kd.C_drew ?_)));(case side2 => exact HC0.out);rintro e w18 ⟨v3, rfl, ho0, hb⟩;have n0_ := Aside0.mk (Kd.R_lower ho0 (below_size (by repeat (first|(with_reducible first|exact HB.out|apply below_alloc|apply pw_below_drewN|apply below_drew1)|exact HB.out))));have n1_ := Aside0.mk (below_step (by repeat (first|(with_reducible first|exact HB.out|apply below_alloc|apply pw_below_drewN|apply below_drew1)|exact HB.out)) hb);clear HB;have HO4 := n0_;have HB := n1_;clear n0_ n1_;(try clear hb);(try clear hb2);(try clear hk);(try clear hi);(try clear ho0);obtain ⟨Ao19, co19, eo19⟩ := Kd.R_slice HO4.out;subst eo19;have p6 : 0 ≤ ((ji14) : Int) := of_decide_eq_true (by first|(with_reducible assumption)|assumption);have q6 : (ji14) < (t2.length : Int) := of_decide_eq_true (by first|(with_reducible assumption)|assumption);obtain ⟨ad6, e6, hx6_0, hx6_1, hx6_2, hx6_3, hx6_4, hx6_5, hx6_6, hx6_7, hx6_8, hx6_9, hx6_10, hx6_11⟩ := at_T31 (Kd.R_reads' HO4.out).2.2 (ji14) p6 q6;cases e6;replace p6 := eq_true p6;replace q6 := eq_true q6)|((with_reducible refine gate_dst (N := 11) rfl ?_);(try (refine gate_guard (by rfl) ?_;dsimp only));refine box_event ?hg (N := 11) ?hd (cs := #[.int .i64 0, .int .i64 0, .int .i64 0]) (t := 27) ?hr ?_;(case hd => rfl);(case hg => rfl);(case hr => first|(go_simp;done)|(go_simp;rfl));intro gb7 hg w20 hbox hb;have n0_ := Aside0.mk (Kd.R_below (by (with_reducible repeat (first|apply Kd.R_alloc|apply Kd.R_drewN|apply Kd.R_drew));exact HO4.out) hb);have n1_ := Aside0.mk (below_step (by repeat (first|(with_reducible first|exact HB.out|apply below_alloc|apply pw_below_drewN|apply below_drew1)|exact HB.out)) hb);have n2_ := Aside0.mk (hbox);have n3_ := Aside0.mk ((by rw [hg];exact (below_size (by repeat (first|(with_reducible first|exact HB.out|apply below_alloc|apply pw_below_drewN|apply below_drew1)|exact HB.out))) : w.heap.size ≤ gb7));have n4_ := Aside0.mk ((by rw [hg];exact (below_size (by repeat (first|(with_reducible first|exact HB.out|apply below_alloc|apply pw_below_drewN|apply below_drew1)|exact HB.out))) : w.heap.size ≤ gb7));clear HO4;clear HB;have HO4 := n0_;have HB := n1_;have BK7 := n2_;have GW7 := n3_;have GE7 := n4_;clear n0_ n1_ n2_ n3_ n4_;clear hb hbox hg;have hcz21_0 : w20.cell? ⟨gb7, 0, none⟩ = some (.int .i64 0) := (blk_cell BK7.out 0).trans rfl;have hcz21_1 : w20.cell? ⟨gb7, 1, none⟩ = some (.int .i64 0) := (blk_cell BK7.out 1).trans rfl;have hcz21_2 : w20.cell? ⟨gb7, 2, none⟩ = some (.int .i64 0) := (blk_cell BK7.out 2).trans rfl;have hfz21_0 := blk_frozen BK7.out 0;have hfz21_1 := blk_frozen BK7.out 1;have hfz21_2 := blk_frozen BK7.out 2)|(go_at_call 50;(with_reducible refine (r10_Find.calls k _ _ t2 ((rd_T31 t2 (ji14)).f0) t8 _ ?side1 ?side2 A17.out).mono ?_);(case side1 => refine (Kd.R_reads' (e := 31) (base := w.heap.size) (ok := fun k_ => True) (n := t2.length) (c := co19) ?_).2.2;exact (by (with_reducible repeat (first|apply Kd.R_alloc|apply Kd.R_drewN|apply Kd.R_drew));exact (Kd.R_mono (Kd.R_far (p := ⟨gb7, 2, none⟩) (Kd.R_far (p := ⟨gb7, 1, none⟩) (Kd.R_far (p := ⟨gb7, 0, none⟩) (Kd.R_types HO4.out BK7.out (by decide)) (fun _ hk => hk.2) (.int .i64 (wrap64 (a2)))) (fun _ hk => hk.2) (.int .i64 (wrap64 (a3)))) (fun _ hk => hk.2) (.int .i64 0)) (fun _ h_ => h_.1))));(case side2 => exact (Kd.R_reads' HO4.out).2.1);rintro e w' ⟨rfl, ⟨nd, rfl⟩⟩;(try first|exact ⟨rfl, _, World.drewN_drewN _ _ _⟩|exact ⟨rfl, _, Eq.trans (World.drewN_drewN _ _ _) (congrArg (World.drewN _) (Nat.add_assoc _ _ _))⟩)))
     repeat (go_quiet (first|(go_at_call 32;(with_reducible refine (law12_Make.calls k _ _ l0 t2 _ ?side1 ?side2 A8.out).mono ?_);(case side1 => repeat (first|exact HR0.out|(with_reducible refine Kd.C_alloc ?_ _)|(with_reducible refine Kd.C_drewN ?_ _)|(with_reducible refine Kd.C_drew ?_)));(case side2 => exact HC0.out);rintro e w18 ⟨v3, rfl, ho0, hb⟩;have n0_ := Aside0.mk (Kd.R_lower ho0 (below_size (by repeat (first|(with_reducible first|exact HB.out|apply below_alloc|apply pw_below_drewN|apply below_drew1)|exact HB.out))));have n1_ := Aside0.mk (below_step (by repeat (first|(with_reducible first|exact HB.out|apply below_alloc|apply pw_below_drewN|apply below_drew1)|exact HB.out)) hb);clear HB;have HO4 := n0_;have HB := n1_;clear n0_ n1_;(try clear hb);(try clear hb2);(try clear hk);(try clear hi);(try clear ho0);obtain ⟨Ao19, co19, eo19⟩ := Kd.R_slice HO4.out;subst eo19;have p6 : 0 ≤ ((ji14) : Int) := of_decide_eq_true (by first|(with_reducible assumption)|assumption);have q6 : (ji14) < (t2.length : Int) := of_decide_eq_true (by first|(with_reducible assumption)|assumption);obtain ⟨ad6, e6, hx6_0, hx6_1, hx6_2, hx6_3, hx6_4, hx6_5, hx6_6, hx6_7, hx6_8, hx6_9, hx6_10, hx6_11⟩ := at_T31 (Kd.R_reads' HO4.out).2.2 (ji14) p6 q6;cases e6;replace p6 := eq_true p6;replace q6 := eq_true q6)|((with_reducible refine gate_dst (N := 11) rfl ?_);(try (refine gate_guard (by rfl) ?_;dsimp only));refine box_event ?hg (N := 11) ?hd (cs := #[.int .i64 0, .int .i64 0, .int .i64 0]) (t := 27) ?hr ?_;(case hd => rfl);(case hg => rfl);(case hr => first|(go_simp;done)|(go_simp;rfl));intro gb7 hg w20 hbox hb;have n0_ := Aside0.mk (Kd.R_below (by (with_reducible repeat (first|apply Kd.R_alloc|apply Kd.R_drewN|apply Kd.R_drew));exact HO4.out) hb);have n1_ := Aside0.mk (below_step (by repeat (first|(with_reducible first|exact HB.out|apply below_alloc|apply pw_below_drewN|apply below_drew1)|exact HB.out)) hb);have n2_ := Aside0.mk (hbox);have n3_ := Aside0.mk ((by rw [hg];exact (below_size (by repeat (first|(with_reducible first|exact HB.out|apply below_alloc|apply pw_below_drewN|apply below_drew1)|exact HB.out))) : w.heap.size ≤ gb7));have n4_ := Aside0.mk ((by rw [hg];exact (below_size (by repeat (first|(with_reducible first|exact HB.out|apply below_alloc|apply pw_below_drewN|apply below_drew1)|exact HB.out))) : w.heap.size ≤ gb7));clear HO4;clear HB;have HO4 := n0_;have HB := n1_;have BK7 := n2_;have GW7 := n3_;have GE7 := n4_;clear n0_ n1_ n2_ n3_ n4_;clear hb hbox hg;have hcz21_0 : w20.cell? ⟨gb7, 0, none⟩ = some (.int .i64 0) := (blk_cell BK7.out 0).trans rfl;have hcz21_1 : w20.cell? ⟨gb7, 1, none⟩ = some (.int .i64 0) := (blk_cell BK7.out 1).trans rfl;have hcz21_2 : w20.cell? ⟨gb7, 2, none⟩ = some (.int .i64 0) := (blk_cell BK7.out 2).trans rfl;have hfz21_0 := blk_frozen BK7.out 0;have hfz21_1 := blk_frozen BK7.out 1;have hfz21_2 := blk_frozen BK7.out 2)|(go_at_call 50;(with_reducible refine (r10_Find.calls k _ _ t2 ((rd_T31 t2 (ji14)).f0) t8 _ ?side1 ?side2 A17.out).mono ?_);(case side1 => refine (Kd.R_reads' (e := 31) (base := w.heap.size) (ok := fun k_ => True) (n := t2.length) (c := co19) ?_).2.2;exact (by (with_reducible repeat (first|apply Kd.R_alloc|apply Kd.R_drewN|apply Kd.R_drew));exact (Kd.R_mono (Kd.R_far (p := ⟨gb7, 2, none⟩) (Kd.R_far (p := ⟨gb7, 1, none⟩) (Kd.R_far (p := ⟨gb7, 0, none⟩) (Kd.R_types HO4.out BK7.out (by decide)) (fun _ hk => hk.2) (.int .i64 (wrap64 (a2)))) (fun _ hk => hk.2) (.int .i64 (wrap64 (a3)))) (fun _ hk => hk.2) (.int .i64 0)) (fun _ h_ => h_.1))));(case side2 => exact (Kd.R_reads' HO4.out).2.1);rintro e w' ⟨rfl, ⟨nd, rfl⟩⟩;(try first|exact ⟨rfl, _, World.drewN_drewN _ _ _⟩|exact ⟨rfl, _, Eq.trans (World.drewN_drewN _ _ _) (congrArg (World.drewN _) (Nat.add_assoc _ _ _))⟩)));try go_wp2_with (first|(go_at_call 32;(with_reducible refine (law12_Make.calls k _ _ l0 t2 _ ?side1 ?side2 A8.out).mono ?_);(case side1 => repeat (first|exact HR0.out|(with_reducible refine Kd.C_alloc ?_ _)|(with_reducible refine Kd.C_drewN ?_ _)|(with_reducible refine Kd.C_drew ?_)));(case side2 => exact HC0.out);rintro e w18 ⟨v3, rfl, ho0, hb⟩;have n0_ := Aside0.mk (Kd.R_lower ho0 (below_size (by repeat (first|(with_reducible first|exact HB.out|apply below_alloc|apply pw_below_drewN|apply below_drew1)|exact HB.out))));have n1_ := Aside0.mk (below_step (by repeat (first|(with_reducible first|exact HB.out|apply below_alloc|apply pw_below_drewN|apply below_drew1)|exact HB.out)) hb);clear HB;have HO4 := n0_;have HB := n1_;clear n0_ n1_;(try clear hb);(try clear hb2);(try clear hk);(try clear hi);(try clear ho0);obtain ⟨Ao19, co19, eo19⟩ := Kd.R_slice HO4.out;subst eo19;have p6 : 0 ≤ ((ji14) : Int) := of_decide_eq_true (by first|(with_reducible assumption)|assumption);have q6 : (ji14) < (t2.length : Int) := of_decide_eq_true (by first|(with_reducible assumption)|assumption);obtain ⟨ad6, e6, hx6_0, hx6_1, hx6_2, hx6_3, hx6_4, hx6_5, hx6_6, hx6_7, hx6_8, hx6_9, hx6_10, hx6_11⟩ := at_T31 (Kd.R_reads' HO4.out).2.2 (ji14) p6 q6;cases e6;replace p6 := eq_true p6;replace q6 := eq_true q6)|((with_reducible refine gate_dst (N := 11) rfl ?_);(try (refine gate_guard (by rfl) ?_;dsimp only));refine box_event ?hg (N := 11) ?hd (cs := #[.int .i64 0, .int .i64 0, .int .i64 0]) (t := 27) ?hr ?_;(case hd => rfl);(case hg => rfl);(case hr => first|(go_simp;done)|(go_simp;rfl));intro gb7 hg w20 hbox hb;have n0_ := Aside0.mk (Kd.R_below (by (with_reducible repeat (first|apply Kd.R_alloc|apply Kd.R_drewN|apply Kd.R_drew));exact HO4.out) hb);have n1_ := Aside0.mk (below_step (by repeat (first|(with_reducible first|exact HB.out|apply below_alloc|apply pw_below_drewN|apply below_drew1)|exact HB.out)) hb);have n2_ := Aside0.mk (hbox);have n3_ := Aside0.mk ((by rw [hg];exact (below_size (by repeat (first|(with_reducible first|exact HB.out|apply below_alloc|apply pw_below_drewN|apply below_drew1)|exact HB.out))) : w.heap.size ≤ gb7));have n4_ := Aside0.mk ((by rw [hg];exact (below_size (by repeat (first|(with_reducible first|exact HB.out|apply below_alloc|apply pw_below_drewN|apply below_drew1)|exact HB.out))) : w.heap.size ≤ gb7));clear HO4;clear HB;have HO4 := n0_;have HB := n1_;have BK7 := n2_;have GW7 := n3_;have GE7 := n4_;clear n0_ n1_ n2_ n3_ n4_;clear hb hbox hg;have hcz21_0 : w20.cell? ⟨gb7, 0, none⟩ = some (.int .i64 0) := (blk_cell BK7.out 0).trans rfl;have hcz21_1 : w20.cell? ⟨gb7, 1, none⟩ = some (.int .i64 0) := (blk_cell BK7.out 1).trans rfl;have hcz21_2 : w20.cell? ⟨gb7, 2, none⟩ = some (.int .i64 0) := (blk_cell BK7.out 2).trans rfl;have hfz21_0 := blk_frozen BK7.out 0;have hfz21_1 := blk_frozen BK7.out 1;have hfz21_2 := blk_frozen BK7.out 2)|(go_at_call 50;(with_reducible refine (r10_Find.calls k _ _ t2 ((rd_T31 t2 (ji14)).f0) t8 _ ?side1 ?side2 A17.out).mono ?_);(case side1 => refine (Kd.R_reads' (e := 31) (base := w.heap.size) (ok := fun k_ => True) (n := t2.length) (c := co19) ?_).2.2;exact (by (with_reducible repeat (first|apply Kd.R_alloc|apply Kd.R_drewN|apply Kd.R_drew));exact (Kd.R_mono (Kd.R_far (p := ⟨gb7, 2, none⟩) (Kd.R_far (p := ⟨gb7, 1, none⟩) (Kd.R_far (p := ⟨gb7, 0, none⟩) (Kd.R_types HO4.out BK7.out (by decide)) (fun _ hk => hk.2) (.int .i64 (wrap64 (a2)))) (fun _ hk => hk.2) (.int .i64 (wrap64 (a3)))) (fun _ hk => hk.2) (.int .i64 0)) (fun _ h_ => h_.1))));(case side2 => exact (Kd.R_reads' HO4.out).2.1);rintro e w' ⟨rfl, ⟨nd, rfl⟩⟩;(try first|exact ⟨rfl, _, World.drewN_drewN _ _ _⟩|exact ⟨rfl, _, Eq.trans (World.drewN_drewN _ _ _) (congrArg (World.drewN _) (Nat.add_assoc _ _ _))⟩))))
     go_loopg [12, 13] k (fun kq v12 v13 w' => ∃ (x12_1 : Bool) (x13_1 : Int), v12 = .bool x12_1 ∧ v13 = .int .i64 x13_1 ∧ Aside0 (law14_AdmitRoom.l0 kq t2 ((rd_T31 t2 (ji14)).f0) x12_1 x13_1 (wrap64 (a2)) (wrap64 (a3)) 0 = some r) ∧ Aside0 (kq ≤ k) ∧ Aside0 (Kd.R k31 31 w' w.heap.size (fun _ => True) (.slice (some ad6) t2.length co19) t2) ∧ Aside0 (w'.heap[gb7]? = some (.cells #[.int .i64 (wrap64 (a2)), .int .i64 (wrap64 (a3)), .int .i64 0] 27 (0, 0))) ∧ Aside0 (Below w.heap.size w w'))
     case atStart => exact ⟨(true), (t8), (by first|rfl|(simp;done)|(simp [*];done)), (by first|rfl|(simp;done)|(simp [*];done)), H', ⟨Nat.le_refl _⟩, ⟨by (with_reducible repeat (first|apply Kd.R_alloc|apply Kd.R_drewN|apply Kd.R_drew));exact Kd.R_mono (Kd.R_far (p := ⟨gb7, 2, none⟩) (Kd.R_far (p := ⟨gb7, 1, none⟩) (Kd.R_far (p := ⟨gb7, 0, none⟩) (Kd.R_types HO4.out BK7.out (by decide)) (fun _ hk => hk.2) (.int .i64 (wrap64 (a2)))) (fun _ hk => hk.2) (.int .i64 (wrap64 (a3)))) (fun _ hk => hk.2) (.int .i64 0)) (fun _ hk => trivial)⟩, ⟨by (with_reducible repeat (first|refine blk_drewN ?_ _|refine blk_drew ?_|refine blk_alloc ?_ _));refine blk_put (cs := #[.int .i64 (wrap64 (a2)), .int .i64 (wrap64 (a3)), .int .i64 0]) ?_ 2 _ rfl;(with_reducible repeat (first|refine blk_drewN ?_ _|refine blk_drew ?_|refine blk_alloc ?_ _));refine blk_put (cs := #[.int .i64 (wrap64 (a2)), .int .i64 0, .int .i64 0]) ?_ 1 _ rfl;(with_reducible repeat (first|refine blk_drewN ?_ _|refine blk_drew ?_|refine blk_alloc ?_ _));refine blk_put (cs := #[.int .i64 0, .int .i64 0, .int .i64 0]) ?_ 0 _ rfl;(with_reducible repeat (first|refine blk_drewN ?_ _|refine blk_drew ?_|refine blk_alloc ?_ _));exact BK7.out⟩, ⟨by repeat (first|(with_reducible first|exact HB.out|apply below_alloc|apply pw_below_drewN|apply below_drew1|refine below_set ?_ GE7.out)|exact HB.out)⟩⟩
     case round =>
      clear H'
      try clear c1
      try clear p2
      try clear c5
      try clear c5b0
      try clear c5b1
      try clear p6
      try clear q6
      try clear hx6
      try clear c9
      try clear c9b0
      try clear c9b1
      try clear c9b2
      try clear c15
      try clear c15b0
      try clear c16
      try clear c16b0
      try clear c18
      try clear hcz21_0
      try clear hcz21_1
      try clear hcz21_2
      try clear hfz21_0
      try clear hfz21_1
      try clear hfz21_2
      try clear hx6_0
      try clear hx6_1
      try clear hx6_10
      try clear hx6_11
      try clear hx6_2
      try clear hx6_3
      try clear hx6_4
      try clear hx6_5
      try clear hx6_6
      try clear hx6_7
      try clear hx6_8
      try clear hx6_9
      try clear p6
      try clear q6
      obtain ⟨x12_1, x13_1, rfl, rfl, HA, HK1, HO_9, BK7, HB⟩ := hrel
      cases gk with
      | zero => exact absurd HA.out (by simp [law14_AdmitRoom.l0])
      | succ k1 =>
       have H := HA.out
       clear HA
       simp only [law14_AdmitRoom.l0] at H
       by_cases c22 : x13_1 ≥ 0
       ·rw [if_pos c22] at H
        have c22b0 : decide (0 ≤ x13_1) = true := decide_eq_true c22
        clear c22
        by_cases c23 : x12_1 = true
        ·subst c23
         have H1 : (if 0 ≤ x13_1 then (if x13_1 < (t2.length : Int) then (if (wrap64 (((rd_T31 t2 x13_1).f4.f0) + (wrap64 (a2)))) ≤ ((rd_T31 t2 x13_1).f2.f0) then ((r10_Find.f k1 t2 ((rd_T31 t2 x13_1).f1)).bind fun t14 => (law14_AdmitRoom.l0 k1 t2 ((rd_T31 t2 (ji14)).f0) (decide ((wrap64 (((rd_T31 t2 x13_1).f4.f1) + (wrap64 (a3)))) ≤ ((rd_T31 t2 x13_1).f2.f1))) t14 (wrap64 (a2)) (wrap64 (a3)) 0)) else ((r10_Find.f k1 t2 ((rd_T31 t2 x13_1).f1)).bind fun t16 => (law14_AdmitRoom.l0 k1 t2 ((rd_T31 t2 (ji14)).f0) false t16 (wrap64 (a2)) (wrap64 (a3)) 0))) else (none)) else (none)) = some r := by rw [if_pos rfl] at H; exact H
         clear H
         have H := H1
         clear H1
         by_cases c24 : 0 ≤ x13_1
         ·rw [if_pos c24] at H
          have c24b0 : decide (0 ≤ x13_1) = true := decide_eq_true c24
          clear c24
          by_cases c25 : x13_1 < (t2.length : Int)
          ·rw [if_pos c25] at H
           have c25b0 : decide (x13_1 < (t2.length : Int)) = true := decide_eq_true c25
           clear c25
           by_cases c26 : (wrap64 (((rd_T31 t2 x13_1).f4.f0) + (wrap64 (a2)))) ≤ ((rd_T31 t2 x13_1).f2.f0)
           ·rw [if_pos c26] at H
            have c26b0 : decide ((wrap64 (((rd_T31 t2 x13_1).f4.f0) + (wrap64 (a2)))) ≤ ((rd_T31 t2 x13_1).f2.f0)) = true := decide_eq_true c26
            clear c26
            replace H := Option.bind_eq_some_iff.mp H
            obtain ⟨t14, A270, H⟩ := H
            replace H : (law14_AdmitRoom.l0 k1 t2 ((rd_T31 t2 (ji14)).f0) (decide ((wrap64 (((rd_T31 t2 x13_1).f4.f1) + (wrap64 (a3)))) ≤ ((rd_T31 t2 x13_1).f2.f1))) t14 (wrap64 (a2)) (wrap64 (a3)) 0) = some r := H
            have A27 := Aside0.mk A270
            clear A270
            have H' := Aside0.mk H
            clear H
            have p9 : 0 ≤ (x13_1 : Int) := of_decide_eq_true (by first|(with_reducible assumption)|assumption)
            have q9 : x13_1 < (t2.length : Int) := of_decide_eq_true (by first|(with_reducible assumption)|assumption)
            obtain ⟨ad9, e9, hx9_0, hx9_1, hx9_2, hx9_3, hx9_4, hx9_5, hx9_6, hx9_7, hx9_8, hx9_9, hx9_10, hx9_11⟩ := at_T31 (Kd.R_reads' HO_9.out).2.2 x13_1 p9 q9
            obtain rfl : ad6 = ad9 := (by injection e9)
            replace p9 := eq_true p9
            replace q9 := eq_true q9
            have hcz28_0 : wr.cell? ⟨gb7, 0, none⟩ = some (.int .i64 (wrap64 (a2))) := (blk_cell BK7.out 0).trans rfl
            have hcz28_1 : wr.cell? ⟨gb7, 1, none⟩ = some (.int .i64 (wrap64 (a3))) := (blk_cell BK7.out 1).trans rfl
            have hcz28_2 : wr.cell? ⟨gb7, 2, none⟩ = some (.int .i64 0) := (blk_cell BK7.out 2).trans rfl
            have hfz28_0 := blk_frozen BK7.out 0
            have hfz28_1 := blk_frozen BK7.out 1
            have hfz28_2 := blk_frozen BK7.out 2
            have p10 : 0 ≤ (x13_1 : Int) := of_decide_eq_true (by first|(with_reducible assumption)|assumption)
            have q10 : x13_1 < (t2.length : Int) := of_decide_eq_true (by first|(with_reducible assumption)|assumption)
            obtain ⟨ad10, e10, hx10_0, hx10_1, hx10_2, hx10_3, hx10_4, hx10_5, hx10_6, hx10_7, hx10_8, hx10_9, hx10_10, hx10_11⟩ := at_T31 (Kd.R_reads' HO_9.out).2.2 x13_1 p10 q10
            obtain rfl : ad6 = ad10 := (by injection e10)
            replace p10 := eq_true p10
            replace q10 := eq_true q10
            have p11 : 0 ≤ (x13_1 : Int) := of_decide_eq_true (by first|(with_reducible assumption)|assumption)
            have q11 : x13_1 < (t2.length : Int) := of_decide_eq_true (by first|(with_reducible assumption)|assumption)
            obtain ⟨ad11, e11, hx11_0, hx11_1, hx11_2, hx11_3, hx11_4, hx11_5, hx11_6, hx11_7, hx11_8, hx11_9, hx11_10, hx11_11⟩ := at_T31 (Kd.R_reads' HO_9.out).2.2 x13_1 p11 q11
            obtain rfl : ad6 = ad11 := (by injection e11)
            replace p11 := eq_true p11
            replace q11 := eq_true q11
            have p12 : 0 ≤ (x13_1 : Int) := of_decide_eq_true (by first|(with_reducible assumption)|assumption)
            have q12 : x13_1 < (t2.length : Int) := of_decide_eq_true (by first|(with_reducible assumption)|assumption)
            obtain ⟨ad12, e12, hx12_0, hx12_1, hx12_2, hx12_3, hx12_4, hx12_5, hx12_6, hx12_7, hx12_8, hx12_9, hx12_10, hx12_11⟩ := at_T31 (Kd.R_reads' HO_9.out).2.2 x13_1 p12 q12
            obtain rfl : ad6 = ad12 := (by injection e12)
            replace p12 := eq_true p12
            replace q12 := eq_true q12
            have p13 : 0 ≤ (x13_1 : Int) := of_decide_eq_true (by first|(with_reducible assumption)|assumption)
            have q13 : x13_1 < (t2.length : Int) := of_decide_eq_true (by first|(with_reducible assumption)|assumption)
            obtain ⟨ad13, e13, hx13_0, hx13_1, hx13_2, hx13_3, hx13_4, hx13_5, hx13_6, hx13_7, hx13_8, hx13_9, hx13_10, hx13_11⟩ := at_T31 (Kd.R_reads' HO_9.out).2.2 x13_1 p13 q13
            obtain rfl : ad6 = ad13 := (by injection e13)
            replace p13 := eq_true p13
            replace q13 := eq_true q13
            go_wp2_with (first|(go_at_call 50;(with_reducible refine (r10_Find.calls k1 _ _ t2 ((rd_T31 t2 x13_1).f1) t14 _ ?side1 ?side2 A27.out).mono ?_);(case side1 => repeat (first|exact (Kd.R_reads' HO_9.out).2.2|(with_reducible refine Kd.C_alloc ?_ _)|(with_reducible refine Kd.C_drewN ?_ _)|(with_reducible refine Kd.C_drew ?_)));(case side2 => exact (Kd.R_reads' HO_9.out).2.1);rintro e w' ⟨rfl, ⟨nd, rfl⟩⟩;(try first|exact ⟨rfl, _, World.drewN_drewN _ _ _⟩|exact ⟨rfl, _, Eq.trans (World.drewN_drewN _ _ _) (congrArg (World.drewN _) (Nat.add_assoc _ _ _))⟩)))
            repeat (go_quiet (first|(go_at_call 50;(with_reducible refine (r10_Find.calls k1 _ _ t2 ((rd_T31 t2 x13_1).f1) t14 _ ?side1 ?side2 A27.out).mono ?_);(case side1 => repeat (first|exact (Kd.R_reads' HO_9.out).2.2|(with_reducible refine Kd.C_alloc ?_ _)|(with_reducible refine Kd.C_drewN ?_ _)|(with_reducible refine Kd.C_drew ?_)));(case side2 => exact (Kd.R_reads' HO_9.out).2.1);rintro e w' ⟨rfl, ⟨nd, rfl⟩⟩;(try first|exact ⟨rfl, _, World.drewN_drewN _ _ _⟩|exact ⟨rfl, _, Eq.trans (World.drewN_drewN _ _ _) (congrArg (World.drewN _) (Nat.add_assoc _ _ _))⟩)));try go_wp2_with (first|(go_at_call 50;(with_reducible refine (r10_Find.calls k1 _ _ t2 ((rd_T31 t2 x13_1).f1) t14 _ ?side1 ?side2 A27.out).mono ?_);(case side1 => repeat (first|exact (Kd.R_reads' HO_9.out).2.2|(with_reducible refine Kd.C_alloc ?_ _)|(with_reducible refine Kd.C_drewN ?_ _)|(with_reducible refine Kd.C_drew ?_)));(case side2 => exact (Kd.R_reads' HO_9.out).2.1);rintro e w' ⟨rfl, ⟨nd, rfl⟩⟩;(try first|exact ⟨rfl, _, World.drewN_drewN _ _ _⟩|exact ⟨rfl, _, Eq.trans (World.drewN_drewN _ _ _) (congrArg (World.drewN _) (Nat.add_assoc _ _ _))⟩))))
            go_roundg k1
            case measure => have := HK1.out; omega
            case rel => exact ⟨(decide ((wrap64 (((rd_T31 t2 x13_1).f4.f1) + (wrap64 (a3)))) ≤ ((rd_T31 t2 x13_1).f2.f1))), (t14), (by first|rfl|(simp;done)|(simp [*];done)), (by first|rfl|(simp;done)|(simp [*];done)), H', ⟨by have := HK1.out;omega⟩, ⟨by (with_reducible repeat (first|apply Kd.R_alloc|apply Kd.R_drewN|apply Kd.R_drew));exact HO_9.out⟩, ⟨by (with_reducible repeat (first|refine blk_drewN ?_ _|refine blk_drew ?_|refine blk_alloc ?_ _));exact BK7.out⟩, ⟨by repeat (first|(with_reducible first|exact HB.out|apply below_alloc|apply pw_below_drewN|apply below_drew1|refine below_set ?_ GE7.out)|exact HB.out)⟩⟩
           ·rw [if_neg c26] at H
            have c26b0 : decide ((wrap64 (((rd_T31 t2 x13_1).f4.f0) + (wrap64 (a2)))) ≤ ((rd_T31 t2 x13_1).f2.f0)) = false := decide_eq_false c26
            clear c26
            replace H := Option.bind_eq_some_iff.mp H
            obtain ⟨t16, A290, H⟩ := H
            replace H : (law14_AdmitRoom.l0 k1 t2 ((rd_T31 t2 (ji14)).f0) false t16 (wrap64 (a2)) (wrap64 (a3)) 0) = some r := H
            have A29 := Aside0.mk A290
            clear A290
            have H' := Aside0.mk H
            clear H
            have p9 : 0 ≤ (x13_1 : Int) := of_decide_eq_true (by first|(with_reducible assumption)|assumption)
            have q9 : x13_1 < (t2.length : Int) := of_decide_eq_true (by first|(with_reducible assumption)|assumption)
            obtain ⟨ad9, e9, hx9_0, hx9_1, hx9_2, hx9_3, hx9_4, hx9_5, hx9_6, hx9_7, hx9_8, hx9_9, hx9_10, hx9_11⟩ := at_T31 (Kd.R_reads' HO_9.out).2.2 x13_1 p9 q9
            obtain rfl : ad6 = ad9 := (by injection e9)
            replace p9 := eq_true p9
            replace q9 := eq_true q9
            have hcz30_0 : wr.cell? ⟨gb7, 0, none⟩ = some (.int .i64 (wrap64 (a2))) := (blk_cell BK7.out 0).trans rfl
            have hcz30_1 : wr.cell? ⟨gb7, 1, none⟩ = some (.int .i64 (wrap64 (a3))) := (blk_cell BK7.out 1).trans rfl
            have hcz30_2 : wr.cell? ⟨gb7, 2, none⟩ = some (.int .i64 0) := (blk_cell BK7.out 2).trans rfl
            have hfz30_0 := blk_frozen BK7.out 0
            have hfz30_1 := blk_frozen BK7.out 1
            have hfz30_2 := blk_frozen BK7.out 2
            have p10 : 0 ≤ (x13_1 : Int) := of_decide_eq_true (by first|(with_reducible assumption)|assumption)
            have q10 : x13_1 < (t2.length : Int) := of_decide_eq_true (by first|(with_reducible assumption)|assumption)
            obtain ⟨ad10, e10, hx10_0, hx10_1, hx10_2, hx10_3, hx10_4, hx10_5, hx10_6, hx10_7, hx10_8, hx10_9, hx10_10, hx10_11⟩ := at_T31 (Kd.R_reads' HO_9.out).2.2 x13_1 p10 q10
            obtain rfl : ad6 = ad10 := (by injection e10)
            replace p10 := eq_true p10
            replace q10 := eq_true q10
            have p15 : 0 ≤ (x13_1 : Int) := of_decide_eq_true (by first|(with_reducible assumption)|assumption)
            have q15 : x13_1 < (t2.length : Int) := of_decide_eq_true (by first|(with_reducible assumption)|assumption)
            obtain ⟨ad15, e15, hx15_0, hx15_1, hx15_2, hx15_3, hx15_4, hx15_5, hx15_6, hx15_7, hx15_8, hx15_9, hx15_10, hx15_11⟩ := at_T31 (Kd.R_reads' HO_9.out).2.2 x13_1 p15 q15
            obtain rfl : ad6 = ad15 := (by injection e15)
            replace p15 := eq_true p15
            replace q15 := eq_true q15
            go_wp2_with (first|(go_at_call 50;(with_reducible refine (r10_Find.calls k1 _ _ t2 ((rd_T31 t2 x13_1).f1) t16 _ ?side1 ?side2 A29.out).mono ?_);(case side1 => repeat (first|exact (Kd.R_reads' HO_9.out).2.2|(with_reducible refine Kd.C_alloc ?_ _)|(with_reducible refine Kd.C_drewN ?_ _)|(with_reducible refine Kd.C_drew ?_)));(case side2 => exact (Kd.R_reads' HO_9.out).2.1);rintro e w' ⟨rfl, ⟨nd, rfl⟩⟩;(try first|exact ⟨rfl, _, World.drewN_drewN _ _ _⟩|exact ⟨rfl, _, Eq.trans (World.drewN_drewN _ _ _) (congrArg (World.drewN _) (Nat.add_assoc _ _ _))⟩)))
            repeat (go_quiet (first|(go_at_call 50;(with_reducible refine (r10_Find.calls k1 _ _ t2 ((rd_T31 t2 x13_1).f1) t16 _ ?side1 ?side2 A29.out).mono ?_);(case side1 => repeat (first|exact (Kd.R_reads' HO_9.out).2.2|(with_reducible refine Kd.C_alloc ?_ _)|(with_reducible refine Kd.C_drewN ?_ _)|(with_reducible refine Kd.C_drew ?_)));(case side2 => exact (Kd.R_reads' HO_9.out).2.1);rintro e w' ⟨rfl, ⟨nd, rfl⟩⟩;(try first|exact ⟨rfl, _, World.drewN_drewN _ _ _⟩|exact ⟨rfl, _, Eq.trans (World.drewN_drewN _ _ _) (congrArg (World.drewN _) (Nat.add_assoc _ _ _))⟩)));try go_wp2_with (first|(go_at_call 50;(with_reducible refine (r10_Find.calls k1 _ _ t2 ((rd_T31 t2 x13_1).f1) t16 _ ?side1 ?side2 A29.out).mono ?_);(case side1 => repeat (first|exact (Kd.R_reads' HO_9.out).2.2|(with_reducible refine Kd.C_alloc ?_ _)|(with_reducible refine Kd.C_drewN ?_ _)|(with_reducible refine Kd.C_drew ?_)));(case side2 => exact (Kd.R_reads' HO_9.out).2.1);rintro e w' ⟨rfl, ⟨nd, rfl⟩⟩;(try first|exact ⟨rfl, _, World.drewN_drewN _ _ _⟩|exact ⟨rfl, _, Eq.trans (World.drewN_drewN _ _ _) (congrArg (World.drewN _) (Nat.add_assoc _ _ _))⟩))))
            go_roundg k1
            case measure => have := HK1.out; omega
            case rel => exact ⟨(false), (t16), (by first|rfl|(simp;done)|(simp [*];done)), (by first|rfl|(simp;done)|(simp [*];done)), H', ⟨by have := HK1.out;omega⟩, ⟨by (with_reducible repeat (first|apply Kd.R_alloc|apply Kd.R_drewN|apply Kd.R_drew));exact HO_9.out⟩, ⟨by (with_reducible repeat (first|refine blk_drewN ?_ _|refine blk_drew ?_|refine blk_alloc ?_ _));exact BK7.out⟩, ⟨by repeat (first|(with_reducible first|exact HB.out|apply below_alloc|apply pw_below_drewN|apply below_drew1|refine below_set ?_ GE7.out)|exact HB.out)⟩⟩
          ·rw [if_neg c25] at H
           exact absurd H (by simp)
         ·rw [if_neg c24] at H
          exact absurd H (by simp)
        ·replace c23 := Bool.eq_false_iff.mpr c23
         subst c23
         have H1 : (if 0 ≤ x13_1 then (if x13_1 < (t2.length : Int) then ((r10_Find.f k1 t2 ((rd_T31 t2 x13_1).f1)).bind fun t18 => (law14_AdmitRoom.l0 k1 t2 ((rd_T31 t2 (ji14)).f0) false t18 (wrap64 (a2)) (wrap64 (a3)) 0)) else (none)) else (none)) = some r := by rw [if_neg (show ¬ (false = true) by decide)] at H; exact H
         clear H
         have H := H1
         clear H1
         by_cases c31 : 0 ≤ x13_1
         ·rw [if_pos c31] at H
          have c31b0 : decide (0 ≤ x13_1) = true := decide_eq_true c31
          clear c31
          by_cases c32 : x13_1 < (t2.length : Int)
          ·rw [if_pos c32] at H
           have c32b0 : decide (x13_1 < (t2.length : Int)) = true := decide_eq_true c32
           clear c32
           replace H := Option.bind_eq_some_iff.mp H
           obtain ⟨t18, A330, H⟩ := H
           replace H : (law14_AdmitRoom.l0 k1 t2 ((rd_T31 t2 (ji14)).f0) false t18 (wrap64 (a2)) (wrap64 (a3)) 0) = some r := H
           have A33 := Aside0.mk A330
           clear A330
           have H' := Aside0.mk H
           clear H
           have p17 : 0 ≤ (x13_1 : Int) := of_decide_eq_true (by first|(with_reducible assumption)|assumption)
           have q17 : x13_1 < (t2.length : Int) := of_decide_eq_true (by first|(with_reducible assumption)|assumption)
           obtain ⟨ad17, e17, hx17_0, hx17_1, hx17_2, hx17_3, hx17_4, hx17_5, hx17_6, hx17_7, hx17_8, hx17_9, hx17_10, hx17_11⟩ := at_T31 (Kd.R_reads' HO_9.out).2.2 x13_1 p17 q17
           obtain rfl : ad6 = ad17 := (by injection e17)
           replace p17 := eq_true p17
           replace q17 := eq_true q17
           go_wp2_with (first|(go_at_call 50;(with_reducible refine (r10_Find.calls k1 _ _ t2 ((rd_T31 t2 x13_1).f1) t18 _ ?side1 ?side2 A33.out).mono ?_);(case side1 => repeat (first|exact (Kd.R_reads' HO_9.out).2.2|(with_reducible refine Kd.C_alloc ?_ _)|(with_reducible refine Kd.C_drewN ?_ _)|(with_reducible refine Kd.C_drew ?_)));(case side2 => exact (Kd.R_reads' HO_9.out).2.1);rintro e w' ⟨rfl, ⟨nd, rfl⟩⟩;(try first|exact ⟨rfl, _, World.drewN_drewN _ _ _⟩|exact ⟨rfl, _, Eq.trans (World.drewN_drewN _ _ _) (congrArg (World.drewN _) (Nat.add_assoc _ _ _))⟩)))
           repeat (go_quiet (first|(go_at_call 50;(with_reducible refine (r10_Find.calls k1 _ _ t2 ((rd_T31 t2 x13_1).f1) t18 _ ?side1 ?side2 A33.out).mono ?_);(case side1 => repeat (first|exact (Kd.R_reads' HO_9.out).2.2|(with_reducible refine Kd.C_alloc ?_ _)|(with_reducible refine Kd.C_drewN ?_ _)|(with_reducible refine Kd.C_drew ?_)));(case side2 => exact (Kd.R_reads' HO_9.out).2.1);rintro e w' ⟨rfl, ⟨nd, rfl⟩⟩;(try first|exact ⟨rfl, _, World.drewN_drewN _ _ _⟩|exact ⟨rfl, _, Eq.trans (World.drewN_drewN _ _ _) (congrArg (World.drewN _) (Nat.add_assoc _ _ _))⟩)));try go_wp2_with (first|(go_at_call 50;(with_reducible refine (r10_Find.calls k1 _ _ t2 ((rd_T31 t2 x13_1).f1) t18 _ ?side1 ?side2 A33.out).mono ?_);(case side1 => repeat (first|exact (Kd.R_reads' HO_9.out).2.2|(with_reducible refine Kd.C_alloc ?_ _)|(with_reducible refine Kd.C_drewN ?_ _)|(with_reducible refine Kd.C_drew ?_)));(case side2 => exact (Kd.R_reads' HO_9.out).2.1);rintro e w' ⟨rfl, ⟨nd, rfl⟩⟩;(try first|exact ⟨rfl, _, World.drewN_drewN _ _ _⟩|exact ⟨rfl, _, Eq.trans (World.drewN_drewN _ _ _) (congrArg (World.drewN _) (Nat.add_assoc _ _ _))⟩))))
           go_roundg k1
           case measure => have := HK1.out; omega
           case rel => exact ⟨(false), (t18), (by first|rfl|(simp;done)|(simp [*];done)), (by first|rfl|(simp;done)|(simp [*];done)), H', ⟨by have := HK1.out;omega⟩, ⟨by (with_reducible repeat (first|apply Kd.R_alloc|apply Kd.R_drewN|apply Kd.R_drew));exact HO_9.out⟩, ⟨by (with_reducible repeat (first|refine blk_drewN ?_ _|refine blk_drew ?_|refine blk_alloc ?_ _));exact BK7.out⟩, ⟨by repeat (first|(with_reducible first|exact HB.out|apply below_alloc|apply pw_below_drewN|apply below_drew1|refine below_set ?_ GE7.out)|exact HB.out)⟩⟩
          ·rw [if_neg c32] at H
           exact absurd H (by simp)
         ·rw [if_neg c31] at H
          exact absurd H (by simp)
       ·rw [if_neg c22] at H
        have c22b0 : decide (0 ≤ x13_1) = false := decide_eq_false c22
        clear c22
        replace H := Option.bind_eq_some_iff.mp H
        obtain ⟨⟨t19, t22⟩, A340, H⟩ := H
        replace H : (if x12_1 = true then ((law1_Num.f t22).bind fun t25 => (if t25 = 0 then ((r10_Right.f k1 t19).bind fun t26 => (law14_AdmitRoom.j1 k1 t2 ((rd_T31 t2 (ji14)).f0) t19 (!t26) (wrap64 (a2)) (wrap64 (a3)) 0)) else (law14_AdmitRoom.j1 k1 t2 ((rd_T31 t2 (ji14)).f0) t19 true (wrap64 (a2)) (wrap64 (a3)) 0))) else ((law1_Num.f t22).bind fun t23 => (if t23 = 12 then (if (t19.length : Int) = 0 then ((law14_awake.f k1).bind fun t24 => (some t24)) else (some false)) else (some false)))) = some r := H
        have A34 := Aside0.mk A340
        clear A340
        by_cases c35 : x12_1 = true
        ·subst c35
         have H1 : ((law1_Num.f t22).bind fun t25 => (if t25 = 0 then ((r10_Right.f k1 t19).bind fun t26 => (law14_AdmitRoom.j1 k1 t2 ((rd_T31 t2 (ji14)).f0) t19 (!t26) (wrap64 (a2)) (wrap64 (a3)) 0)) else (law14_AdmitRoom.j1 k1 t2 ((rd_T31 t2 (ji14)).f0) t19 true (wrap64 (a2)) (wrap64 (a3)) 0))) = some r := by rw [if_pos rfl] at H; exact H
         clear H
         have H := H1
         clear H1
         have HC36 := Aside0.mk H
         clear H
         have hcz37_0 : wr.cell? ⟨gb7, 0, none⟩ = some (.int .i64 (wrap64 (a2))) := (blk_cell BK7.out 0).trans rfl
         have hcz37_1 : wr.cell? ⟨gb7, 1, none⟩ = some (.int .i64 (wrap64 (a3))) := (blk_cell BK7.out 1).trans rfl
         have hcz37_2 : wr.cell? ⟨gb7, 2, none⟩ = some (.int .i64 0) := (blk_cell BK7.out 2).trans rfl
         have hfz37_0 := blk_frozen BK7.out 0
         have hfz37_1 := blk_frozen BK7.out 1
         have hfz37_2 := blk_frozen BK7.out 2
         go_upto_region 16 with (first|(go_at_call 60;(with_reducible refine (admit_Admit.calls k1 _ _ t2 ((rd_T31 t2 (ji14)).f0) (wrap64 (a2)) (wrap64 (a3)) 0 t19 t22 _ ?side1 ?side2 A34.out).mono ?_);(case side1 => repeat (first|exact (Kd.R_reads' HO_9.out).2.2|(with_reducible refine Kd.C_alloc ?_ _)|(with_reducible refine Kd.C_drewN ?_ _)|(with_reducible refine Kd.C_drew ?_)));(case side2 => exact (Kd.R_reads' HO_9.out).2.1);rintro e w38 ⟨v20, rfl, ho0, hb⟩;have n0_ := Aside0.mk (Kd.R_elder' (by (with_reducible repeat (first|apply Kd.R_alloc|apply Kd.R_drewN|apply Kd.R_drew));exact HO_9.out) (Kd.R_base ho0) hb);have n1_ := Aside0.mk (Kd.R_lower (Kd.R_new' ho0 (Kd.R_lt (by (with_reducible repeat (first|apply Kd.R_alloc|apply Kd.R_drewN|apply Kd.R_drew));exact HO_9.out))) (below_size (by repeat (first|(with_reducible first|exact HB.out|apply below_alloc|apply pw_below_drewN|apply below_drew1|refine below_set ?_ GE7.out)|exact HB.out))));have n2_ := Aside0.mk (blk_below (g := gb7) (o := .cells #[.int .i64 (wrap64 (a2)), .int .i64 (wrap64 (a3)), .int .i64 0] 27 (0, 0)) (by (with_reducible repeat (first|refine blk_drewN ?_ _|refine blk_drew ?_|refine blk_alloc ?_ _));exact BK7.out) hb);have n3_ := Aside0.mk (below_step (by repeat (first|(with_reducible first|exact HB.out|apply below_alloc|apply pw_below_drewN|apply below_drew1|refine below_set ?_ GE7.out)|exact HB.out)) hb);clear HO_9;clear BK7;clear HB;have HO_9 := n0_;have HO21 := n1_;have BK7 := n2_;have HB := n3_;clear n0_ n1_ n2_ n3_;(try clear hb);(try clear hb2);(try clear hk);(try clear hi);(try clear ho0)))
         repeat (go_quiet (first|(go_at_call 60;(with_reducible refine (admit_Admit.calls k1 _ _ t2 ((rd_T31 t2 (ji14)).f0) (wrap64 (a2)) (wrap64 (a3)) 0 t19 t22 _ ?side1 ?side2 A34.out).mono ?_);(case side1 => repeat (first|exact (Kd.R_reads' HO_9.out).2.2|(with_reducible refine Kd.C_alloc ?_ _)|(with_reducible refine Kd.C_drewN ?_ _)|(with_reducible refine Kd.C_drew ?_)));(case side2 => exact (Kd.R_reads' HO_9.out).2.1);rintro e w38 ⟨v20, rfl, ho0, hb⟩;have n0_ := Aside0.mk (Kd.R_elder' (by (with_reducible repeat (first|apply Kd.R_alloc|apply Kd.R_drewN|apply Kd.R_drew));exact HO_9.out) (Kd.R_base ho0) hb);have n1_ := Aside0.mk (Kd.R_lower (Kd.R_new' ho0 (Kd.R_lt (by (with_reducible repeat (first|apply Kd.R_alloc|apply Kd.R_drewN|apply Kd.R_drew));exact HO_9.out))) (below_size (by repeat (first|(with_reducible first|exact HB.out|apply below_alloc|apply pw_below_drewN|apply below_drew1|refine below_set ?_ GE7.out)|exact HB.out))));have n2_ := Aside0.mk (blk_below (g := gb7) (o := .cells #[.int .i64 (wrap64 (a2)), .int .i64 (wrap64 (a3)), .int .i64 0] 27 (0, 0)) (by (with_reducible repeat (first|refine blk_drewN ?_ _|refine blk_drew ?_|refine blk_alloc ?_ _));exact BK7.out) hb);have n3_ := Aside0.mk (below_step (by repeat (first|(with_reducible first|exact HB.out|apply below_alloc|apply pw_below_drewN|apply below_drew1|refine below_set ?_ GE7.out)|exact HB.out)) hb);clear HO_9;clear BK7;clear HB;have HO_9 := n0_;have HO21 := n1_;have BK7 := n2_;have HB := n3_;clear n0_ n1_ n2_ n3_;(try clear hb);(try clear hb2);(try clear hk);(try clear hi);(try clear ho0)));go_upto_region 16 with (first|(go_at_call 60;(with_reducible refine (admit_Admit.calls k1 _ _ t2 ((rd_T31 t2 (ji14)).f0) (wrap64 (a2)) (wrap64 (a3)) 0 t19 t22 _ ?side1 ?side2 A34.out).mono ?_);(case side1 => repeat (first|exact (Kd.R_reads' HO_9.out).2.2|(with_reducible refine Kd.C_alloc ?_ _)|(with_reducible refine Kd.C_drewN ?_ _)|(with_reducible refine Kd.C_drew ?_)));(case side2 => exact (Kd.R_reads' HO_9.out).2.1);rintro e w38 ⟨v20, rfl, ho0, hb⟩;have n0_ := Aside0.mk (Kd.R_elder' (by (with_reducible repeat (first|apply Kd.R_alloc|apply Kd.R_drewN|apply Kd.R_drew));exact HO_9.out) (Kd.R_base ho0) hb);have n1_ := Aside0.mk (Kd.R_lower (Kd.R_new' ho0 (Kd.R_lt (by (with_reducible repeat (first|apply Kd.R_alloc|apply Kd.R_drewN|apply Kd.R_drew));exact HO_9.out))) (below_size (by repeat (first|(with_reducible first|exact HB.out|apply below_alloc|apply pw_below_drewN|apply below_drew1|refine below_set ?_ GE7.out)|exact HB.out))));have n2_ := Aside0.mk (blk_below (g := gb7) (o := .cells #[.int .i64 (wrap64 (a2)), .int .i64 (wrap64 (a3)), .int .i64 0] 27 (0, 0)) (by (with_reducible repeat (first|refine blk_drewN ?_ _|refine blk_drew ?_|refine blk_alloc ?_ _));exact BK7.out) hb);have n3_ := Aside0.mk (below_step (by repeat (first|(with_reducible first|exact HB.out|apply below_alloc|apply pw_below_drewN|apply below_drew1|refine below_set ?_ GE7.out)|exact HB.out)) hb);clear HO_9;clear BK7;clear HB;have HO_9 := n0_;have HO21 := n1_;have BK7 := n2_;have HB := n3_;clear n0_ n1_ n2_ n3_;(try clear hb);(try clear hb2);(try clear hk);(try clear hi);(try clear ho0))))
         (try simp only [Act.put, List.setIfInBounds_toArray, List.set_cons_zero, List.set_cons_succ])
         go_cut [121] (fun v121 wc => ∃ (kq : Nat) (x121_35 : Bool), v121 = .bool x121_35 ∧ Aside0 (law14_AdmitRoom.j1 kq t2 ((rd_T31 t2 (ji14)).f0) t19 x121_35 (wrap64 (a2)) (wrap64 (a3)) 0 = some r) ∧ Aside0 (kq ≤ k1) ∧ Aside0 (Kd.R k31 31 wc w.heap.size (fun k_ => some k_ ≠ (v20 : Value).ownBlock) (.slice (some ad6) t2.length co19) t2) ∧ Aside0 (Kd.R k31 31 wc w.heap.size (fun k_ => some k_ ≠ ((.slice (some ad6) t2.length co19) : Value).ownBlock) v20 t19) ∧ Aside0 (wc.heap[gb7]? = some (.cells #[.int .i64 (wrap64 (a2)), .int .i64 (wrap64 (a3)), .int .i64 0] 27 (0, 0))) ∧ Aside0 (Below w.heap.size w wc))
         case first =>
          have H := HC36.out
          clear HC36
          replace H := Option.bind_eq_some_iff.mp H
          obtain ⟨t25, A390, H⟩ := H
          replace H : (if t25 = 0 then ((r10_Right.f k1 t19).bind fun t26 => (law14_AdmitRoom.j1 k1 t2 ((rd_T31 t2 (ji14)).f0) t19 (!t26) (wrap64 (a2)) (wrap64 (a3)) 0)) else (law14_AdmitRoom.j1 k1 t2 ((rd_T31 t2 (ji14)).f0) t19 true (wrap64 (a2)) (wrap64 (a3)) 0)) = some r := H
          have A39 := Aside0.mk A390
          clear A390
          by_cases c40 : t25 = 0
          ·rw [if_pos c40] at H
           have c40b0 : (t25 == 0) = true := beq_iff_eq.mpr c40
           have c40b1 : (t25 != 0) = false := bne_eq_false_iff_eq.mpr c40
           clear c40
           (first | rw [c40b0] | (simp only [i64_w, i32_w]; rw [c40b0]) | skip)
           replace H := Option.bind_eq_some_iff.mp H
           obtain ⟨t26, A410, H⟩ := H
           replace H : (law14_AdmitRoom.j1 k1 t2 ((rd_T31 t2 (ji14)).f0) t19 (!t26) (wrap64 (a2)) (wrap64 (a3)) 0) = some r := H
           have A41 := Aside0.mk A410
           clear A410
           have H' := Aside0.mk H
           clear H
           go_wp2_with (first|(go_at_call 61;(with_reducible refine (law1_Num.calls t22 t25 _ A39.out).mono ?_);rintro e w' ⟨rfl, ⟨nd, rfl⟩⟩;(try first|exact ⟨rfl, _, World.drewN_drewN _ _ _⟩|exact ⟨rfl, _, Eq.trans (World.drewN_drewN _ _ _) (congrArg (World.drewN _) (Nat.add_assoc _ _ _))⟩);obtain ⟨Ao42, co42, eo42⟩ := Kd.R_slice HO21.out;subst eo42)|(go_at_call 41;(with_reducible refine (r10_Right.calls k1 _ _ t19 t26 _ ?side1 ?side2 A41.out).mono ?_);(case side1 => repeat (first|exact (Kd.R_reads' HO21.out).2.2|(with_reducible refine Kd.C_alloc ?_ _)|(with_reducible refine Kd.C_drewN ?_ _)|(with_reducible refine Kd.C_drew ?_)));(case side2 => exact (Kd.R_reads' HO21.out).2.1);rintro e w43 ⟨rfl, hb⟩;have n0_ := Aside0.mk (Kd.R_below (by (with_reducible repeat (first|apply Kd.R_alloc|apply Kd.R_drewN|apply Kd.R_drew));exact HO_9.out) hb);have n1_ := Aside0.mk (Kd.R_below (by (with_reducible repeat (first|apply Kd.R_alloc|apply Kd.R_drewN|apply Kd.R_drew));exact HO21.out) hb);have n2_ := Aside0.mk (blk_below (g := gb7) (o := .cells #[.int .i64 (wrap64 (a2)), .int .i64 (wrap64 (a3)), .int .i64 0] 27 (0, 0)) (by (with_reducible repeat (first|refine blk_drewN ?_ _|refine blk_drew ?_|refine blk_alloc ?_ _));exact BK7.out) hb);have n3_ := Aside0.mk (below_step (by repeat (first|(with_reducible first|exact HB.out|apply below_alloc|apply pw_below_drewN|apply below_drew1|refine below_set ?_ GE7.out)|exact HB.out)) hb);clear HO_9;clear HO21;clear BK7;clear HB;have HO_9 := n0_;have HO21 := n1_;have BK7 := n2_;have HB := n3_;clear n0_ n1_ n2_ n3_;(try clear hb);(try clear hb2);(try clear hk);(try clear hi)))
           repeat (go_quiet (first|(go_at_call 61;(with_reducible refine (law1_Num.calls t22 t25 _ A39.out).mono ?_);rintro e w' ⟨rfl, ⟨nd, rfl⟩⟩;(try first|exact ⟨rfl, _, World.drewN_drewN _ _ _⟩|exact ⟨rfl, _, Eq.trans (World.drewN_drewN _ _ _) (congrArg (World.drewN _) (Nat.add_assoc _ _ _))⟩);obtain ⟨Ao42, co42, eo42⟩ := Kd.R_slice HO21.out;subst eo42)|(go_at_call 41;(with_reducible refine (r10_Right.calls k1 _ _ t19 t26 _ ?side1 ?side2 A41.out).mono ?_);(case side1 => repeat (first|exact (Kd.R_reads' HO21.out).2.2|(with_reducible refine Kd.C_alloc ?_ _)|(with_reducible refine Kd.C_drewN ?_ _)|(with_reducible refine Kd.C_drew ?_)));(case side2 => exact (Kd.R_reads' HO21.out).2.1);rintro e w43 ⟨rfl, hb⟩;have n0_ := Aside0.mk (Kd.R_below (by (with_reducible repeat (first|apply Kd.R_alloc|apply Kd.R_drewN|apply Kd.R_drew));exact HO_9.out) hb);have n1_ := Aside0.mk (Kd.R_below (by (with_reducible repeat (first|apply Kd.R_alloc|apply Kd.R_drewN|apply Kd.R_drew));exact HO21.out) hb);have n2_ := Aside0.mk (blk_below (g := gb7) (o := .cells #[.int .i64 (wrap64 (a2)), .int .i64 (wrap64 (a3)), .int .i64 0] 27 (0, 0)) (by (with_reducible repeat (first|refine blk_drewN ?_ _|refine blk_drew ?_|refine blk_alloc ?_ _));exact BK7.out) hb);have n3_ := Aside0.mk (below_step (by repeat (first|(with_reducible first|exact HB.out|apply below_alloc|apply pw_below_drewN|apply below_drew1|refine below_set ?_ GE7.out)|exact HB.out)) hb);clear HO_9;clear HO21;clear BK7;clear HB;have HO_9 := n0_;have HO21 := n1_;have BK7 := n2_;have HB := n3_;clear n0_ n1_ n2_ n3_;(try clear hb);(try clear hb2);(try clear hk);(try clear hi)));try go_wp2_with (first|(go_at_call 61;(with_reducible refine (law1_Num.calls t22 t25 _ A39.out).mono ?_);rintro e w' ⟨rfl, ⟨nd, rfl⟩⟩;(try first|exact ⟨rfl, _, World.drewN_drewN _ _ _⟩|exact ⟨rfl, _, Eq.trans (World.drewN_drewN _ _ _) (congrArg (World.drewN _) (Nat.add_assoc _ _ _))⟩);obtain ⟨Ao42, co42, eo42⟩ := Kd.R_slice HO21.out;subst eo42)|(go_at_call 41;(with_reducible refine (r10_Right.calls k1 _ _ t19 t26 _ ?side1 ?side2 A41.out).mono ?_);(case side1 => repeat (first|exact (Kd.R_reads' HO21.out).2.2|(with_reducible refine Kd.C_alloc ?_ _)|(with_reducible refine Kd.C_drewN ?_ _)|(with_reducible refine Kd.C_drew ?_)));(case side2 => exact (Kd.R_reads' HO21.out).2.1);rintro e w43 ⟨rfl, hb⟩;have n0_ := Aside0.mk (Kd.R_below (by (with_reducible repeat (first|apply Kd.R_alloc|apply Kd.R_drewN|apply Kd.R_drew));exact HO_9.out) hb);have n1_ := Aside0.mk (Kd.R_below (by (with_reducible repeat (first|apply Kd.R_alloc|apply Kd.R_drewN|apply Kd.R_drew));exact HO21.out) hb);have n2_ := Aside0.mk (blk_below (g := gb7) (o := .cells #[.int .i64 (wrap64 (a2)), .int .i64 (wrap64 (a3)), .int .i64 0] 27 (0, 0)) (by (with_reducible repeat (first|refine blk_drewN ?_ _|refine blk_drew ?_|refine blk_alloc ?_ _));exact BK7.out) hb);have n3_ := Aside0.mk (below_step (by repeat (first|(with_reducible first|exact HB.out|apply below_alloc|apply pw_below_drewN|apply below_drew1|refine below_set ?_ GE7.out)|exact HB.out)) hb);clear HO_9;clear HO21;clear BK7;clear HB;have HO_9 := n0_;have HO21 := n1_;have BK7 := n2_;have HB := n3_;clear n0_ n1_ n2_ n3_;(try clear hb);(try clear hb2);(try clear hk);(try clear hi))))
           go_meet
           case rel => exact ⟨_, (!t26), (by first|rfl|(simp;done)|(simp [*];done)), H', ⟨by have := HK1.out;first|omega|exact Nat.le_refl _⟩, ⟨by (with_reducible repeat (first|apply Kd.R_alloc|apply Kd.R_drewN|apply Kd.R_drew));exact Kd.R_mono HO_9.out (fun _ hk => hk.2)⟩, ⟨by (with_reducible repeat (first|apply Kd.R_alloc|apply Kd.R_drewN|apply Kd.R_drew));exact Kd.R_mono HO21.out (fun _ hk => hk.2)⟩, ⟨by (with_reducible repeat (first|refine blk_drewN ?_ _|refine blk_drew ?_|refine blk_alloc ?_ _));exact BK7.out⟩, ⟨by repeat (first|(with_reducible first|exact HB.out|apply below_alloc|apply pw_below_drewN|apply below_drew1|refine below_set ?_ GE7.out)|exact HB.out)⟩⟩
          ·rw [if_neg c40] at H
           have c40b0 : (t25 == 0) = false := beq_eq_false_iff_ne.mpr c40
           have c40b1 : (t25 != 0) = true := bne_iff_ne.mpr c40
           (first | rw [c40b0] | (simp only [i64_w, i32_w]; rw [c40b0]) | skip)
           have H' := Aside0.mk H
           clear H
           go_wp2_with (first|(go_at_call 61;(with_reducible refine (law1_Num.calls t22 t25 _ A39.out).mono ?_);rintro e w' ⟨rfl, ⟨nd, rfl⟩⟩;(try first|exact ⟨rfl, _, World.drewN_drewN _ _ _⟩|exact ⟨rfl, _, Eq.trans (World.drewN_drewN _ _ _) (congrArg (World.drewN _) (Nat.add_assoc _ _ _))⟩)))
           repeat (go_quiet (first|(go_at_call 61;(with_reducible refine (law1_Num.calls t22 t25 _ A39.out).mono ?_);rintro e w' ⟨rfl, ⟨nd, rfl⟩⟩;(try first|exact ⟨rfl, _, World.drewN_drewN _ _ _⟩|exact ⟨rfl, _, Eq.trans (World.drewN_drewN _ _ _) (congrArg (World.drewN _) (Nat.add_assoc _ _ _))⟩)));try go_wp2_with (first|(go_at_call 61;(with_reducible refine (law1_Num.calls t22 t25 _ A39.out).mono ?_);rintro e w' ⟨rfl, ⟨nd, rfl⟩⟩;(try first|exact ⟨rfl, _, World.drewN_drewN _ _ _⟩|exact ⟨rfl, _, Eq.trans (World.drewN_drewN _ _ _) (congrArg (World.drewN _) (Nat.add_assoc _ _ _))⟩))))
           go_meet
           case rel => exact ⟨_, (true), (by first|rfl|(simp;done)|(simp [*];done)), H', ⟨by have := HK1.out;first|omega|exact Nat.le_refl _⟩, ⟨by (with_reducible repeat (first|apply Kd.R_alloc|apply Kd.R_drewN|apply Kd.R_drew));exact Kd.R_mono HO_9.out (fun _ hk => hk.2)⟩, ⟨by (with_reducible repeat (first|apply Kd.R_alloc|apply Kd.R_drewN|apply Kd.R_drew));exact Kd.R_mono HO21.out (fun _ hk => hk.2)⟩, ⟨by (with_reducible repeat (first|refine blk_drewN ?_ _|refine blk_drew ?_|refine blk_alloc ?_ _));exact BK7.out⟩, ⟨by repeat (first|(with_reducible first|exact HB.out|apply below_alloc|apply pw_below_drewN|apply below_drew1|refine below_set ?_ GE7.out)|exact HB.out)⟩⟩
         case rest =>
          clear HC36
          try clear c1
          try clear p1
          try clear q1
          try clear hx1
          try clear c2
          try clear p2
          try clear c3
          try clear c4
          try clear c5
          try clear c5b0
          try clear c5b1
          try clear p6
          try clear q6
          try clear hx6
          try clear c9
          try clear c9b0
          try clear c9b1
          try clear c9b2
          try clear p9
          try clear q9
          try clear hx9
          try clear p10
          try clear q10
          try clear hx10
          try clear p11
          try clear q11
          try clear hx11
          try clear p12
          try clear q12
          try clear hx12
          try clear p13
          try clear q13
          try clear hx13
          try clear c15
          try clear c15b0
          try clear p15
          try clear q15
          try clear hx15
          try clear c16
          try clear c16b0
          try clear p17
          try clear q17
          try clear hx17
          try clear c18
          try clear c22
          try clear c22b0
          try clear c23
          try clear c24
          try clear c24b0
          try clear c25
          try clear c25b0
          try clear c26
          try clear c26b0
          try clear c31
          try clear c31b0
          try clear c32
          try clear c32b0
          try clear c35
          try clear c40
          try clear c40b0
          try clear c40b1
          try clear hcz21_0
          try clear hcz21_1
          try clear hcz21_2
          try clear hcz28_0
          try clear hcz28_1
          try clear hcz28_2
          try clear hcz30_0
          try clear hcz30_1
          try clear hcz30_2
          try clear hcz37_0
          try clear hcz37_1
          try clear hcz37_2
          try clear hfz21_0
          try clear hfz21_1
          try clear hfz21_2
          try clear hfz28_0
          try clear hfz28_1
          try clear hfz28_2
          try clear hfz30_0
          try clear hfz30_1
          try clear hfz30_2
          try clear hfz37_0
          try clear hfz37_1
          try clear hfz37_2
          try clear hx10_0
          try clear hx10_1
          try clear hx10_10
          try clear hx10_11
          try clear hx10_2
          try clear hx10_3
          try clear hx10_4
          try clear hx10_5
          try clear hx10_6
          try clear hx10_7
          try clear hx10_8
          try clear hx10_9
          try clear hx11_0
          try clear hx11_1
          try clear hx11_10
          try clear hx11_11
          try clear hx11_2
          try clear hx11_3
          try clear hx11_4
          try clear hx11_5
          try clear hx11_6
          try clear hx11_7
          try clear hx11_8
          try clear hx11_9
          try clear hx12_0
          try clear hx12_1
          try clear hx12_10
          try clear hx12_11
          try clear hx12_2
          try clear hx12_3
          try clear hx12_4
          try clear hx12_5
          try clear hx12_6
          try clear hx12_7
          try clear hx12_8
          try clear hx12_9
          try clear hx13_0
          try clear hx13_1
          try clear hx13_10
          try clear hx13_11
          try clear hx13_2
          try clear hx13_3
          try clear hx13_4
          try clear hx13_5
          try clear hx13_6
          try clear hx13_7
          try clear hx13_8
          try clear hx13_9
          try clear hx15_0
          try clear hx15_1
          try clear hx15_10
          try clear hx15_11
          try clear hx15_2
          try clear hx15_3
          try clear hx15_4
          try clear hx15_5
          try clear hx15_6
          try clear hx15_7
          try clear hx15_8
          try clear hx15_9
          try clear hx17_0
          try clear hx17_1
          try clear hx17_10
          try clear hx17_11
          try clear hx17_2
          try clear hx17_3
          try clear hx17_4
          try clear hx17_5
          try clear hx17_6
          try clear hx17_7
          try clear hx17_8
          try clear hx17_9
          try clear hx6_0
          try clear hx6_1
          try clear hx6_10
          try clear hx6_11
          try clear hx6_2
          try clear hx6_3
          try clear hx6_4
          try clear hx6_5
          try clear hx6_6
          try clear hx6_7
          try clear hx6_8
          try clear hx6_9
          try clear hx9_0
          try clear hx9_1
          try clear hx9_10
          try clear hx9_11
          try clear hx9_2
          try clear hx9_3
          try clear hx9_4
          try clear hx9_5
          try clear hx9_6
          try clear hx9_7
          try clear hx9_8
          try clear hx9_9
          try clear p10
          try clear p11
          try clear p12
          try clear p13
          try clear p15
          try clear p17
          try clear p2
          try clear p6
          try clear p9
          try clear q10
          try clear q11
          try clear q12
          try clear q13
          try clear q15
          try clear q17
          try clear q6
          try clear q9
          obtain ⟨kq, x121_35, rfl, HA, HJ35, HO_9, HO_14, BK7, HB⟩ := hcut
          cases kq with
          | zero => exact absurd HA.out (by simp [law14_AdmitRoom.j1])
          | succ kj35 =>
           have H := HA.out
           clear HA
           simp only [law14_AdmitRoom.j1] at H
           by_cases c44 : x121_35 = true
           ·subst c44
            have H1 : (some false) = some r := by rw [if_pos rfl] at H; exact H
            clear H
            have H := H1
            clear H1
            obtain rfl := Option.some.inj H
            go_wp2
            repeat (go_quiet (fail); try go_wp2)
            go_ret
            exact ⟨by first|rfl|(simp [errW_none, errW_some] <;> rfl)|(simp only [← hji14];first|rfl|(simp [errW_none, errW_some] <;> rfl))|(simp [*, errW_none, errW_some] <;> rfl), by repeat (first|(with_reducible first|exact HB.out|apply below_alloc|apply pw_below_drewN|apply below_drew1|refine below_set ?_ GE7.out)|exact HB.out)⟩
           ·replace c44 := Bool.eq_false_iff.mpr c44
            subst c44
            have H1 : ((r10_Find.f kj35 t19 ((rd_T31 t2 (ji14)).f0)).bind fun t27 => (if t27 < 0 then (some false) else ((admit_Release.f kj35 t19 ((rd_T31 t2 (ji14)).f0) (wrap64 (a2)) (wrap64 (a3)) 0).bind fun bt28 => (if 0 ≤ t27 then (if t27 < (t19.length : Int) then ((admit_Release.f kj35 t19 ((rd_T31 t2 (ji14)).f0) 0 0 (wrap64 (((rd_T31 t19 t27).f3.f2) + 1))).bind fun bt33 => ((law1_Num.f bt28.2).bind fun t37 => (if t37 = 0 then ((r10_SameItems.f kj35 bt28.1 t2).bind fun t38 => (if t38 = true then ((law1_Num.f bt33.2).bind fun t39 => (if t39 = 1 then ((law14_awake.f kj35).bind fun t40 => (some t40)) else (some false))) else (some false))) else (some false)))) else (none)) else (none))))) = some r := by rw [if_neg (show ¬ (false = true) by decide)] at H; exact H
            clear H
            have H := H1
            clear H1
            replace H := Option.bind_eq_some_iff.mp H
            obtain ⟨t27, A450, H⟩ := H
            replace H : (if t27 < 0 then (some false) else ((admit_Release.f kj35 t19 ((rd_T31 t2 (ji14)).f0) (wrap64 (a2)) (wrap64 (a3)) 0).bind fun bt28 => (if 0 ≤ t27 then (if t27 < (t19.length : Int) then ((admit_Release.f kj35 t19 ((rd_T31 t2 (ji14)).f0) 0 0 (wrap64 (((rd_T31 t19 t27).f3.f2) + 1))).bind fun bt33 => ((law1_Num.f bt28.2).bind fun t37 => (if t37 = 0 then ((r10_SameItems.f kj35 bt28.1 t2).bind fun t38 => (if t38 = true then ((law1_Num.f bt33.2).bind fun t39 => (if t39 = 1 then ((law14_awake.f kj35).bind fun t40 => (some t40)) else (some false))) else (some false))) else (some false)))) else (none)) else (none)))) = some r := H
            have A45 := Aside0.mk A450
            clear A450
            by_cases c46 : t27 < 0
            ·rw [if_pos c46] at H
             have c46b0 : decide (t27 < 0) = true := decide_eq_true c46
             clear c46
             obtain rfl := Option.some.inj H
             obtain ⟨Ao47, co47, eo47⟩ := Kd.R_slice HO_14.out
             subst eo47
             go_wp2_with (first|(go_at_call 50;(with_reducible refine (r10_Find.calls kj35 _ _ t19 ((rd_T31 t2 (ji14)).f0) t27 _ ?side1 ?side2 A45.out).mono ?_);(case side1 => repeat (first|exact (Kd.R_reads' HO_14.out).2.2|(with_reducible refine Kd.C_alloc ?_ _)|(with_reducible refine Kd.C_drewN ?_ _)|(with_reducible refine Kd.C_drew ?_)));(case side2 => exact (Kd.R_reads' HO_14.out).2.1);rintro e w' ⟨rfl, ⟨nd, rfl⟩⟩;(try first|exact ⟨rfl, _, World.drewN_drewN _ _ _⟩|exact ⟨rfl, _, Eq.trans (World.drewN_drewN _ _ _) (congrArg (World.drewN _) (Nat.add_assoc _ _ _))⟩)))
             repeat (go_quiet (first|(go_at_call 50;(with_reducible refine (r10_Find.calls kj35 _ _ t19 ((rd_T31 t2 (ji14)).f0) t27 _ ?side1 ?side2 A45.out).mono ?_);(case side1 => repeat (first|exact (Kd.R_reads' HO_14.out).2.2|(with_reducible refine Kd.C_alloc ?_ _)|(with_reducible refine Kd.C_drewN ?_ _)|(with_reducible refine Kd.C_drew ?_)));(case side2 => exact (Kd.R_reads' HO_14.out).2.1);rintro e w' ⟨rfl, ⟨nd, rfl⟩⟩;(try first|exact ⟨rfl, _, World.drewN_drewN _ _ _⟩|exact ⟨rfl, _, Eq.trans (World.drewN_drewN _ _ _) (congrArg (World.drewN _) (Nat.add_assoc _ _ _))⟩)));try go_wp2_with (first|(go_at_call 50;(with_reducible refine (r10_Find.calls kj35 _ _ t19 ((rd_T31 t2 (ji14)).f0) t27 _ ?side1 ?side2 A45.out).mono ?_);(case side1 => repeat (first|exact (Kd.R_reads' HO_14.out).2.2|(with_reducible refine Kd.C_alloc ?_ _)|(with_reducible refine Kd.C_drewN ?_ _)|(with_reducible refine Kd.C_drew ?_)));(case side2 => exact (Kd.R_reads' HO_14.out).2.1);rintro e w' ⟨rfl, ⟨nd, rfl⟩⟩;(try first|exact ⟨rfl, _, World.drewN_drewN _ _ _⟩|exact ⟨rfl, _, Eq.trans (World.drewN_drewN _ _ _) (congrArg (World.drewN _) (Nat.add_assoc _ _ _))⟩))))
             go_ret
             exact ⟨by first|rfl|(simp [errW_none, errW_some] <;> rfl)|(simp only [← hji14];first|rfl|(simp [errW_none, errW_some] <;> rfl))|(simp [*, errW_none, errW_some] <;> rfl), by repeat (first|(with_reducible first|exact HB.out|apply below_alloc|apply pw_below_drewN|apply below_drew1|refine below_set ?_ GE7.out)|exact HB.out)⟩
            ·rw [if_neg c46] at H
             have c46b0 : decide (t27 < 0) = false := decide_eq_false c46
             clear c46
             replace H := Option.bind_eq_some_iff.mp H
             obtain ⟨⟨t28, t31⟩, A480, H⟩ := H
             replace H : (if 0 ≤ t27 then (if t27 < (t19.length : Int) then ((admit_Release.f kj35 t19 ((rd_T31 t2 (ji14)).f0) 0 0 (wrap64 (((rd_T31 t19 t27).f3.f2) + 1))).bind fun bt33 => ((law1_Num.f t31).bind fun t37 => (if t37 = 0 then ((r10_SameItems.f kj35 t28 t2).bind fun t38 => (if t38 = true then ((law1_Num.f bt33.2).bind fun t39 => (if t39 = 1 then ((law14_awake.f kj35).bind fun t40 => (some t40)) else (some false))) else (some false))) else (some false)))) else (none)) else (none)) = some r := H
             have A48 := Aside0.mk A480
             clear A480
             by_cases c49 : 0 ≤ t27
             ·rw [if_pos c49] at H
              have c49b0 : decide (0 ≤ t27) = true := decide_eq_true c49
              clear c49
              by_cases c50 : t27 < (t19.length : Int)
              ·rw [if_pos c50] at H
               have c50b0 : decide (t27 < (t19.length : Int)) = true := decide_eq_true c50
               clear c50
               replace H := Option.bind_eq_some_iff.mp H
               obtain ⟨⟨t33, t36⟩, A510, H⟩ := H
               replace H : ((law1_Num.f t31).bind fun t37 => (if t37 = 0 then ((r10_SameItems.f kj35 t28 t2).bind fun t38 => (if t38 = true then ((law1_Num.f t36).bind fun t39 => (if t39 = 1 then ((law14_awake.f kj35).bind fun t40 => (some t40)) else (some false))) else (some false))) else (some false))) = some r := H
               have A51 := Aside0.mk A510
               clear A510
               replace H := Option.bind_eq_some_iff.mp H
               obtain ⟨t37, A520, H⟩ := H
               replace H : (if t37 = 0 then ((r10_SameItems.f kj35 t28 t2).bind fun t38 => (if t38 = true then ((law1_Num.f t36).bind fun t39 => (if t39 = 1 then ((law14_awake.f kj35).bind fun t40 => (some t40)) else (some false))) else (some false))) else (some false)) = some r := H
               have A52 := Aside0.mk A520
               clear A520
               by_cases c53 : t37 = 0
               ·rw [if_pos c53] at H
                have c53b0 : (t37 == 0) = true := beq_iff_eq.mpr c53
                have c53b1 : (t37 != 0) = false := bne_eq_false_iff_eq.mpr c53
                clear c53
                replace H := Option.bind_eq_some_iff.mp H
                obtain ⟨t38, A540, H⟩ := H
                replace H : (if t38 = true then ((law1_Num.f t36).bind fun t39 => (if t39 = 1 then ((law14_awake.f kj35).bind fun t40 => (some t40)) else (some false))) else (some false)) = some r := H
                have A54 := Aside0.mk A540
                clear A540
                by_cases c55 : t38 = true
                ·subst c55
                 have H1 : ((law1_Num.f t36).bind fun t39 => (if t39 = 1 then ((law14_awake.f kj35).bind fun t40 => (some t40)) else (some false))) = some r := by rw [if_pos rfl] at H; exact H
                 clear H
                 have H := H1
                 clear H1
                 replace H := Option.bind_eq_some_iff.mp H
                 obtain ⟨t39, A560, H⟩ := H
                 replace H : (if t39 = 1 then ((law14_awake.f kj35).bind fun t40 => (some t40)) else (some false)) = some r := H
                 have A56 := Aside0.mk A560
                 clear A560
                 by_cases c57 : t39 = 1
                 ·rw [if_pos c57] at H
                  have c57b0 : (t39 == 1) = true := beq_iff_eq.mpr c57
                  have c57b1 : (t39 != 1) = false := bne_eq_false_iff_eq.mpr c57
                  clear c57
                  replace H := Option.bind_eq_some_iff.mp H
                  obtain ⟨t40, A580, H⟩ := H
                  replace H : (some t40) = some r := H
                  have A58 := Aside0.mk A580
                  clear A580
                  obtain rfl := Option.some.inj H
                  obtain ⟨Ao59, co59, eo59⟩ := Kd.R_slice HO_14.out
                  subst eo59
                  go_wp2_with (first|(go_at_call 50;(with_reducible refine (r10_Find.calls kj35 _ _ t19 ((rd_T31 t2 (ji14)).f0) t27 _ ?side1 ?side2 A45.out).mono ?_);(case side1 => repeat (first|exact (Kd.R_reads' HO_14.out).2.2|(with_reducible refine Kd.C_alloc ?_ _)|(with_reducible refine Kd.C_drewN ?_ _)|(with_reducible refine Kd.C_drew ?_)));(case side2 => exact (Kd.R_reads' HO_14.out).2.1);rintro e w' ⟨rfl, ⟨nd, rfl⟩⟩;(try first|exact ⟨rfl, _, World.drewN_drewN _ _ _⟩|exact ⟨rfl, _, Eq.trans (World.drewN_drewN _ _ _) (congrArg (World.drewN _) (Nat.add_assoc _ _ _))⟩);have hcz60_0 : wc.cell? ⟨gb7, 0, none⟩ = some (.int .i64 (wrap64 (a2))) := (blk_cell BK7.out 0).trans rfl;have hcz60_1 : wc.cell? ⟨gb7, 1, none⟩ = some (.int .i64 (wrap64 (a3))) := (blk_cell BK7.out 1).trans rfl;have hcz60_2 : wc.cell? ⟨gb7, 2, none⟩ = some (.int .i64 0) := (blk_cell BK7.out 2).trans rfl;have hfz60_0 := blk_frozen BK7.out 0;have hfz60_1 := blk_frozen BK7.out 1;have hfz60_2 := blk_frozen BK7.out 2)|(go_at_call 76;(with_reducible refine (admit_Release.calls kj35 _ _ t19 ((rd_T31 t2 (ji14)).f0) (wrap64 (a2)) (wrap64 (a3)) 0 t28 t31 _ ?side1 ?side2 A48.out).mono ?_);(case side1 => repeat (first|exact (Kd.R_reads' HO_14.out).2.2|(with_reducible refine Kd.C_alloc ?_ _)|(with_reducible refine Kd.C_drewN ?_ _)|(with_reducible refine Kd.C_drew ?_)));(case side2 => exact (Kd.R_reads' HO_14.out).2.1);rintro e w61 ⟨v29, rfl, ho0, hb⟩;have n0_ := Aside0.mk (Kd.R_elder' (by (with_reducible repeat (first|apply Kd.R_alloc|apply Kd.R_drewN|apply Kd.R_drew));exact HO_9.out) (Kd.R_base ho0) hb);have n1_ := Aside0.mk (Kd.R_elder' (by (with_reducible repeat (first|apply Kd.R_alloc|apply Kd.R_drewN|apply Kd.R_drew));exact HO_14.out) (Kd.R_base ho0) hb);have n2_ := Aside0.mk (Kd.R_lower (Kd.R_new' (Kd.R_new' ho0 (Kd.R_lt (by (with_reducible repeat (first|apply Kd.R_alloc|apply Kd.R_drewN|apply Kd.R_drew));exact HO_9.out))) (Kd.R_lt (by (with_reducible repeat (first|apply Kd.R_alloc|apply Kd.R_drewN|apply Kd.R_drew));exact HO_14.out))) (below_size (by repeat (first|(with_reducible first|exact HB.out|apply below_alloc|apply pw_below_drewN|apply below_drew1|refine below_set ?_ GE7.out)|exact HB.out))));have n3_ := Aside0.mk (blk_below (g := gb7) (o := .cells #[.int .i64 (wrap64 (a2)), .int .i64 (wrap64 (a3)), .int .i64 0] 27 (0, 0)) (by (with_reducible repeat (first|refine blk_drewN ?_ _|refine blk_drew ?_|refine blk_alloc ?_ _));exact BK7.out) hb);have n4_ := Aside0.mk (below_step (by repeat (first|(with_reducible first|exact HB.out|apply below_alloc|apply pw_below_drewN|apply below_drew1|refine below_set ?_ GE7.out)|exact HB.out)) hb);clear HO_9;clear HO_14;clear BK7;clear HB;have HO_9 := n0_;have HO_14 := n1_;have HO30 := n2_;have BK7 := n3_;have HB := n4_;clear n0_ n1_ n2_ n3_ n4_;(try clear hb);(try clear hb2);(try clear hk);(try clear hi);(try clear ho0);have p32 : 0 ≤ (t27 : Int) := of_decide_eq_true (by first|(with_reducible assumption)|assumption);have q32 : t27 < (t19.length : Int) := of_decide_eq_true (by first|(with_reducible assumption)|assumption);obtain ⟨ad32, e32, hx32_0, hx32_1, hx32_2, hx32_3, hx32_4, hx32_5, hx32_6, hx32_7, hx32_8, hx32_9, hx32_10, hx32_11⟩ := at_T31 (Kd.R_reads' HO_14.out).2.2 t27 p32 q32;cases e32;replace p32 := eq_true p32;replace q32 := eq_true q32)|(go_at_call 76;(with_reducible refine (admit_Release.calls kj35 _ _ t19 ((rd_T31 t2 (ji14)).f0) 0 0 (wrap64 (((rd_T31 t19 t27).f3.f2) + 1)) t33 t36 _ ?side1 ?side2 A51.out).mono ?_);(case side1 => repeat (first|exact (Kd.R_reads' HO_14.out).2.2|(with_reducible refine Kd.C_alloc ?_ _)|(with_reducible refine Kd.C_drewN ?_ _)|(with_reducible refine Kd.C_drew ?_)));(case side2 => exact (Kd.R_reads' HO_14.out).2.1);rintro e w62 ⟨v34, rfl, ho0, hb⟩;have n0_ := Aside0.mk (Kd.R_elder' (by (with_reducible repeat (first|apply Kd.R_alloc|apply Kd.R_drewN|apply Kd.R_drew));exact HO_9.out) (Kd.R_base ho0) hb);have n1_ := Aside0.mk (Kd.R_elder' (by (with_reducible repeat (first|apply Kd.R_alloc|apply Kd.R_drewN|apply Kd.R_drew));exact HO_14.out) (Kd.R_base ho0) hb);have n2_ := Aside0.mk (Kd.R_elder' (by (with_reducible repeat (first|apply Kd.R_alloc|apply Kd.R_drewN|apply Kd.R_drew));exact HO30.out) (Kd.R_base ho0) hb);have n3_ := Aside0.mk (Kd.R_lower (Kd.R_new' (Kd.R_new' (Kd.R_new' ho0 (Kd.R_lt (by (with_reducible repeat (first|apply Kd.R_alloc|apply Kd.R_drewN|apply Kd.R_drew));exact HO_9.out))) (Kd.R_lt (by (with_reducible repeat (first|apply Kd.R_alloc|apply Kd.R_drewN|apply Kd.R_drew));exact HO_14.out))) (Kd.R_lt (by (with_reducible repeat (first|apply Kd.R_alloc|apply Kd.R_drewN|apply Kd.R_drew));exact HO30.out))) (below_size (by repeat (first|(with_reducible first|exact HB.out|apply below_alloc|apply pw_below_drewN|apply below_drew1|refine below_set ?_ GE7.out)|exact HB.out))));have n4_ := Aside0.mk (blk_below (g := gb7) (o := .cells #[.int .i64 (wrap64 (a2)), .int .i64 (wrap64 (a3)), .int .i64 0] 27 (0, 0)) (by (with_reducible repeat (first|refine blk_drewN ?_ _|refine blk_drew ?_|refine blk_alloc ?_ _));exact BK7.out) hb);have n5_ := Aside0.mk (below_step (by repeat (first|(with_reducible first|exact HB.out|apply below_alloc|apply pw_below_drewN|apply below_drew1|refine below_set ?_ GE7.out)|exact HB.out)) hb);clear HO_9;clear HO_14;clear HO30;clear BK7;clear HB;have HO_9 := n0_;have HO_14 := n1_;have HO30 := n2_;have HO35 := n3_;have BK7 := n4_;have HB := n5_;clear n0_ n1_ n2_ n3_ n4_ n5_;(try clear hb);(try clear hb2);(try clear hk);(try clear hi);(try clear ho0))|(go_at_call 61;(with_reducible refine (law1_Num.calls t31 t37 _ A52.out).mono ?_);rintro e w' ⟨rfl, ⟨nd, rfl⟩⟩;(try first|exact ⟨rfl, _, World.drewN_drewN _ _ _⟩|exact ⟨rfl, _, Eq.trans (World.drewN_drewN _ _ _) (congrArg (World.drewN _) (Nat.add_assoc _ _ _))⟩);obtain ⟨Ao63, co63, eo63⟩ := Kd.R_slice HO30.out;subst eo63)|(go_at_call 62;(with_reducible refine (r10_SameItems.calls kj35 _ _ t28 _ _ t2 true _ ?side1 ?side2 ?side3 ?side4 A54.out).mono ?_);(case side1 => repeat (first|exact (Kd.R_reads' HO30.out).2.2|(with_reducible refine Kd.C_alloc ?_ _)|(with_reducible refine Kd.C_drewN ?_ _)|(with_reducible refine Kd.C_drew ?_)));(case side2 => exact (Kd.R_reads' HO30.out).2.1);(case side3 => repeat (first|exact (Kd.R_reads' HO_9.out).2.2|(with_reducible refine Kd.C_alloc ?_ _)|(with_reducible refine Kd.C_drewN ?_ _)|(with_reducible refine Kd.C_drew ?_)));(case side4 => exact (Kd.R_reads' HO_9.out).2.1);rintro e w' ⟨rfl, ⟨nd, rfl⟩⟩;(try first|exact ⟨rfl, _, World.drewN_drewN _ _ _⟩|exact ⟨rfl, _, Eq.trans (World.drewN_drewN _ _ _) (congrArg (World.drewN _) (Nat.add_assoc _ _ _))⟩))|(go_at_call 61;(with_reducible refine (law1_Num.calls t36 t39 _ A56.out).mono ?_);rintro e w' ⟨rfl, ⟨nd, rfl⟩⟩;(try first|exact ⟨rfl, _, World.drewN_drewN _ _ _⟩|exact ⟨rfl, _, Eq.trans (World.drewN_drewN _ _ _) (congrArg (World.drewN _) (Nat.add_assoc _ _ _))⟩))|(go_at_call 59;(with_reducible refine (law14_awake.calls kj35  t40 _ A58.out).mono ?_);rintro e w64 ⟨rfl, hb⟩;have n0_ := Aside0.mk (Kd.R_below (by (with_reducible repeat (first|apply Kd.R_alloc|apply Kd.R_drewN|apply Kd.R_drew));exact HO_9.out) hb);have n1_ := Aside0.mk (Kd.R_below (by (with_reducible repeat (first|apply Kd.R_alloc|apply Kd.R_drewN|apply Kd.R_drew));exact HO_14.out) hb);have n2_ := Aside0.mk (Kd.R_below (by (with_reducible repeat (first|apply Kd.R_alloc|apply Kd.R_drewN|apply Kd.R_drew));exact HO30.out) hb);have n3_ := Aside0.mk (Kd.R_below (by (with_reducible repeat (first|apply Kd.R_alloc|apply Kd.R_drewN|apply Kd.R_drew));exact HO35.out) hb);have n4_ := Aside0.mk (blk_below (g := gb7) (o := .cells #[.int .i64 (wrap64 (a2)), .int .i64 (wrap64 (a3)), .int .i64 0] 27 (0, 0)) (by (with_reducible repeat (first|refine blk_drewN ?_ _|refine blk_drew ?_|refine blk_alloc ?_ _));exact BK7.out) hb);have n5_ := Aside0.mk (below_step (by repeat (first|(with_reducible first|exact HB.out|apply below_alloc|apply pw_below_drewN|apply below_drew1|refine below_set ?_ GE7.out)|exact HB.out)) hb);clear HO_9;clear HO_14;clear HO30;clear HO35;clear BK7;clear HB;have HO_9 := n0_;have HO_14 := n1_;have HO30 := n2_;have HO35 := n3_;have BK7 := n4_;have HB := n5_;clear n0_ n1_ n2_ n3_ n4_ n5_;(try clear hb);(try clear hb2);(try clear hk);(try clear hi)))
                  repeat (go_quiet (first|(go_at_call 50;(with_reducible refine (r10_Find.calls kj35 _ _ t19 ((rd_T31 t2 (ji14)).f0) t27 _ ?side1 ?side2 A45.out).mono ?_);(case side1 => repeat (first|exact (Kd.R_reads' HO_14.out).2.2|(with_reducible refine Kd.C_alloc ?_ _)|(with_reducible refine Kd.C_drewN ?_ _)|(with_reducible refine Kd.C_drew ?_)));(case side2 => exact (Kd.R_reads' HO_14.out).2.1);rintro e w' ⟨rfl, ⟨nd, rfl⟩⟩;(try first|exact ⟨rfl, _, World.drewN_drewN _ _ _⟩|exact ⟨rfl, _, Eq.trans (World.drewN_drewN _ _ _) (congrArg (World.drewN _) (Nat.add_assoc _ _ _))⟩);have hcz60_0 : wc.cell? ⟨gb7, 0, none⟩ = some (.int .i64 (wrap64 (a2))) := (blk_cell BK7.out 0).trans rfl;have hcz60_1 : wc.cell? ⟨gb7, 1, none⟩ = some (.int .i64 (wrap64 (a3))) := (blk_cell BK7.out 1).trans rfl;have hcz60_2 : wc.cell? ⟨gb7, 2, none⟩ = some (.int .i64 0) := (blk_cell BK7.out 2).trans rfl;have hfz60_0 := blk_frozen BK7.out 0;have hfz60_1 := blk_frozen BK7.out 1;have hfz60_2 := blk_frozen BK7.out 2)|(go_at_call 76;(with_reducible refine (admit_Release.calls kj35 _ _ t19 ((rd_T31 t2 (ji14)).f0) (wrap64 (a2)) (wrap64 (a3)) 0 t28 t31 _ ?side1 ?side2 A48.out).mono ?_);(case side1 => repeat (first|exact (Kd.R_reads' HO_14.out).2.2|(with_reducible refine Kd.C_alloc ?_ _)|(with_reducible refine Kd.C_drewN ?_ _)|(with_reducible refine Kd.C_drew ?_)));(case side2 => exact (Kd.R_reads' HO_14.out).2.1);rintro e w61 ⟨v29, rfl, ho0, hb⟩;have n0_ := Aside0.mk (Kd.R_elder' (by (with_reducible repeat (first|apply Kd.R_alloc|apply Kd.R_drewN|apply Kd.R_drew));exact HO_9.out) (Kd.R_base ho0) hb);have n1_ := Aside0.mk (Kd.R_elder' (by (with_reducible repeat (first|apply Kd.R_alloc|apply Kd.R_drewN|apply Kd.R_drew));exact HO_14.out) (Kd.R_base ho0) hb);have n2_ := Aside0.mk (Kd.R_lower (Kd.R_new' (Kd.R_new' ho0 (Kd.R_lt (by (with_reducible repeat (first|apply Kd.R_alloc|apply Kd.R_drewN|apply Kd.R_drew));exact HO_9.out))) (Kd.R_lt (by (with_reducible repeat (first|apply Kd.R_alloc|apply Kd.R_drewN|apply Kd.R_drew));exact HO_14.out))) (below_size (by repeat (first|(with_reducible first|exact HB.out|apply below_alloc|apply pw_below_drewN|apply below_drew1|refine below_set ?_ GE7.out)|exact HB.out))));have n3_ := Aside0.mk (blk_below (g := gb7) (o := .cells #[.int .i64 (wrap64 (a2)), .int .i64 (wrap64 (a3)), .int .i64 0] 27 (0, 0)) (by (with_reducible repeat (first|refine blk_drewN ?_ _|refine blk_drew ?_|refine blk_alloc ?_ _));exact BK7.out) hb);have n4_ := Aside0.mk (below_step (by repeat (first|(with_reducible first|exact HB.out|apply below_alloc|apply pw_below_drewN|apply below_drew1|refine below_set ?_ GE7.out)|exact HB.out)) hb);clear HO_9;clear HO_14;clear BK7;clear HB;have HO_9 := n0_;have HO_14 := n1_;have HO30 := n2_;have BK7 := n3_;have HB := n4_;clear n0_ n1_ n2_ n3_ n4_;(try clear hb);(try clear hb2);(try clear hk);(try clear hi);(try clear ho0);have p32 : 0 ≤ (t27 : Int) := of_decide_eq_true (by first|(with_reducible assumption)|assumption);have q32 : t27 < (t19.length : Int) := of_decide_eq_true (by first|(with_reducible assumption)|assumption);obtain ⟨ad32, e32, hx32_0, hx32_1, hx32_2, hx32_3, hx32_4, hx32_5, hx32_6, hx32_7, hx32_8, hx32_9, hx32_10, hx32_11⟩ := at_T31 (Kd.R_reads' HO_14.out).2.2 t27 p32 q32;cases e32;replace p32 := eq_true p32;replace q32 := eq_true q32)|(go_at_call 76;(with_reducible refine (admit_Release.calls kj35 _ _ t19 ((rd_T31 t2 (ji14)).f0) 0 0 (wrap64 (((rd_T31 t19 t27).f3.f2) + 1)) t33 t36 _ ?side1 ?side2 A51.out).mono ?_);(case side1 => repeat (first|exact (Kd.R_reads' HO_14.out).2.2|(with_reducible refine Kd.C_alloc ?_ _)|(with_reducible refine Kd.C_drewN ?_ _)|(with_reducible refine Kd.C_drew ?_)));(case side2 => exact (Kd.R_reads' HO_14.out).2.1);rintro e w62 ⟨v34, rfl, ho0, hb⟩;have n0_ := Aside0.mk (Kd.R_elder' (by (with_reducible repeat (first|apply Kd.R_alloc|apply Kd.R_drewN|apply Kd.R_drew));exact HO_9.out) (Kd.R_base ho0) hb);have n1_ := Aside0.mk (Kd.R_elder' (by (with_reducible repeat (first|apply Kd.R_alloc|apply Kd.R_drewN|apply Kd.R_drew));exact HO_14.out) (Kd.R_base ho0) hb);have n2_ := Aside0.mk (Kd.R_elder' (by (with_reducible repeat (first|apply Kd.R_alloc|apply Kd.R_drewN|apply Kd.R_drew));exact HO30.out) (Kd.R_base ho0) hb);have n3_ := Aside0.mk (Kd.R_lower (Kd.R_new' (Kd.R_new' (Kd.R_new' ho0 (Kd.R_lt (by (with_reducible repeat (first|apply Kd.R_alloc|apply Kd.R_drewN|apply Kd.R_drew));exact HO_9.out))) (Kd.R_lt (by (with_reducible repeat (first|apply Kd.R_alloc|apply Kd.R_drewN|apply Kd.R_drew));exact HO_14.out))) (Kd.R_lt (by (with_reducible repeat (first|apply Kd.R_alloc|apply Kd.R_drewN|apply Kd.R_drew));exact HO30.out))) (below_size (by repeat (first|(with_reducible first|exact HB.out|apply below_alloc|apply pw_below_drewN|apply below_drew1|refine below_set ?_ GE7.out)|exact HB.out))));have n4_ := Aside0.mk (blk_below (g := gb7) (o := .cells #[.int .i64 (wrap64 (a2)), .int .i64 (wrap64 (a3)), .int .i64 0] 27 (0, 0)) (by (with_reducible repeat (first|refine blk_drewN ?_ _|refine blk_drew ?_|refine blk_alloc ?_ _));exact BK7.out) hb);have n5_ := Aside0.mk (below_step (by repeat (first|(with_reducible first|exact HB.out|apply below_alloc|apply pw_below_drewN|apply below_drew1|refine below_set ?_ GE7.out)|exact HB.out)) hb);clear HO_9;clear HO_14;clear HO30;clear BK7;clear HB;have HO_9 := n0_;have HO_14 := n1_;have HO30 := n2_;have HO35 := n3_;have BK7 := n4_;have HB := n5_;clear n0_ n1_ n2_ n3_ n4_ n5_;(try clear hb);(try clear hb2);(try clear hk);(try clear hi);(try clear ho0))|(go_at_call 61;(with_reducible refine (law1_Num.calls t31 t37 _ A52.out).mono ?_);rintro e w' ⟨rfl, ⟨nd, rfl⟩⟩;(try first|exact ⟨rfl, _, World.drewN_drewN _ _ _⟩|exact ⟨rfl, _, Eq.trans (World.drewN_drewN _ _ _) (congrArg (World.drewN _) (Nat.add_assoc _ _ _))⟩);obtain ⟨Ao63, co63, eo63⟩ := Kd.R_slice HO30.out;subst eo63)|(go_at_call 62;(with_reducible refine (r10_SameItems.calls kj35 _ _ t28 _ _ t2 true _ ?side1 ?side2 ?side3 ?side4 A54.out).mono ?_);(case side1 => repeat (first|exact (Kd.R_reads' HO30.out).2.2|(with_reducible refine Kd.C_alloc ?_ _)|(with_reducible refine Kd.C_drewN ?_ _)|(with_reducible refine Kd.C_drew ?_)));(case side2 => exact (Kd.R_reads' HO30.out).2.1);(case side3 => repeat (first|exact (Kd.R_reads' HO_9.out).2.2|(with_reducible refine Kd.C_alloc ?_ _)|(with_reducible refine Kd.C_drewN ?_ _)|(with_reducible refine Kd.C_drew ?_)));(case side4 => exact (Kd.R_reads' HO_9.out).2.1);rintro e w' ⟨rfl, ⟨nd, rfl⟩⟩;(try first|exact ⟨rfl, _, World.drewN_drewN _ _ _⟩|exact ⟨rfl, _, Eq.trans (World.drewN_drewN _ _ _) (congrArg (World.drewN _) (Nat.add_assoc _ _ _))⟩))|(go_at_call 61;(with_reducible refine (law1_Num.calls t36 t39 _ A56.out).mono ?_);rintro e w' ⟨rfl, ⟨nd, rfl⟩⟩;(try first|exact ⟨rfl, _, World.drewN_drewN _ _ _⟩|exact ⟨rfl, _, Eq.trans (World.drewN_drewN _ _ _) (congrArg (World.drewN _) (Nat.add_assoc _ _ _))⟩))|(go_at_call 59;(with_reducible refine (law14_awake.calls kj35  t40 _ A58.out).mono ?_);rintro e w64 ⟨rfl, hb⟩;have n0_ := Aside0.mk (Kd.R_below (by (with_reducible repeat (first|apply Kd.R_alloc|apply Kd.R_drewN|apply Kd.R_drew));exact HO_9.out) hb);have n1_ := Aside0.mk (Kd.R_below (by (with_reducible repeat (first|apply Kd.R_alloc|apply Kd.R_drewN|apply Kd.R_drew));exact HO_14.out) hb);have n2_ := Aside0.mk (Kd.R_below (by (with_reducible repeat (first|apply Kd.R_alloc|apply Kd.R_drewN|apply Kd.R_drew));exact HO30.out) hb);have n3_ := Aside0.mk (Kd.R_below (by (with_reducible repeat (first|apply Kd.R_alloc|apply Kd.R_drewN|apply Kd.R_drew));exact HO35.out) hb);have n4_ := Aside0.mk (blk_below (g := gb7) (o := .cells #[.int .i64 (wrap64 (a2)), .int .i64 (wrap64 (a3)), .int .i64 0] 27 (0, 0)) (by (with_reducible repeat (first|refine blk_drewN ?_ _|refine blk_drew ?_|refine blk_alloc ?_ _));exact BK7.out) hb);have n5_ := Aside0.mk (below_step (by repeat (first|(with_reducible first|exact HB.out|apply below_alloc|apply pw_below_drewN|apply below_drew1|refine below_set ?_ GE7.out)|exact HB.out)) hb);clear HO_9;clear HO_14;clear HO30;clear HO35;clear BK7;clear HB;have HO_9 := n0_;have HO_14 := n1_;have HO30 := n2_;have HO35 := n3_;have BK7 := n4_;have HB := n5_;clear n0_ n1_ n2_ n3_ n4_ n5_;(try clear hb);(try clear hb2);(try clear hk);(try clear hi)));try go_wp2_with (first|(go_at_call 50;(with_reducible refine (r10_Find.calls kj35 _ _ t19 ((rd_T31 t2 (ji14)).f0) t27 _ ?side1 ?side2 A45.out).mono ?_);(case side1 => repeat (first|exact (Kd.R_reads' HO_14.out).2.2|(with_reducible refine Kd.C_alloc ?_ _)|(with_reducible refine Kd.C_drewN ?_ _)|(with_reducible refine Kd.C_drew ?_)));(case side2 => exact (Kd.R_reads' HO_14.out).2.1);rintro e w' ⟨rfl, ⟨nd, rfl⟩⟩;(try first|exact ⟨rfl, _, World.drewN_drewN _ _ _⟩|exact ⟨rfl, _, Eq.trans (World.drewN_drewN _ _ _) (congrArg (World.drewN _) (Nat.add_assoc _ _ _))⟩);have hcz60_0 : wc.cell? ⟨gb7, 0, none⟩ = some (.int .i64 (wrap64 (a2))) := (blk_cell BK7.out 0).trans rfl;have hcz60_1 : wc.cell? ⟨gb7, 1, none⟩ = some (.int .i64 (wrap64 (a3))) := (blk_cell BK7.out 1).trans rfl;have hcz60_2 : wc.cell? ⟨gb7, 2, none⟩ = some (.int .i64 0) := (blk_cell BK7.out 2).trans rfl;have hfz60_0 := blk_frozen BK7.out 0;have hfz60_1 := blk_frozen BK7.out 1;have hfz60_2 := blk_frozen BK7.out 2)|(go_at_call 76;(with_reducible refine (admit_Release.calls kj35 _ _ t19 ((rd_T31 t2 (ji14)).f0) (wrap64 (a2)) (wrap64 (a3)) 0 t28 t31 _ ?side1 ?side2 A48.out).mono ?_);(case side1 => repeat (first|exact (Kd.R_reads' HO_14.out).2.2|(with_reducible refine Kd.C_alloc ?_ _)|(with_reducible refine Kd.C_drewN ?_ _)|(with_reducible refine Kd.C_drew ?_)));(case side2 => exact (Kd.R_reads' HO_14.out).2.1);rintro e w61 ⟨v29, rfl, ho0, hb⟩;have n0_ := Aside0.mk (Kd.R_elder' (by (with_reducible repeat (first|apply Kd.R_alloc|apply Kd.R_drewN|apply Kd.R_drew));exact HO_9.out) (Kd.R_base ho0) hb);have n1_ := Aside0.mk (Kd.R_elder' (by (with_reducible repeat (first|apply Kd.R_alloc|apply Kd.R_drewN|apply Kd.R_drew));exact HO_14.out) (Kd.R_base ho0) hb);have n2_ := Aside0.mk (Kd.R_lower (Kd.R_new' (Kd.R_new' ho0 (Kd.R_lt (by (with_reducible repeat (first|apply Kd.R_alloc|apply Kd.R_drewN|apply Kd.R_drew));exact HO_9.out))) (Kd.R_lt (by (with_reducible repeat (first|apply Kd.R_alloc|apply Kd.R_drewN|apply Kd.R_drew));exact HO_14.out))) (below_size (by repeat (first|(with_reducible first|exact HB.out|apply below_alloc|apply pw_below_drewN|apply below_drew1|refine below_set ?_ GE7.out)|exact HB.out))));have n3_ := Aside0.mk (blk_below (g := gb7) (o := .cells #[.int .i64 (wrap64 (a2)), .int .i64 (wrap64 (a3)), .int .i64 0] 27 (0, 0)) (by (with_reducible repeat (first|refine blk_drewN ?_ _|refine blk_drew ?_|refine blk_alloc ?_ _));exact BK7.out) hb);have n4_ := Aside0.mk (below_step (by repeat (first|(with_reducible first|exact HB.out|apply below_alloc|apply pw_below_drewN|apply below_drew1|refine below_set ?_ GE7.out)|exact HB.out)) hb);clear HO_9;clear HO_14;clear BK7;clear HB;have HO_9 := n0_;have HO_14 := n1_;have HO30 := n2_;have BK7 := n3_;have HB := n4_;clear n0_ n1_ n2_ n3_ n4_;(try clear hb);(try clear hb2);(try clear hk);(try clear hi);(try clear ho0);have p32 : 0 ≤ (t27 : Int) := of_decide_eq_true (by first|(with_reducible assumption)|assumption);have q32 : t27 < (t19.length : Int) := of_decide_eq_true (by first|(with_reducible assumption)|assumption);obtain ⟨ad32, e32, hx32_0, hx32_1, hx32_2, hx32_3, hx32_4, hx32_5, hx32_6, hx32_7, hx32_8, hx32_9, hx32_10, hx32_11⟩ := at_T31 (Kd.R_reads' HO_14.out).2.2 t27 p32 q32;cases e32;replace p32 := eq_true p32;replace q32 := eq_true q32)|(go_at_call 76;(with_reducible refine (admit_Release.calls kj35 _ _ t19 ((rd_T31 t2 (ji14)).f0) 0 0 (wrap64 (((rd_T31 t19 t27).f3.f2) + 1)) t33 t36 _ ?side1 ?side2 A51.out).mono ?_);(case side1 => repeat (first|exact (Kd.R_reads' HO_14.out).2.2|(with_reducible refine Kd.C_alloc ?_ _)|(with_reducible refine Kd.C_drewN ?_ _)|(with_reducible refine Kd.C_drew ?_)));(case side2 => exact (Kd.R_reads' HO_14.out).2.1);rintro e w62 ⟨v34, rfl, ho0, hb⟩;have n0_ := Aside0.mk (Kd.R_elder' (by (with_reducible repeat (first|apply Kd.R_alloc|apply Kd.R_drewN|apply Kd.R_drew));exact HO_9.out) (Kd.R_base ho0) hb);have n1_ := Aside0.mk (Kd.R_elder' (by (with_reducible repeat (first|apply Kd.R_alloc|apply Kd.R_drewN|apply Kd.R_drew));exact HO_14.out) (Kd.R_base ho0) hb);have n2_ := Aside0.mk (Kd.R_elder' (by (with_reducible repeat (first|apply Kd.R_alloc|apply Kd.R_drewN|apply Kd.R_drew));exact HO30.out) (Kd.R_base ho0) hb);have n3_ := Aside0.mk (Kd.R_lower (Kd.R_new' (Kd.R_new' (Kd.R_new' ho0 (Kd.R_lt (by (with_reducible repeat (first|apply Kd.R_alloc|apply Kd.R_drewN|apply Kd.R_drew));exact HO_9.out))) (Kd.R_lt (by (with_reducible repeat (first|apply Kd.R_alloc|apply Kd.R_drewN|apply Kd.R_drew));exact HO_14.out))) (Kd.R_lt (by (with_reducible repeat (first|apply Kd.R_alloc|apply Kd.R_drewN|apply Kd.R_drew));exact HO30.out))) (below_size (by repeat (first|(with_reducible first|exact HB.out|apply below_alloc|apply pw_below_drewN|apply below_drew1|refine below_set ?_ GE7.out)|exact HB.out))));have n4_ := Aside0.mk (blk_below (g := gb7) (o := .cells #[.int .i64 (wrap64 (a2)), .int .i64 (wrap64 (a3)), .int .i64 0] 27 (0, 0)) (by (with_reducible repeat (first|refine blk_drewN ?_ _|refine blk_drew ?_|refine blk_alloc ?_ _));exact BK7.out) hb);have n5_ := Aside0.mk (below_step (by repeat (first|(with_reducible first|exact HB.out|apply below_alloc|apply pw_below_drewN|apply below_drew1|refine below_set ?_ GE7.out)|exact HB.out)) hb);clear HO_9;clear HO_14;clear HO30;clear BK7;clear HB;have HO_9 := n0_;have HO_14 := n1_;have HO30 := n2_;have HO35 := n3_;have BK7 := n4_;have HB := n5_;clear n0_ n1_ n2_ n3_ n4_ n5_;(try clear hb);(try clear hb2);(try clear hk);(try clear hi);(try clear ho0))|(go_at_call 61;(with_reducible refine (law1_Num.calls t31 t37 _ A52.out).mono ?_);rintro e w' ⟨rfl, ⟨nd, rfl⟩⟩;(try first|exact ⟨rfl, _, World.drewN_drewN _ _ _⟩|exact ⟨rfl, _, Eq.trans (World.drewN_drewN _ _ _) (congrArg (World.drewN _) (Nat.add_assoc _ _ _))⟩);obtain ⟨Ao63, co63, eo63⟩ := Kd.R_slice HO30.out;subst eo63)|(go_at_call 62;(with_reducible refine (r10_SameItems.calls kj35 _ _ t28 _ _ t2 true _ ?side1 ?side2 ?side3 ?side4 A54.out).mono ?_);(case side1 => repeat (first|exact (Kd.R_reads' HO30.out).2.2|(with_reducible refine Kd.C_alloc ?_ _)|(with_reducible refine Kd.C_drewN ?_ _)|(with_reducible refine Kd.C_drew ?_)));(case side2 => exact (Kd.R_reads' HO30.out).2.1);(case side3 => repeat (first|exact (Kd.R_reads' HO_9.out).2.2|(with_reducible refine Kd.C_alloc ?_ _)|(with_reducible refine Kd.C_drewN ?_ _)|(with_reducible refine Kd.C_drew ?_)));(case side4 => exact (Kd.R_reads' HO_9.out).2.1);rintro e w' ⟨rfl, ⟨nd, rfl⟩⟩;(try first|exact ⟨rfl, _, World.drewN_drewN _ _ _⟩|exact ⟨rfl, _, Eq.trans (World.drewN_drewN _ _ _) (congrArg (World.drewN _) (Nat.add_assoc _ _ _))⟩))|(go_at_call 61;(with_reducible refine (law1_Num.calls t36 t39 _ A56.out).mono ?_);rintro e w' ⟨rfl, ⟨nd, rfl⟩⟩;(try first|exact ⟨rfl, _, World.drewN_drewN _ _ _⟩|exact ⟨rfl, _, Eq.trans (World.drewN_drewN _ _ _) (congrArg (World.drewN _) (Nat.add_assoc _ _ _))⟩))|(go_at_call 59;(with_reducible refine (law14_awake.calls kj35  t40 _ A58.out).mono ?_);rintro e w64 ⟨rfl, hb⟩;have n0_ := Aside0.mk (Kd.R_below (by (with_reducible repeat (first|apply Kd.R_alloc|apply Kd.R_drewN|apply Kd.R_drew));exact HO_9.out) hb);have n1_ := Aside0.mk (Kd.R_below (by (with_reducible repeat (first|apply Kd.R_alloc|apply Kd.R_drewN|apply Kd.R_drew));exact HO_14.out) hb);have n2_ := Aside0.mk (Kd.R_below (by (with_reducible repeat (first|apply Kd.R_alloc|apply Kd.R_drewN|apply Kd.R_drew));exact HO30.out) hb);have n3_ := Aside0.mk (Kd.R_below (by (with_reducible repeat (first|apply Kd.R_alloc|apply Kd.R_drewN|apply Kd.R_drew));exact HO35.out) hb);have n4_ := Aside0.mk (blk_below (g := gb7) (o := .cells #[.int .i64 (wrap64 (a2)), .int .i64 (wrap64 (a3)), .int .i64 0] 27 (0, 0)) (by (with_reducible repeat (first|refine blk_drewN ?_ _|refine blk_drew ?_|refine blk_alloc ?_ _));exact BK7.out) hb);have n5_ := Aside0.mk (below_step (by repeat (first|(with_reducible first|exact HB.out|apply below_alloc|apply pw_below_drewN|apply below_drew1|refine below_set ?_ GE7.out)|exact HB.out)) hb);clear HO_9;clear HO_14;clear HO30;clear HO35;clear BK7;clear HB;have HO_9 := n0_;have HO_14 := n1_;have HO30 := n2_;have HO35 := n3_;have BK7 := n4_;have HB := n5_;clear n0_ n1_ n2_ n3_ n4_ n5_;(try clear hb);(try clear hb2);(try clear hk);(try clear hi))))
                  go_ret
                  exact ⟨by first|rfl|(simp [errW_none, errW_some] <;> rfl)|(simp only [← hji14];first|rfl|(simp [errW_none, errW_some] <;> rfl))|(simp [*, errW_none, errW_some] <;> rfl), by repeat (first|(with_reducible first|exact HB.out|apply below_alloc|apply pw_below_drewN|apply below_drew1|refine below_set ?_ GE7.out)|exact HB.out)⟩
                 ·rw [if_neg c57] at H
                  have c57b0 : (t39 == 1) = false := beq_eq_false_iff_ne.mpr c57
                  have c57b1 : (t39 != 1) = true := bne_iff_ne.mpr c57
                  obtain rfl := Option.some.inj H
                  obtain ⟨Ao65, co65, eo65⟩ := Kd.R_slice HO_14.out
                  subst eo65
                  go_wp2_with (first|(go_at_call 50;(with_reducible refine (r10_Find.calls kj35 _ _ t19 ((rd_T31 t2 (ji14)).f0) t27 _ ?side1 ?side2 A45.out).mono ?_);(case side1 => repeat (first|exact (Kd.R_reads' HO_14.out).2.2|(with_reducible refine Kd.C_alloc ?_ _)|(with_reducible refine Kd.C_drewN ?_ _)|(with_reducible refine Kd.C_drew ?_)));(case side2 => exact (Kd.R_reads' HO_14.out).2.1);rintro e w' ⟨rfl, ⟨nd, rfl⟩⟩;(try first|exact ⟨rfl, _, World.drewN_drewN _ _ _⟩|exact ⟨rfl, _, Eq.trans (World.drewN_drewN _ _ _) (congrArg (World.drewN _) (Nat.add_assoc _ _ _))⟩);have hcz66_0 : wc.cell? ⟨gb7, 0, none⟩ = some (.int .i64 (wrap64 (a2))) := (blk_cell BK7.out 0).trans rfl;have hcz66_1 : wc.cell? ⟨gb7, 1, none⟩ = some (.int .i64 (wrap64 (a3))) := (blk_cell BK7.out 1).trans rfl;have hcz66_2 : wc.cell? ⟨gb7, 2, none⟩ = some (.int .i64 0) := (blk_cell BK7.out 2).trans rfl;have hfz66_0 := blk_frozen BK7.out 0;have hfz66_1 := blk_frozen BK7.out 1;have hfz66_2 := blk_frozen BK7.out 2)|(go_at_call 76;(with_reducible refine (admit_Release.calls kj35 _ _ t19 ((rd_T31 t2 (ji14)).f0) (wrap64 (a2)) (wrap64 (a3)) 0 t28 t31 _ ?side1 ?side2 A48.out).mono ?_);(case side1 => repeat (first|exact (Kd.R_reads' HO_14.out).2.2|(with_reducible refine Kd.C_alloc ?_ _)|(with_reducible refine Kd.C_drewN ?_ _)|(with_reducible refine Kd.C_drew ?_)));(case side2 => exact (Kd.R_reads' HO_14.out).2.1);rintro e w67 ⟨v29, rfl, ho0, hb⟩;have n0_ := Aside0.mk (Kd.R_elder' (by (with_reducible repeat (first|apply Kd.R_alloc|apply Kd.R_drewN|apply Kd.R_drew));exact HO_9.out) (Kd.R_base ho0) hb);have n1_ := Aside0.mk (Kd.R_elder' (by (with_reducible repeat (first|apply Kd.R_alloc|apply Kd.R_drewN|apply Kd.R_drew));exact HO_14.out) (Kd.R_base ho0) hb);have n2_ := Aside0.mk (Kd.R_lower (Kd.R_new' (Kd.R_new' ho0 (Kd.R_lt (by (with_reducible repeat (first|apply Kd.R_alloc|apply Kd.R_drewN|apply Kd.R_drew));exact HO_9.out))) (Kd.R_lt (by (with_reducible repeat (first|apply Kd.R_alloc|apply Kd.R_drewN|apply Kd.R_drew));exact HO_14.out))) (below_size (by repeat (first|(with_reducible first|exact HB.out|apply below_alloc|apply pw_below_drewN|apply below_drew1|refine below_set ?_ GE7.out)|exact HB.out))));have n3_ := Aside0.mk (blk_below (g := gb7) (o := .cells #[.int .i64 (wrap64 (a2)), .int .i64 (wrap64 (a3)), .int .i64 0] 27 (0, 0)) (by (with_reducible repeat (first|refine blk_drewN ?_ _|refine blk_drew ?_|refine blk_alloc ?_ _));exact BK7.out) hb);have n4_ := Aside0.mk (below_step (by repeat (first|(with_reducible first|exact HB.out|apply below_alloc|apply pw_below_drewN|apply below_drew1|refine below_set ?_ GE7.out)|exact HB.out)) hb);clear HO_9;clear HO_14;clear BK7;clear HB;have HO_9 := n0_;have HO_14 := n1_;have HO30 := n2_;have BK7 := n3_;have HB := n4_;clear n0_ n1_ n2_ n3_ n4_;(try clear hb);(try clear hb2);(try clear hk);(try clear hi);(try clear ho0);have p32 : 0 ≤ (t27 : Int) := of_decide_eq_true (by first|(with_reducible assumption)|assumption);have q32 : t27 < (t19.length : Int) := of_decide_eq_true (by first|(with_reducible assumption)|assumption);obtain ⟨ad32, e32, hx32_0, hx32_1, hx32_2, hx32_3, hx32_4, hx32_5, hx32_6, hx32_7, hx32_8, hx32_9, hx32_10, hx32_11⟩ := at_T31 (Kd.R_reads' HO_14.out).2.2 t27 p32 q32;cases e32;replace p32 := eq_true p32;replace q32 := eq_true q32)|(go_at_call 76;(with_reducible refine (admit_Release.calls kj35 _ _ t19 ((rd_T31 t2 (ji14)).f0) 0 0 (wrap64 (((rd_T31 t19 t27).f3.f2) + 1)) t33 t36 _ ?side1 ?side2 A51.out).mono ?_);(case side1 => repeat (first|exact (Kd.R_reads' HO_14.out).2.2|(with_reducible refine Kd.C_alloc ?_ _)|(with_reducible refine Kd.C_drewN ?_ _)|(with_reducible refine Kd.C_drew ?_)));(case side2 => exact (Kd.R_reads' HO_14.out).2.1);rintro e w68 ⟨v34, rfl, ho0, hb⟩;have n0_ := Aside0.mk (Kd.R_elder' (by (with_reducible repeat (first|apply Kd.R_alloc|apply Kd.R_drewN|apply Kd.R_drew));exact HO_9.out) (Kd.R_base ho0) hb);have n1_ := Aside0.mk (Kd.R_elder' (by (with_reducible repeat (first|apply Kd.R_alloc|apply Kd.R_drewN|apply Kd.R_drew));exact HO_14.out) (Kd.R_base ho0) hb);have n2_ := Aside0.mk (Kd.R_elder' (by (with_reducible repeat (first|apply Kd.R_alloc|apply Kd.R_drewN|apply Kd.R_drew));exact HO30.out) (Kd.R_base ho0) hb);have n3_ := Aside0.mk (Kd.R_lower (Kd.R_new' (Kd.R_new' (Kd.R_new' ho0 (Kd.R_lt (by (with_reducible repeat (first|apply Kd.R_alloc|apply Kd.R_drewN|apply Kd.R_drew));exact HO_9.out))) (Kd.R_lt (by (with_reducible repeat (first|apply Kd.R_alloc|apply Kd.R_drewN|apply Kd.R_drew));exact HO_14.out))) (Kd.R_lt (by (with_reducible repeat (first|apply Kd.R_alloc|apply Kd.R_drewN|apply Kd.R_drew));exact HO30.out))) (below_size (by repeat (first|(with_reducible first|exact HB.out|apply below_alloc|apply pw_below_drewN|apply below_drew1|refine below_set ?_ GE7.out)|exact HB.out))));have n4_ := Aside0.mk (blk_below (g := gb7) (o := .cells #[.int .i64 (wrap64 (a2)), .int .i64 (wrap64 (a3)), .int .i64 0] 27 (0, 0)) (by (with_reducible repeat (first|refine blk_drewN ?_ _|refine blk_drew ?_|refine blk_alloc ?_ _));exact BK7.out) hb);have n5_ := Aside0.mk (below_step (by repeat (first|(with_reducible first|exact HB.out|apply below_alloc|apply pw_below_drewN|apply below_drew1|refine below_set ?_ GE7.out)|exact HB.out)) hb);clear HO_9;clear HO_14;clear HO30;clear BK7;clear HB;have HO_9 := n0_;have HO_14 := n1_;have HO30 := n2_;have HO35 := n3_;have BK7 := n4_;have HB := n5_;clear n0_ n1_ n2_ n3_ n4_ n5_;(try clear hb);(try clear hb2);(try clear hk);(try clear hi);(try clear ho0))|(go_at_call 61;(with_reducible refine (law1_Num.calls t31 t37 _ A52.out).mono ?_);rintro e w' ⟨rfl, ⟨nd, rfl⟩⟩;(try first|exact ⟨rfl, _, World.drewN_drewN _ _ _⟩|exact ⟨rfl, _, Eq.trans (World.drewN_drewN _ _ _) (congrArg (World.drewN _) (Nat.add_assoc _ _ _))⟩);obtain ⟨Ao69, co69, eo69⟩ := Kd.R_slice HO30.out;subst eo69)|(go_at_call 62;(with_reducible refine (r10_SameItems.calls kj35 _ _ t28 _ _ t2 true _ ?side1 ?side2 ?side3 ?side4 A54.out).mono ?_);(case side1 => repeat (first|exact (Kd.R_reads' HO30.out).2.2|(with_reducible refine Kd.C_alloc ?_ _)|(with_reducible refine Kd.C_drewN ?_ _)|(with_reducible refine Kd.C_drew ?_)));(case side2 => exact (Kd.R_reads' HO30.out).2.1);(case side3 => repeat (first|exact (Kd.R_reads' HO_9.out).2.2|(with_reducible refine Kd.C_alloc ?_ _)|(with_reducible refine Kd.C_drewN ?_ _)|(with_reducible refine Kd.C_drew ?_)));(case side4 => exact (Kd.R_reads' HO_9.out).2.1);rintro e w' ⟨rfl, ⟨nd, rfl⟩⟩;(try first|exact ⟨rfl, _, World.drewN_drewN _ _ _⟩|exact ⟨rfl, _, Eq.trans (World.drewN_drewN _ _ _) (congrArg (World.drewN _) (Nat.add_assoc _ _ _))⟩))|(go_at_call 61;(with_reducible refine (law1_Num.calls t36 t39 _ A56.out).mono ?_);rintro e w' ⟨rfl, ⟨nd, rfl⟩⟩;(try first|exact ⟨rfl, _, World.drewN_drewN _ _ _⟩|exact ⟨rfl, _, Eq.trans (World.drewN_drewN _ _ _) (congrArg (World.drewN _) (Nat.add_assoc _ _ _))⟩)))
                  repeat (go_quiet (first|(go_at_call 50;(with_reducible refine (r10_Find.calls kj35 _ _ t19 ((rd_T31 t2 (ji14)).f0) t27 _ ?side1 ?side2 A45.out).mono ?_);(case side1 => repeat (first|exact (Kd.R_reads' HO_14.out).2.2|(with_reducible refine Kd.C_alloc ?_ _)|(with_reducible refine Kd.C_drewN ?_ _)|(with_reducible refine Kd.C_drew ?_)));(case side2 => exact (Kd.R_reads' HO_14.out).2.1);rintro e w' ⟨rfl, ⟨nd, rfl⟩⟩;(try first|exact ⟨rfl, _, World.drewN_drewN _ _ _⟩|exact ⟨rfl, _, Eq.trans (World.drewN_drewN _ _ _) (congrArg (World.drewN _) (Nat.add_assoc _ _ _))⟩);have hcz66_0 : wc.cell? ⟨gb7, 0, none⟩ = some (.int .i64 (wrap64 (a2))) := (blk_cell BK7.out 0).trans rfl;have hcz66_1 : wc.cell? ⟨gb7, 1, none⟩ = some (.int .i64 (wrap64 (a3))) := (blk_cell BK7.out 1).trans rfl;have hcz66_2 : wc.cell? ⟨gb7, 2, none⟩ = some (.int .i64 0) := (blk_cell BK7.out 2).trans rfl;have hfz66_0 := blk_frozen BK7.out 0;have hfz66_1 := blk_frozen BK7.out 1;have hfz66_2 := blk_frozen BK7.out 2)|(go_at_call 76;(with_reducible refine (admit_Release.calls kj35 _ _ t19 ((rd_T31 t2 (ji14)).f0) (wrap64 (a2)) (wrap64 (a3)) 0 t28 t31 _ ?side1 ?side2 A48.out).mono ?_);(case side1 => repeat (first|exact (Kd.R_reads' HO_14.out).2.2|(with_reducible refine Kd.C_alloc ?_ _)|(with_reducible refine Kd.C_drewN ?_ _)|(with_reducible refine Kd.C_drew ?_)));(case side2 => exact (Kd.R_reads' HO_14.out).2.1);rintro e w67 ⟨v29, rfl, ho0, hb⟩;have n0_ := Aside0.mk (Kd.R_elder' (by (with_reducible repeat (first|apply Kd.R_alloc|apply Kd.R_drewN|apply Kd.R_drew));exact HO_9.out) (Kd.R_base ho0) hb);have n1_ := Aside0.mk (Kd.R_elder' (by (with_reducible repeat (first|apply Kd.R_alloc|apply Kd.R_drewN|apply Kd.R_drew));exact HO_14.out) (Kd.R_base ho0) hb);have n2_ := Aside0.mk (Kd.R_lower (Kd.R_new' (Kd.R_new' ho0 (Kd.R_lt (by (with_reducible repeat (first|apply Kd.R_alloc|apply Kd.R_drewN|apply Kd.R_drew));exact HO_9.out))) (Kd.R_lt (by (with_reducible repeat (first|apply Kd.R_alloc|apply Kd.R_drewN|apply Kd.R_drew));exact HO_14.out))) (below_size (by repeat (first|(with_reducible first|exact HB.out|apply below_alloc|apply pw_below_drewN|apply below_drew1|refine below_set ?_ GE7.out)|exact HB.out))));have n3_ := Aside0.mk (blk_below (g := gb7) (o := .cells #[.int .i64 (wrap64 (a2)), .int .i64 (wrap64 (a3)), .int .i64 0] 27 (0, 0)) (by (with_reducible repeat (first|refine blk_drewN ?_ _|refine blk_drew ?_|refine blk_alloc ?_ _));exact BK7.out) hb);have n4_ := Aside0.mk (below_step (by repeat (first|(with_reducible first|exact HB.out|apply below_alloc|apply pw_below_drewN|apply below_drew1|refine below_set ?_ GE7.out)|exact HB.out)) hb);clear HO_9;clear HO_14;clear BK7;clear HB;have HO_9 := n0_;have HO_14 := n1_;have HO30 := n2_;have BK7 := n3_;have HB := n4_;clear n0_ n1_ n2_ n3_ n4_;(try clear hb);(try clear hb2);(try clear hk);(try clear hi);(try clear ho0);have p32 : 0 ≤ (t27 : Int) := of_decide_eq_true (by first|(with_reducible assumption)|assumption);have q32 : t27 < (t19.length : Int) := of_decide_eq_true (by first|(with_reducible assumption)|assumption);obtain ⟨ad32, e32, hx32_0, hx32_1, hx32_2, hx32_3, hx32_4, hx32_5, hx32_6, hx32_7, hx32_8, hx32_9, hx32_10, hx32_11⟩ := at_T31 (Kd.R_reads' HO_14.out).2.2 t27 p32 q32;cases e32;replace p32 := eq_true p32;replace q32 := eq_true q32)|(go_at_call 76;(with_reducible refine (admit_Release.calls kj35 _ _ t19 ((rd_T31 t2 (ji14)).f0) 0 0 (wrap64 (((rd_T31 t19 t27).f3.f2) + 1)) t33 t36 _ ?side1 ?side2 A51.out).mono ?_);(case side1 => repeat (first|exact (Kd.R_reads' HO_14.out).2.2|(with_reducible refine Kd.C_alloc ?_ _)|(with_reducible refine Kd.C_drewN ?_ _)|(with_reducible refine Kd.C_drew ?_)));(case side2 => exact (Kd.R_reads' HO_14.out).2.1);rintro e w68 ⟨v34, rfl, ho0, hb⟩;have n0_ := Aside0.mk (Kd.R_elder' (by (with_reducible repeat (first|apply Kd.R_alloc|apply Kd.R_drewN|apply Kd.R_drew));exact HO_9.out) (Kd.R_base ho0) hb);have n1_ := Aside0.mk (Kd.R_elder' (by (with_reducible repeat (first|apply Kd.R_alloc|apply Kd.R_drewN|apply Kd.R_drew));exact HO_14.out) (Kd.R_base ho0) hb);have n2_ := Aside0.mk (Kd.R_elder' (by (with_reducible repeat (first|apply Kd.R_alloc|apply Kd.R_drewN|apply Kd.R_drew));exact HO30.out) (Kd.R_base ho0) hb);have n3_ := Aside0.mk (Kd.R_lower (Kd.R_new' (Kd.R_new' (Kd.R_new' ho0 (Kd.R_lt (by (with_reducible repeat (first|apply Kd.R_alloc|apply Kd.R_drewN|apply Kd.R_drew));exact HO_9.out))) (Kd.R_lt (by (with_reducible repeat (first|apply Kd.R_alloc|apply Kd.R_drewN|apply Kd.R_drew));exact HO_14.out))) (Kd.R_lt (by (with_reducible repeat (first|apply Kd.R_alloc|apply Kd.R_drewN|apply Kd.R_drew));exact HO30.out))) (below_size (by repeat (first|(with_reducible first|exact HB.out|apply below_alloc|apply pw_below_drewN|apply below_drew1|refine below_set ?_ GE7.out)|exact HB.out))));have n4_ := Aside0.mk (blk_below (g := gb7) (o := .cells #[.int .i64 (wrap64 (a2)), .int .i64 (wrap64 (a3)), .int .i64 0] 27 (0, 0)) (by (with_reducible repeat (first|refine blk_drewN ?_ _|refine blk_drew ?_|refine blk_alloc ?_ _));exact BK7.out) hb);have n5_ := Aside0.mk (below_step (by repeat (first|(with_reducible first|exact HB.out|apply below_alloc|apply pw_below_drewN|apply below_drew1|refine below_set ?_ GE7.out)|exact HB.out)) hb);clear HO_9;clear HO_14;clear HO30;clear BK7;clear HB;have HO_9 := n0_;have HO_14 := n1_;have HO30 := n2_;have HO35 := n3_;have BK7 := n4_;have HB := n5_;clear n0_ n1_ n2_ n3_ n4_ n5_;(try clear hb);(try clear hb2);(try clear hk);(try clear hi);(try clear ho0))|(go_at_call 61;(with_reducible refine (law1_Num.calls t31 t37 _ A52.out).mono ?_);rintro e w' ⟨rfl, ⟨nd, rfl⟩⟩;(try first|exact ⟨rfl, _, World.drewN_drewN _ _ _⟩|exact ⟨rfl, _, Eq.trans (World.drewN_drewN _ _ _) (congrArg (World.drewN _) (Nat.add_assoc _ _ _))⟩);obtain ⟨Ao69, co69, eo69⟩ := Kd.R_slice HO30.out;subst eo69)|(go_at_call 62;(with_reducible refine (r10_SameItems.calls kj35 _ _ t28 _ _ t2 true _ ?side1 ?side2 ?side3 ?side4 A54.out).mono ?_);(case side1 => repeat (first|exact (Kd.R_reads' HO30.out).2.2|(with_reducible refine Kd.C_alloc ?_ _)|(with_reducible refine Kd.C_drewN ?_ _)|(with_reducible refine Kd.C_drew ?_)));(case side2 => exact (Kd.R_reads' HO30.out).2.1);(case side3 => repeat (first|exact (Kd.R_reads' HO_9.out).2.2|(with_reducible refine Kd.C_alloc ?_ _)|(with_reducible refine Kd.C_drewN ?_ _)|(with_reducible refine Kd.C_drew ?_)));(case side4 => exact (Kd.R_reads' HO_9.out).2.1);rintro e w' ⟨rfl, ⟨nd, rfl⟩⟩;(try first|exact ⟨rfl, _, World.drewN_drewN _ _ _⟩|exact ⟨rfl, _, Eq.trans (World.drewN_drewN _ _ _) (congrArg (World.drewN _) (Nat.add_assoc _ _ _))⟩))|(go_at_call 61;(with_reducible refine (law1_Num.calls t36 t39 _ A56.out).mono ?_);rintro e w' ⟨rfl, ⟨nd, rfl⟩⟩;(try first|exact ⟨rfl, _, World.drewN_drewN _ _ _⟩|exact ⟨rfl, _, Eq.trans (World.drewN_drewN _ _ _) (congrArg (World.drewN _) (Nat.add_assoc _ _ _))⟩)));try go_wp2_with (first|(go_at_call 50;(with_reducible refine (r10_Find.calls kj35 _ _ t19 ((rd_T31 t2 (ji14)).f0) t27 _ ?side1 ?side2 A45.out).mono ?_);(case side1 => repeat (first|exact (Kd.R_reads' HO_14.out).2.2|(with_reducible refine Kd.C_alloc ?_ _)|(with_reducible refine Kd.C_drewN ?_ _)|(with_reducible refine Kd.C_drew ?_)));(case side2 => exact (Kd.R_reads' HO_14.out).2.1);rintro e w' ⟨rfl, ⟨nd, rfl⟩⟩;(try first|exact ⟨rfl, _, World.drewN_drewN _ _ _⟩|exact ⟨rfl, _, Eq.trans (World.drewN_drewN _ _ _) (congrArg (World.drewN _) (Nat.add_assoc _ _ _))⟩);have hcz66_0 : wc.cell? ⟨gb7, 0, none⟩ = some (.int .i64 (wrap64 (a2))) := (blk_cell BK7.out 0).trans rfl;have hcz66_1 : wc.cell? ⟨gb7, 1, none⟩ = some (.int .i64 (wrap64 (a3))) := (blk_cell BK7.out 1).trans rfl;have hcz66_2 : wc.cell? ⟨gb7, 2, none⟩ = some (.int .i64 0) := (blk_cell BK7.out 2).trans rfl;have hfz66_0 := blk_frozen BK7.out 0;have hfz66_1 := blk_frozen BK7.out 1;have hfz66_2 := blk_frozen BK7.out 2)|(go_at_call 76;(with_reducible refine (admit_Release.calls kj35 _ _ t19 ((rd_T31 t2 (ji14)).f0) (wrap64 (a2)) (wrap64 (a3)) 0 t28 t31 _ ?side1 ?side2 A48.out).mono ?_);(case side1 => repeat (first|exact (Kd.R_reads' HO_14.out).2.2|(with_reducible refine Kd.C_alloc ?_ _)|(with_reducible refine Kd.C_drewN ?_ _)|(with_reducible refine Kd.C_drew ?_)));(case side2 => exact (Kd.R_reads' HO_14.out).2.1);rintro e w67 ⟨v29, rfl, ho0, hb⟩;have n0_ := Aside0.mk (Kd.R_elder' (by (with_reducible repeat (first|apply Kd.R_alloc|apply Kd.R_drewN|apply Kd.R_drew));exact HO_9.out) (Kd.R_base ho0) hb);have n1_ := Aside0.mk (Kd.R_elder' (by (with_reducible repeat (first|apply Kd.R_alloc|apply Kd.R_drewN|apply Kd.R_drew));exact HO_14.out) (Kd.R_base ho0) hb);have n2_ := Aside0.mk (Kd.R_lower (Kd.R_new' (Kd.R_new' ho0 (Kd.R_lt (by (with_reducible repeat (first|apply Kd.R_alloc|apply Kd.R_drewN|apply Kd.R_drew));exact HO_9.out))) (Kd.R_lt (by (with_reducible repeat (first|apply Kd.R_alloc|apply Kd.R_drewN|apply Kd.R_drew));exact HO_14.out))) (below_size (by repeat (first|(with_reducible first|exact HB.out|apply below_alloc|apply pw_below_drewN|apply below_drew1|refine below_set ?_ GE7.out)|exact HB.out))));have n3_ := Aside0.mk (blk_below (g := gb7) (o := .cells #[.int .i64 (wrap64 (a2)), .int .i64 (wrap64 (a3)), .int .i64 0] 27 (0, 0)) (by (with_reducible repeat (first|refine blk_drewN ?_ _|refine blk_drew ?_|refine blk_alloc ?_ _));exact BK7.out) hb);have n4_ := Aside0.mk (below_step (by repeat (first|(with_reducible first|exact HB.out|apply below_alloc|apply pw_below_drewN|apply below_drew1|refine below_set ?_ GE7.out)|exact HB.out)) hb);clear HO_9;clear HO_14;clear BK7;clear HB;have HO_9 := n0_;have HO_14 := n1_;have HO30 := n2_;have BK7 := n3_;have HB := n4_;clear n0_ n1_ n2_ n3_ n4_;(try clear hb);(try clear hb2);(try clear hk);(try clear hi);(try clear ho0);have p32 : 0 ≤ (t27 : Int) := of_decide_eq_true (by first|(with_reducible assumption)|assumption);have q32 : t27 < (t19.length : Int) := of_decide_eq_true (by first|(with_reducible assumption)|assumption);obtain ⟨ad32, e32, hx32_0, hx32_1, hx32_2, hx32_3, hx32_4, hx32_5, hx32_6, hx32_7, hx32_8, hx32_9, hx32_10, hx32_11⟩ := at_T31 (Kd.R_reads' HO_14.out).2.2 t27 p32 q32;cases e32;replace p32 := eq_true p32;replace q32 := eq_true q32)|(go_at_call 76;(with_reducible refine (admit_Release.calls kj35 _ _ t19 ((rd_T31 t2 (ji14)).f0) 0 0 (wrap64 (((rd_T31 t19 t27).f3.f2) + 1)) t33 t36 _ ?side1 ?side2 A51.out).mono ?_);(case side1 => repeat (first|exact (Kd.R_reads' HO_14.out).2.2|(with_reducible refine Kd.C_alloc ?_ _)|(with_reducible refine Kd.C_drewN ?_ _)|(with_reducible refine Kd.C_drew ?_)));(case side2 => exact (Kd.R_reads' HO_14.out).2.1);rintro e w68 ⟨v34, rfl, ho0, hb⟩;have n0_ := Aside0.mk (Kd.R_elder' (by (with_reducible repeat (first|apply Kd.R_alloc|apply Kd.R_drewN|apply Kd.R_drew));exact HO_9.out) (Kd.R_base ho0) hb);have n1_ := Aside0.mk (Kd.R_elder' (by (with_reducible repeat (first|apply Kd.R_alloc|apply Kd.R_drewN|apply Kd.R_drew));exact HO_14.out) (Kd.R_base ho0) hb);have n2_ := Aside0.mk (Kd.R_elder' (by (with_reducible repeat (first|apply Kd.R_alloc|apply Kd.R_drewN|apply Kd.R_drew));exact HO30.out) (Kd.R_base ho0) hb);have n3_ := Aside0.mk (Kd.R_lower (Kd.R_new' (Kd.R_new' (Kd.R_new' ho0 (Kd.R_lt (by (with_reducible repeat (first|apply Kd.R_alloc|apply Kd.R_drewN|apply Kd.R_drew));exact HO_9.out))) (Kd.R_lt (by (with_reducible repeat (first|apply Kd.R_alloc|apply Kd.R_drewN|apply Kd.R_drew));exact HO_14.out))) (Kd.R_lt (by (with_reducible repeat (first|apply Kd.R_alloc|apply Kd.R_drewN|apply Kd.R_drew));exact HO30.out))) (below_size (by repeat (first|(with_reducible first|exact HB.out|apply below_alloc|apply pw_below_drewN|apply below_drew1|refine below_set ?_ GE7.out)|exact HB.out))));have n4_ := Aside0.mk (blk_below (g := gb7) (o := .cells #[.int .i64 (wrap64 (a2)), .int .i64 (wrap64 (a3)), .int .i64 0] 27 (0, 0)) (by (with_reducible repeat (first|refine blk_drewN ?_ _|refine blk_drew ?_|refine blk_alloc ?_ _));exact BK7.out) hb);have n5_ := Aside0.mk (below_step (by repeat (first|(with_reducible first|exact HB.out|apply below_alloc|apply pw_below_drewN|apply below_drew1|refine below_set ?_ GE7.out)|exact HB.out)) hb);clear HO_9;clear HO_14;clear HO30;clear BK7;clear HB;have HO_9 := n0_;have HO_14 := n1_;have HO30 := n2_;have HO35 := n3_;have BK7 := n4_;have HB := n5_;clear n0_ n1_ n2_ n3_ n4_ n5_;(try clear hb);(try clear hb2);(try clear hk);(try clear hi);(try clear ho0))|(go_at_call 61;(with_reducible refine (law1_Num.calls t31 t37 _ A52.out).mono ?_);rintro e w' ⟨rfl, ⟨nd, rfl⟩⟩;(try first|exact ⟨rfl, _, World.drewN_drewN _ _ _⟩|exact ⟨rfl, _, Eq.trans (World.drewN_drewN _ _ _) (congrArg (World.drewN _) (Nat.add_assoc _ _ _))⟩);obtain ⟨Ao69, co69, eo69⟩ := Kd.R_slice HO30.out;subst eo69)|(go_at_call 62;(with_reducible refine (r10_SameItems.calls kj35 _ _ t28 _ _ t2 true _ ?side1 ?side2 ?side3 ?side4 A54.out).mono ?_);(case side1 => repeat (first|exact (Kd.R_reads' HO30.out).2.2|(with_reducible refine Kd.C_alloc ?_ _)|(with_reducible refine Kd.C_drewN ?_ _)|(with_reducible refine Kd.C_drew ?_)));(case side2 => exact (Kd.R_reads' HO30.out).2.1);(case side3 => repeat (first|exact (Kd.R_reads' HO_9.out).2.2|(with_reducible refine Kd.C_alloc ?_ _)|(with_reducible refine Kd.C_drewN ?_ _)|(with_reducible refine Kd.C_drew ?_)));(case side4 => exact (Kd.R_reads' HO_9.out).2.1);rintro e w' ⟨rfl, ⟨nd, rfl⟩⟩;(try first|exact ⟨rfl, _, World.drewN_drewN _ _ _⟩|exact ⟨rfl, _, Eq.trans (World.drewN_drewN _ _ _) (congrArg (World.drewN _) (Nat.add_assoc _ _ _))⟩))|(go_at_call 61;(with_reducible refine (law1_Num.calls t36 t39 _ A56.out).mono ?_);rintro e w' ⟨rfl, ⟨nd, rfl⟩⟩;(try first|exact ⟨rfl, _, World.drewN_drewN _ _ _⟩|exact ⟨rfl, _, Eq.trans (World.drewN_drewN _ _ _) (congrArg (World.drewN _) (Nat.add_assoc _ _ _))⟩))))
                  go_ret
                  exact ⟨by first|rfl|(simp [errW_none, errW_some] <;> rfl)|(simp only [← hji14];first|rfl|(simp [errW_none, errW_some] <;> rfl))|(simp [*, errW_none, errW_some] <;> rfl), by repeat (first|(with_reducible first|exact HB.out|apply below_alloc|apply pw_below_drewN|apply below_drew1|refine below_set ?_ GE7.out)|exact HB.out)⟩
                ·replace c55 := Bool.eq_false_iff.mpr c55
                 subst c55
                 have H1 : (some false) = some r := by rw [if_neg (show ¬ (false = true) by decide)] at H; exact H
                 clear H
                 have H := H1
                 clear H1
                 obtain rfl := Option.some.inj H
                 obtain ⟨Ao70, co70, eo70⟩ := Kd.R_slice HO_14.out
                 subst eo70
                 go_wp2_with (first|(go_at_call 50;(with_reducible refine (r10_Find.calls kj35 _ _ t19 ((rd_T31 t2 (ji14)).f0) t27 _ ?side1 ?side2 A45.out).mono ?_);(case side1 => repeat (first|exact (Kd.R_reads' HO_14.out).2.2|(with_reducible refine Kd.C_alloc ?_ _)|(with_reducible refine Kd.C_drewN ?_ _)|(with_reducible refine Kd.C_drew ?_)));(case side2 => exact (Kd.R_reads' HO_14.out).2.1);rintro e w' ⟨rfl, ⟨nd, rfl⟩⟩;(try first|exact ⟨rfl, _, World.drewN_drewN _ _ _⟩|exact ⟨rfl, _, Eq.trans (World.drewN_drewN _ _ _) (congrArg (World.drewN _) (Nat.add_assoc _ _ _))⟩);have hcz71_0 : wc.cell? ⟨gb7, 0, none⟩ = some (.int .i64 (wrap64 (a2))) := (blk_cell BK7.out 0).trans rfl;have hcz71_1 : wc.cell? ⟨gb7, 1, none⟩ = some (.int .i64 (wrap64 (a3))) := (blk_cell BK7.out 1).trans rfl;have hcz71_2 : wc.cell? ⟨gb7, 2, none⟩ = some (.int .i64 0) := (blk_cell BK7.out 2).trans rfl;have hfz71_0 := blk_frozen BK7.out 0;have hfz71_1 := blk_frozen BK7.out 1;have hfz71_2 := blk_frozen BK7.out 2)|(go_at_call 76;(with_reducible refine (admit_Release.calls kj35 _ _ t19 ((rd_T31 t2 (ji14)).f0) (wrap64 (a2)) (wrap64 (a3)) 0 t28 t31 _ ?side1 ?side2 A48.out).mono ?_);(case side1 => repeat (first|exact (Kd.R_reads' HO_14.out).2.2|(with_reducible refine Kd.C_alloc ?_ _)|(with_reducible refine Kd.C_drewN ?_ _)|(with_reducible refine Kd.C_drew ?_)));(case side2 => exact (Kd.R_reads' HO_14.out).2.1);rintro e w72 ⟨v29, rfl, ho0, hb⟩;have n0_ := Aside0.mk (Kd.R_elder' (by (with_reducible repeat (first|apply Kd.R_alloc|apply Kd.R_drewN|apply Kd.R_drew));exact HO_9.out) (Kd.R_base ho0) hb);have n1_ := Aside0.mk (Kd.R_elder' (by (with_reducible repeat (first|apply Kd.R_alloc|apply Kd.R_drewN|apply Kd.R_drew));exact HO_14.out) (Kd.R_base ho0) hb);have n2_ := Aside0.mk (Kd.R_lower (Kd.R_new' (Kd.R_new' ho0 (Kd.R_lt (by (with_reducible repeat (first|apply Kd.R_alloc|apply Kd.R_drewN|apply Kd.R_drew));exact HO_9.out))) (Kd.R_lt (by (with_reducible repeat (first|apply Kd.R_alloc|apply Kd.R_drewN|apply Kd.R_drew));exact HO_14.out))) (below_size (by repeat (first|(with_reducible first|exact HB.out|apply below_alloc|apply pw_below_drewN|apply below_drew1|refine below_set ?_ GE7.out)|exact HB.out))));have n3_ := Aside0.mk (blk_below (g := gb7) (o := .cells #[.int .i64 (wrap64 (a2)), .int .i64 (wrap64 (a3)), .int .i64 0] 27 (0, 0)) (by (with_reducible repeat (first|refine blk_drewN ?_ _|refine blk_drew ?_|refine blk_alloc ?_ _));exact BK7.out) hb);have n4_ := Aside0.mk (below_step (by repeat (first|(with_reducible first|exact HB.out|apply below_alloc|apply pw_below_drewN|apply below_drew1|refine below_set ?_ GE7.out)|exact HB.out)) hb);clear HO_9;clear HO_14;clear BK7;clear HB;have HO_9 := n0_;have HO_14 := n1_;have HO30 := n2_;have BK7 := n3_;have HB := n4_;clear n0_ n1_ n2_ n3_ n4_;(try clear hb);(try clear hb2);(try clear hk);(try clear hi);(try clear ho0);have p32 : 0 ≤ (t27 : Int) := of_decide_eq_true (by first|(with_reducible assumption)|assumption);have q32 : t27 < (t19.length : Int) := of_decide_eq_true (by first|(with_reducible assumption)|assumption);obtain ⟨ad32, e32, hx32_0, hx32_1, hx32_2, hx32_3, hx32_4, hx32_5, hx32_6, hx32_7, hx32_8, hx32_9, hx32_10, hx32_11⟩ := at_T31 (Kd.R_reads' HO_14.out).2.2 t27 p32 q32;cases e32;replace p32 := eq_true p32;replace q32 := eq_true q32)|(go_at_call 76;(with_reducible refine (admit_Release.calls kj35 _ _ t19 ((rd_T31 t2 (ji14)).f0) 0 0 (wrap64 (((rd_T31 t19 t27).f3.f2) + 1)) t33 t36 _ ?side1 ?side2 A51.out).mono ?_);(case side1 => repeat (first|exact (Kd.R_reads' HO_14.out).2.2|(with_reducible refine Kd.C_alloc ?_ _)|(with_reducible refine Kd.C_drewN ?_ _)|(with_reducible refine Kd.C_drew ?_)));(case side2 => exact (Kd.R_reads' HO_14.out).2.1);rintro e w73 ⟨v34, rfl, ho0, hb⟩;have n0_ := Aside0.mk (Kd.R_elder' (by (with_reducible repeat (first|apply Kd.R_alloc|apply Kd.R_drewN|apply Kd.R_drew));exact HO_9.out) (Kd.R_base ho0) hb);have n1_ := Aside0.mk (Kd.R_elder' (by (with_reducible repeat (first|apply Kd.R_alloc|apply Kd.R_drewN|apply Kd.R_drew));exact HO_14.out) (Kd.R_base ho0) hb);have n2_ := Aside0.mk (Kd.R_elder' (by (with_reducible repeat (first|apply Kd.R_alloc|apply Kd.R_drewN|apply Kd.R_drew));exact HO30.out) (Kd.R_base ho0) hb);have n3_ := Aside0.mk (Kd.R_lower (Kd.R_new' (Kd.R_new' (Kd.R_new' ho0 (Kd.R_lt (by (with_reducible repeat (first|apply Kd.R_alloc|apply Kd.R_drewN|apply Kd.R_drew));exact HO_9.out))) (Kd.R_lt (by (with_reducible repeat (first|apply Kd.R_alloc|apply Kd.R_drewN|apply Kd.R_drew));exact HO_14.out))) (Kd.R_lt (by (with_reducible repeat (first|apply Kd.R_alloc|apply Kd.R_drewN|apply Kd.R_drew));exact HO30.out))) (below_size (by repeat (first|(with_reducible first|exact HB.out|apply below_alloc|apply pw_below_drewN|apply below_drew1|refine below_set ?_ GE7.out)|exact HB.out))));have n4_ := Aside0.mk (blk_below (g := gb7) (o := .cells #[.int .i64 (wrap64 (a2)), .int .i64 (wrap64 (a3)), .int .i64 0] 27 (0, 0)) (by (with_reducible repeat (first|refine blk_drewN ?_ _|refine blk_drew ?_|refine blk_alloc ?_ _));exact BK7.out) hb);have n5_ := Aside0.mk (below_step (by repeat (first|(with_reducible first|exact HB.out|apply below_alloc|apply pw_below_drewN|apply below_drew1|refine below_set ?_ GE7.out)|exact HB.out)) hb);clear HO_9;clear HO_14;clear HO30;clear BK7;clear HB;have HO_9 := n0_;have HO_14 := n1_;have HO30 := n2_;have HO35 := n3_;have BK7 := n4_;have HB := n5_;clear n0_ n1_ n2_ n3_ n4_ n5_;(try clear hb);(try clear hb2);(try clear hk);(try clear hi);(try clear ho0))|(go_at_call 61;(with_reducible refine (law1_Num.calls t31 t37 _ A52.out).mono ?_);rintro e w' ⟨rfl, ⟨nd, rfl⟩⟩;(try first|exact ⟨rfl, _, World.drewN_drewN _ _ _⟩|exact ⟨rfl, _, Eq.trans (World.drewN_drewN _ _ _) (congrArg (World.drewN _) (Nat.add_assoc _ _ _))⟩);obtain ⟨Ao74, co74, eo74⟩ := Kd.R_slice HO30.out;subst eo74)|(go_at_call 62;(with_reducible refine (r10_SameItems.calls kj35 _ _ t28 _ _ t2 false _ ?side1 ?side2 ?side3 ?side4 A54.out).mono ?_);(case side1 => repeat (first|exact (Kd.R_reads' HO30.out).2.2|(with_reducible refine Kd.C_alloc ?_ _)|(with_reducible refine Kd.C_drewN ?_ _)|(with_reducible refine Kd.C_drew ?_)));(case side2 => exact (Kd.R_reads' HO30.out).2.1);(case side3 => repeat (first|exact (Kd.R_reads' HO_9.out).2.2|(with_reducible refine Kd.C_alloc ?_ _)|(with_reducible refine Kd.C_drewN ?_ _)|(with_reducible refine Kd.C_drew ?_)));(case side4 => exact (Kd.R_reads' HO_9.out).2.1);rintro e w' ⟨rfl, ⟨nd, rfl⟩⟩;(try first|exact ⟨rfl, _, World.drewN_drewN _ _ _⟩|exact ⟨rfl, _, Eq.trans (World.drewN_drewN _ _ _) (congrArg (World.drewN _) (Nat.add_assoc _ _ _))⟩)))
                 repeat (go_quiet (first|(go_at_call 50;(with_reducible refine (r10_Find.calls kj35 _ _ t19 ((rd_T31 t2 (ji14)).f0) t27 _ ?side1 ?side2 A45.out).mono ?_);(case side1 => repeat (first|exact (Kd.R_reads' HO_14.out).2.2|(with_reducible refine Kd.C_alloc ?_ _)|(with_reducible refine Kd.C_drewN ?_ _)|(with_reducible refine Kd.C_drew ?_)));(case side2 => exact (Kd.R_reads' HO_14.out).2.1);rintro e w' ⟨rfl, ⟨nd, rfl⟩⟩;(try first|exact ⟨rfl, _, World.drewN_drewN _ _ _⟩|exact ⟨rfl, _, Eq.trans (World.drewN_drewN _ _ _) (congrArg (World.drewN _) (Nat.add_assoc _ _ _))⟩);have hcz71_0 : wc.cell? ⟨gb7, 0, none⟩ = some (.int .i64 (wrap64 (a2))) := (blk_cell BK7.out 0).trans rfl;have hcz71_1 : wc.cell? ⟨gb7, 1, none⟩ = some (.int .i64 (wrap64 (a3))) := (blk_cell BK7.out 1).trans rfl;have hcz71_2 : wc.cell? ⟨gb7, 2, none⟩ = some (.int .i64 0) := (blk_cell BK7.out 2).trans rfl;have hfz71_0 := blk_frozen BK7.out 0;have hfz71_1 := blk_frozen BK7.out 1;have hfz71_2 := blk_frozen BK7.out 2)|(go_at_call 76;(with_reducible refine (admit_Release.calls kj35 _ _ t19 ((rd_T31 t2 (ji14)).f0) (wrap64 (a2)) (wrap64 (a3)) 0 t28 t31 _ ?side1 ?side2 A48.out).mono ?_);(case side1 => repeat (first|exact (Kd.R_reads' HO_14.out).2.2|(with_reducible refine Kd.C_alloc ?_ _)|(with_reducible refine Kd.C_drewN ?_ _)|(with_reducible refine Kd.C_drew ?_)));(case side2 => exact (Kd.R_reads' HO_14.out).2.1);rintro e w72 ⟨v29, rfl, ho0, hb⟩;have n0_ := Aside0.mk (Kd.R_elder' (by (with_reducible repeat (first|apply Kd.R_alloc|apply Kd.R_drewN|apply Kd.R_drew));exact HO_9.out) (Kd.R_base ho0) hb);have n1_ := Aside0.mk (Kd.R_elder' (by (with_reducible repeat (first|apply Kd.R_alloc|apply Kd.R_drewN|apply Kd.R_drew));exact HO_14.out) (Kd.R_base ho0) hb);have n2_ := Aside0.mk (Kd.R_lower (Kd.R_new' (Kd.R_new' ho0 (Kd.R_lt (by (with_reducible repeat (first|apply Kd.R_alloc|apply Kd.R_drewN|apply Kd.R_drew));exact HO_9.out))) (Kd.R_lt (by (with_reducible repeat (first|apply Kd.R_alloc|apply Kd.R_drewN|apply Kd.R_drew));exact HO_14.out))) (below_size (by repeat (first|(with_reducible first|exact HB.out|apply below_alloc|apply pw_below_drewN|apply below_drew1|refine below_set ?_ GE7.out)|exact HB.out))));have n3_ := Aside0.mk (blk_below (g := gb7) (o := .cells #[.int .i64 (wrap64 (a2)), .int .i64 (wrap64 (a3)), .int .i64 0] 27 (0, 0)) (by (with_reducible repeat (first|refine blk_drewN ?_ _|refine blk_drew ?_|refine blk_alloc ?_ _));exact BK7.out) hb);have n4_ := Aside0.mk (below_step (by repeat (first|(with_reducible first|exact HB.out|apply below_alloc|apply pw_below_drewN|apply below_drew1|refine below_set ?_ GE7.out)|exact HB.out)) hb);clear HO_9;clear HO_14;clear BK7;clear HB;have HO_9 := n0_;have HO_14 := n1_;have HO30 := n2_;have BK7 := n3_;have HB := n4_;clear n0_ n1_ n2_ n3_ n4_;(try clear hb);(try clear hb2);(try clear hk);(try clear hi);(try clear ho0);have p32 : 0 ≤ (t27 : Int) := of_decide_eq_true (by first|(with_reducible assumption)|assumption);have q32 : t27 < (t19.length : Int) := of_decide_eq_true (by first|(with_reducible assumption)|assumption);obtain ⟨ad32, e32, hx32_0, hx32_1, hx32_2, hx32_3, hx32_4, hx32_5, hx32_6, hx32_7, hx32_8, hx32_9, hx32_10, hx32_11⟩ := at_T31 (Kd.R_reads' HO_14.out).2.2 t27 p32 q32;cases e32;replace p32 := eq_true p32;replace q32 := eq_true q32)|(go_at_call 76;(with_reducible refine (admit_Release.calls kj35 _ _ t19 ((rd_T31 t2 (ji14)).f0) 0 0 (wrap64 (((rd_T31 t19 t27).f3.f2) + 1)) t33 t36 _ ?side1 ?side2 A51.out).mono ?_);(case side1 => repeat (first|exact (Kd.R_reads' HO_14.out).2.2|(with_reducible refine Kd.C_alloc ?_ _)|(with_reducible refine Kd.C_drewN ?_ _)|(with_reducible refine Kd.C_drew ?_)));(case side2 => exact (Kd.R_reads' HO_14.out).2.1);rintro e w73 ⟨v34, rfl, ho0, hb⟩;have n0_ := Aside0.mk (Kd.R_elder' (by (with_reducible repeat (first|apply Kd.R_alloc|apply Kd.R_drewN|apply Kd.R_drew));exact HO_9.out) (Kd.R_base ho0) hb);have n1_ := Aside0.mk (Kd.R_elder' (by (with_reducible repeat (first|apply Kd.R_alloc|apply Kd.R_drewN|apply Kd.R_drew));exact HO_14.out) (Kd.R_base ho0) hb);have n2_ := Aside0.mk (Kd.R_elder' (by (with_reducible repeat (first|apply Kd.R_alloc|apply Kd.R_drewN|apply Kd.R_drew));exact HO30.out) (Kd.R_base ho0) hb);have n3_ := Aside0.mk (Kd.R_lower (Kd.R_new' (Kd.R_new' (Kd.R_new' ho0 (Kd.R_lt (by (with_reducible repeat (first|apply Kd.R_alloc|apply Kd.R_drewN|apply Kd.R_drew));exact HO_9.out))) (Kd.R_lt (by (with_reducible repeat (first|apply Kd.R_alloc|apply Kd.R_drewN|apply Kd.R_drew));exact HO_14.out))) (Kd.R_lt (by (with_reducible repeat (first|apply Kd.R_alloc|apply Kd.R_drewN|apply Kd.R_drew));exact HO30.out))) (below_size (by repeat (first|(with_reducible first|exact HB.out|apply below_alloc|apply pw_below_drewN|apply below_drew1|refine below_set ?_ GE7.out)|exact HB.out))));have n4_ := Aside0.mk (blk_below (g := gb7) (o := .cells #[.int .i64 (wrap64 (a2)), .int .i64 (wrap64 (a3)), .int .i64 0] 27 (0, 0)) (by (with_reducible repeat (first|refine blk_drewN ?_ _|refine blk_drew ?_|refine blk_alloc ?_ _));exact BK7.out) hb);have n5_ := Aside0.mk (below_step (by repeat (first|(with_reducible first|exact HB.out|apply below_alloc|apply pw_below_drewN|apply below_drew1|refine below_set ?_ GE7.out)|exact HB.out)) hb);clear HO_9;clear HO_14;clear HO30;clear BK7;clear HB;have HO_9 := n0_;have HO_14 := n1_;have HO30 := n2_;have HO35 := n3_;have BK7 := n4_;have HB := n5_;clear n0_ n1_ n2_ n3_ n4_ n5_;(try clear hb);(try clear hb2);(try clear hk);(try clear hi);(try clear ho0))|(go_at_call 61;(with_reducible refine (law1_Num.calls t31 t37 _ A52.out).mono ?_);rintro e w' ⟨rfl, ⟨nd, rfl⟩⟩;(try first|exact ⟨rfl, _, World.drewN_drewN _ _ _⟩|exact ⟨rfl, _, Eq.trans (World.drewN_drewN _ _ _) (congrArg (World.drewN _) (Nat.add_assoc _ _ _))⟩);obtain ⟨Ao74, co74, eo74⟩ := Kd.R_slice HO30.out;subst eo74)|(go_at_call 62;(with_reducible refine (r10_SameItems.calls kj35 _ _ t28 _ _ t2 false _ ?side1 ?side2 ?side3 ?side4 A54.out).mono ?_);(case side1 => repeat (first|exact (Kd.R_reads' HO30.out).2.2|(with_reducible refine Kd.C_alloc ?_ _)|(with_reducible refine Kd.C_drewN ?_ _)|(with_reducible refine Kd.C_drew ?_)));(case side2 => exact (Kd.R_reads' HO30.out).2.1);(case side3 => repeat (first|exact (Kd.R_reads' HO_9.out).2.2|(with_reducible refine Kd.C_alloc ?_ _)|(with_reducible refine Kd.C_drewN ?_ _)|(with_reducible refine Kd.C_drew ?_)));(case side4 => exact (Kd.R_reads' HO_9.out).2.1);rintro e w' ⟨rfl, ⟨nd, rfl⟩⟩;(try first|exact ⟨rfl, _, World.drewN_drewN _ _ _⟩|exact ⟨rfl, _, Eq.trans (World.drewN_drewN _ _ _) (congrArg (World.drewN _) (Nat.add_assoc _ _ _))⟩)));try go_wp2_with (first|(go_at_call 50;(with_reducible refine (r10_Find.calls kj35 _ _ t19 ((rd_T31 t2 (ji14)).f0) t27 _ ?side1 ?side2 A45.out).mono ?_);(case side1 => repeat (first|exact (Kd.R_reads' HO_14.out).2.2|(with_reducible refine Kd.C_alloc ?_ _)|(with_reducible refine Kd.C_drewN ?_ _)|(with_reducible refine Kd.C_drew ?_)));(case side2 => exact (Kd.R_reads' HO_14.out).2.1);rintro e w' ⟨rfl, ⟨nd, rfl⟩⟩;(try first|exact ⟨rfl, _, World.drewN_drewN _ _ _⟩|exact ⟨rfl, _, Eq.trans (World.drewN_drewN _ _ _) (congrArg (World.drewN _) (Nat.add_assoc _ _ _))⟩);have hcz71_0 : wc.cell? ⟨gb7, 0, none⟩ = some (.int .i64 (wrap64 (a2))) := (blk_cell BK7.out 0).trans rfl;have hcz71_1 : wc.cell? ⟨gb7, 1, none⟩ = some (.int .i64 (wrap64 (a3))) := (blk_cell BK7.out 1).trans rfl;have hcz71_2 : wc.cell? ⟨gb7, 2, none⟩ = some (.int .i64 0) := (blk_cell BK7.out 2).trans rfl;have hfz71_0 := blk_frozen BK7.out 0;have hfz71_1 := blk_frozen BK7.out 1;have hfz71_2 := blk_frozen BK7.out 2)|(go_at_call 76;(with_reducible refine (admit_Release.calls kj35 _ _ t19 ((rd_T31 t2 (ji14)).f0) (wrap64 (a2)) (wrap64 (a3)) 0 t28 t31 _ ?side1 ?side2 A48.out).mono ?_);(case side1 => repeat (first|exact (Kd.R_reads' HO_14.out).2.2|(with_reducible refine Kd.C_alloc ?_ _)|(with_reducible refine Kd.C_drewN ?_ _)|(with_reducible refine Kd.C_drew ?_)));(case side2 => exact (Kd.R_reads' HO_14.out).2.1);rintro e w72 ⟨v29, rfl, ho0, hb⟩;have n0_ := Aside0.mk (Kd.R_elder' (by (with_reducible repeat (first|apply Kd.R_alloc|apply Kd.R_drewN|apply Kd.R_drew));exact HO_9.out) (Kd.R_base ho0) hb);have n1_ := Aside0.mk (Kd.R_elder' (by (with_reducible repeat (first|apply Kd.R_alloc|apply Kd.R_drewN|apply Kd.R_drew));exact HO_14.out) (Kd.R_base ho0) hb);have n2_ := Aside0.mk (Kd.R_lower (Kd.R_new' (Kd.R_new' ho0 (Kd.R_lt (by (with_reducible repeat (first|apply Kd.R_alloc|apply Kd.R_drewN|apply Kd.R_drew));exact HO_9.out))) (Kd.R_lt (by (with_reducible repeat (first|apply Kd.R_alloc|apply Kd.R_drewN|apply Kd.R_drew));exact HO_14.out))) (below_size (by repeat (first|(with_reducible first|exact HB.out|apply below_alloc|apply pw_below_drewN|apply below_drew1|refine below_set ?_ GE7.out)|exact HB.out))));have n3_ := Aside0.mk (blk_below (g := gb7) (o := .cells #[.int .i64 (wrap64 (a2)), .int .i64 (wrap64 (a3)), .int .i64 0] 27 (0, 0)) (by (with_reducible repeat (first|refine blk_drewN ?_ _|refine blk_drew ?_|refine blk_alloc ?_ _));exact BK7.out) hb);have n4_ := Aside0.mk (below_step (by repeat (first|(with_reducible first|exact HB.out|apply below_alloc|apply pw_below_drewN|apply below_drew1|refine below_set ?_ GE7.out)|exact HB.out)) hb);clear HO_9;clear HO_14;clear BK7;clear HB;have HO_9 := n0_;have HO_14 := n1_;have HO30 := n2_;have BK7 := n3_;have HB := n4_;clear n0_ n1_ n2_ n3_ n4_;(try clear hb);(try clear hb2);(try clear hk);(try clear hi);(try clear ho0);have p32 : 0 ≤ (t27 : Int) := of_decide_eq_true (by first|(with_reducible assumption)|assumption);have q32 : t27 < (t19.length : Int) := of_decide_eq_true (by first|(with_reducible assumption)|assumption);obtain ⟨ad32, e32, hx32_0, hx32_1, hx32_2, hx32_3, hx32_4, hx32_5, hx32_6, hx32_7, hx32_8, hx32_9, hx32_10, hx32_11⟩ := at_T31 (Kd.R_reads' HO_14.out).2.2 t27 p32 q32;cases e32;replace p32 := eq_true p32;replace q32 := eq_true q32)|(go_at_call 76;(with_reducible refine (admit_Release.calls kj35 _ _ t19 ((rd_T31 t2 (ji14)).f0) 0 0 (wrap64 (((rd_T31 t19 t27).f3.f2) + 1)) t33 t36 _ ?side1 ?side2 A51.out).mono ?_);(case side1 => repeat (first|exact (Kd.R_reads' HO_14.out).2.2|(with_reducible refine Kd.C_alloc ?_ _)|(with_reducible refine Kd.C_drewN ?_ _)|(with_reducible refine Kd.C_drew ?_)));(case side2 => exact (Kd.R_reads' HO_14.out).2.1);rintro e w73 ⟨v34, rfl, ho0, hb⟩;have n0_ := Aside0.mk (Kd.R_elder' (by (with_reducible repeat (first|apply Kd.R_alloc|apply Kd.R_drewN|apply Kd.R_drew));exact HO_9.out) (Kd.R_base ho0) hb);have n1_ := Aside0.mk (Kd.R_elder' (by (with_reducible repeat (first|apply Kd.R_alloc|apply Kd.R_drewN|apply Kd.R_drew));exact HO_14.out) (Kd.R_base ho0) hb);have n2_ := Aside0.mk (Kd.R_elder' (by (with_reducible repeat (first|apply Kd.R_alloc|apply Kd.R_drewN|apply Kd.R_drew));exact HO30.out) (Kd.R_base ho0) hb);have n3_ := Aside0.mk (Kd.R_lower (Kd.R_new' (Kd.R_new' (Kd.R_new' ho0 (Kd.R_lt (by (with_reducible repeat (first|apply Kd.R_alloc|apply Kd.R_drewN|apply Kd.R_drew));exact HO_9.out))) (Kd.R_lt (by (with_reducible repeat (first|apply Kd.R_alloc|apply Kd.R_drewN|apply Kd.R_drew));exact HO_14.out))) (Kd.R_lt (by (with_reducible repeat (first|apply Kd.R_alloc|apply Kd.R_drewN|apply Kd.R_drew));exact HO30.out))) (below_size (by repeat (first|(with_reducible first|exact HB.out|apply below_alloc|apply pw_below_drewN|apply below_drew1|refine below_set ?_ GE7.out)|exact HB.out))));have n4_ := Aside0.mk (blk_below (g := gb7) (o := .cells #[.int .i64 (wrap64 (a2)), .int .i64 (wrap64 (a3)), .int .i64 0] 27 (0, 0)) (by (with_reducible repeat (first|refine blk_drewN ?_ _|refine blk_drew ?_|refine blk_alloc ?_ _));exact BK7.out) hb);have n5_ := Aside0.mk (below_step (by repeat (first|(with_reducible first|exact HB.out|apply below_alloc|apply pw_below_drewN|apply below_drew1|refine below_set ?_ GE7.out)|exact HB.out)) hb);clear HO_9;clear HO_14;clear HO30;clear BK7;clear HB;have HO_9 := n0_;have HO_14 := n1_;have HO30 := n2_;have HO35 := n3_;have BK7 := n4_;have HB := n5_;clear n0_ n1_ n2_ n3_ n4_ n5_;(try clear hb);(try clear hb2);(try clear hk);(try clear hi);(try clear ho0))|(go_at_call 61;(with_reducible refine (law1_Num.calls t31 t37 _ A52.out).mono ?_);rintro e w' ⟨rfl, ⟨nd, rfl⟩⟩;(try first|exact ⟨rfl, _, World.drewN_drewN _ _ _⟩|exact ⟨rfl, _, Eq.trans (World.drewN_drewN _ _ _) (congrArg (World.drewN _) (Nat.add_assoc _ _ _))⟩);obtain ⟨Ao74, co74, eo74⟩ := Kd.R_slice HO30.out;subst eo74)|(go_at_call 62;(with_reducible refine (r10_SameItems.calls kj35 _ _ t28 _ _ t2 false _ ?side1 ?side2 ?side3 ?side4 A54.out).mono ?_);(case side1 => repeat (first|exact (Kd.R_reads' HO30.out).2.2|(with_reducible refine Kd.C_alloc ?_ _)|(with_reducible refine Kd.C_drewN ?_ _)|(with_reducible refine Kd.C_drew ?_)));(case side2 => exact (Kd.R_reads' HO30.out).2.1);(case side3 => repeat (first|exact (Kd.R_reads' HO_9.out).2.2|(with_reducible refine Kd.C_alloc ?_ _)|(with_reducible refine Kd.C_drewN ?_ _)|(with_reducible refine Kd.C_drew ?_)));(case side4 => exact (Kd.R_reads' HO_9.out).2.1);rintro e w' ⟨rfl, ⟨nd, rfl⟩⟩;(try first|exact ⟨rfl, _, World.drewN_drewN _ _ _⟩|exact ⟨rfl, _, Eq.trans (World.drewN_drewN _ _ _) (congrArg (World.drewN _) (Nat.add_assoc _ _ _))⟩))))
                 go_ret
                 exact ⟨by first|rfl|(simp [errW_none, errW_some] <;> rfl)|(simp only [← hji14];first|rfl|(simp [errW_none, errW_some] <;> rfl))|(simp [*, errW_none, errW_some] <;> rfl), by repeat (first|(with_reducible first|exact HB.out|apply below_alloc|apply pw_below_drewN|apply below_drew1|refine below_set ?_ GE7.out)|exact HB.out)⟩
               ·rw [if_neg c53] at H
                have c53b0 : (t37 == 0) = false := beq_eq_false_iff_ne.mpr c53
                have c53b1 : (t37 != 0) = true := bne_iff_ne.mpr c53
                obtain rfl := Option.some.inj H
                obtain ⟨Ao75, co75, eo75⟩ := Kd.R_slice HO_14.out
                subst eo75
                go_wp2_with (first|(go_at_call 50;(with_reducible refine (r10_Find.calls kj35 _ _ t19 ((rd_T31 t2 (ji14)).f0) t27 _ ?side1 ?side2 A45.out).mono ?_);(case side1 => repeat (first|exact (Kd.R_reads' HO_14.out).2.2|(with_reducible refine Kd.C_alloc ?_ _)|(with_reducible refine Kd.C_drewN ?_ _)|(with_reducible refine Kd.C_drew ?_)));(case side2 => exact (Kd.R_reads' HO_14.out).2.1);rintro e w' ⟨rfl, ⟨nd, rfl⟩⟩;(try first|exact ⟨rfl, _, World.drewN_drewN _ _ _⟩|exact ⟨rfl, _, Eq.trans (World.drewN_drewN _ _ _) (congrArg (World.drewN _) (Nat.add_assoc _ _ _))⟩);have hcz76_0 : wc.cell? ⟨gb7, 0, none⟩ = some (.int .i64 (wrap64 (a2))) := (blk_cell BK7.out 0).trans rfl;have hcz76_1 : wc.cell? ⟨gb7, 1, none⟩ = some (.int .i64 (wrap64 (a3))) := (blk_cell BK7.out 1).trans rfl;have hcz76_2 : wc.cell? ⟨gb7, 2, none⟩ = some (.int .i64 0) := (blk_cell BK7.out 2).trans rfl;have hfz76_0 := blk_frozen BK7.out 0;have hfz76_1 := blk_frozen BK7.out 1;have hfz76_2 := blk_frozen BK7.out 2)|(go_at_call 76;(with_reducible refine (admit_Release.calls kj35 _ _ t19 ((rd_T31 t2 (ji14)).f0) (wrap64 (a2)) (wrap64 (a3)) 0 t28 t31 _ ?side1 ?side2 A48.out).mono ?_);(case side1 => repeat (first|exact (Kd.R_reads' HO_14.out).2.2|(with_reducible refine Kd.C_alloc ?_ _)|(with_reducible refine Kd.C_drewN ?_ _)|(with_reducible refine Kd.C_drew ?_)));(case side2 => exact (Kd.R_reads' HO_14.out).2.1);rintro e w77 ⟨v29, rfl, ho0, hb⟩;have n0_ := Aside0.mk (Kd.R_elder' (by (with_reducible repeat (first|apply Kd.R_alloc|apply Kd.R_drewN|apply Kd.R_drew));exact HO_9.out) (Kd.R_base ho0) hb);have n1_ := Aside0.mk (Kd.R_elder' (by (with_reducible repeat (first|apply Kd.R_alloc|apply Kd.R_drewN|apply Kd.R_drew));exact HO_14.out) (Kd.R_base ho0) hb);have n2_ := Aside0.mk (Kd.R_lower (Kd.R_new' (Kd.R_new' ho0 (Kd.R_lt (by (with_reducible repeat (first|apply Kd.R_alloc|apply Kd.R_drewN|apply Kd.R_drew));exact HO_9.out))) (Kd.R_lt (by (with_reducible repeat (first|apply Kd.R_alloc|apply Kd.R_drewN|apply Kd.R_drew));exact HO_14.out))) (below_size (by repeat (first|(with_reducible first|exact HB.out|apply below_alloc|apply pw_below_drewN|apply below_drew1|refine below_set ?_ GE7.out)|exact HB.out))));have n3_ := Aside0.mk (blk_below (g := gb7) (o := .cells #[.int .i64 (wrap64 (a2)), .int .i64 (wrap64 (a3)), .int .i64 0] 27 (0, 0)) (by (with_reducible repeat (first|refine blk_drewN ?_ _|refine blk_drew ?_|refine blk_alloc ?_ _));exact BK7.out) hb);have n4_ := Aside0.mk (below_step (by repeat (first|(with_reducible first|exact HB.out|apply below_alloc|apply pw_below_drewN|apply below_drew1|refine below_set ?_ GE7.out)|exact HB.out)) hb);clear HO_9;clear HO_14;clear BK7;clear HB;have HO_9 := n0_;have HO_14 := n1_;have HO30 := n2_;have BK7 := n3_;have HB := n4_;clear n0_ n1_ n2_ n3_ n4_;(try clear hb);(try clear hb2);(try clear hk);(try clear hi);(try clear ho0);have p32 : 0 ≤ (t27 : Int) := of_decide_eq_true (by first|(with_reducible assumption)|assumption);have q32 : t27 < (t19.length : Int) := of_decide_eq_true (by first|(with_reducible assumption)|assumption);obtain ⟨ad32, e32, hx32_0, hx32_1, hx32_2, hx32_3, hx32_4, hx32_5, hx32_6, hx32_7, hx32_8, hx32_9, hx32_10, hx32_11⟩ := at_T31 (Kd.R_reads' HO_14.out).2.2 t27 p32 q32;cases e32;replace p32 := eq_true p32;replace q32 := eq_true q32)|(go_at_call 76;(with_reducible refine (admit_Release.calls kj35 _ _ t19 ((rd_T31 t2 (ji14)).f0) 0 0 (wrap64 (((rd_T31 t19 t27).f3.f2) + 1)) t33 t36 _ ?side1 ?side2 A51.out).mono ?_);(case side1 => repeat (first|exact (Kd.R_reads' HO_14.out).2.2|(with_reducible refine Kd.C_alloc ?_ _)|(with_reducible refine Kd.C_drewN ?_ _)|(with_reducible refine Kd.C_drew ?_)));(case side2 => exact (Kd.R_reads' HO_14.out).2.1);rintro e w78 ⟨v34, rfl, ho0, hb⟩;have n0_ := Aside0.mk (Kd.R_elder' (by (with_reducible repeat (first|apply Kd.R_alloc|apply Kd.R_drewN|apply Kd.R_drew));exact HO_9.out) (Kd.R_base ho0) hb);have n1_ := Aside0.mk (Kd.R_elder' (by (with_reducible repeat (first|apply Kd.R_alloc|apply Kd.R_drewN|apply Kd.R_drew));exact HO_14.out) (Kd.R_base ho0) hb);have n2_ := Aside0.mk (Kd.R_elder' (by (with_reducible repeat (first|apply Kd.R_alloc|apply Kd.R_drewN|apply Kd.R_drew));exact HO30.out) (Kd.R_base ho0) hb);have n3_ := Aside0.mk (Kd.R_lower (Kd.R_new' (Kd.R_new' (Kd.R_new' ho0 (Kd.R_lt (by (with_reducible repeat (first|apply Kd.R_alloc|apply Kd.R_drewN|apply Kd.R_drew));exact HO_9.out))) (Kd.R_lt (by (with_reducible repeat (first|apply Kd.R_alloc|apply Kd.R_drewN|apply Kd.R_drew));exact HO_14.out))) (Kd.R_lt (by (with_reducible repeat (first|apply Kd.R_alloc|apply Kd.R_drewN|apply Kd.R_drew));exact HO30.out))) (below_size (by repeat (first|(with_reducible first|exact HB.out|apply below_alloc|apply pw_below_drewN|apply below_drew1|refine below_set ?_ GE7.out)|exact HB.out))));have n4_ := Aside0.mk (blk_below (g := gb7) (o := .cells #[.int .i64 (wrap64 (a2)), .int .i64 (wrap64 (a3)), .int .i64 0] 27 (0, 0)) (by (with_reducible repeat (first|refine blk_drewN ?_ _|refine blk_drew ?_|refine blk_alloc ?_ _));exact BK7.out) hb);have n5_ := Aside0.mk (below_step (by repeat (first|(with_reducible first|exact HB.out|apply below_alloc|apply pw_below_drewN|apply below_drew1|refine below_set ?_ GE7.out)|exact HB.out)) hb);clear HO_9;clear HO_14;clear HO30;clear BK7;clear HB;have HO_9 := n0_;have HO_14 := n1_;have HO30 := n2_;have HO35 := n3_;have BK7 := n4_;have HB := n5_;clear n0_ n1_ n2_ n3_ n4_ n5_;(try clear hb);(try clear hb2);(try clear hk);(try clear hi);(try clear ho0))|(go_at_call 61;(with_reducible refine (law1_Num.calls t31 t37 _ A52.out).mono ?_);rintro e w' ⟨rfl, ⟨nd, rfl⟩⟩;(try first|exact ⟨rfl, _, World.drewN_drewN _ _ _⟩|exact ⟨rfl, _, Eq.trans (World.drewN_drewN _ _ _) (congrArg (World.drewN _) (Nat.add_assoc _ _ _))⟩)))
                repeat (go_quiet (first|(go_at_call 50;(with_reducible refine (r10_Find.calls kj35 _ _ t19 ((rd_T31 t2 (ji14)).f0) t27 _ ?side1 ?side2 A45.out).mono ?_);(case side1 => repeat (first|exact (Kd.R_reads' HO_14.out).2.2|(with_reducible refine Kd.C_alloc ?_ _)|(with_reducible refine Kd.C_drewN ?_ _)|(with_reducible refine Kd.C_drew ?_)));(case side2 => exact (Kd.R_reads' HO_14.out).2.1);rintro e w' ⟨rfl, ⟨nd, rfl⟩⟩;(try first|exact ⟨rfl, _, World.drewN_drewN _ _ _⟩|exact ⟨rfl, _, Eq.trans (World.drewN_drewN _ _ _) (congrArg (World.drewN _) (Nat.add_assoc _ _ _))⟩);have hcz76_0 : wc.cell? ⟨gb7, 0, none⟩ = some (.int .i64 (wrap64 (a2))) := (blk_cell BK7.out 0).trans rfl;have hcz76_1 : wc.cell? ⟨gb7, 1, none⟩ = some (.int .i64 (wrap64 (a3))) := (blk_cell BK7.out 1).trans rfl;have hcz76_2 : wc.cell? ⟨gb7, 2, none⟩ = some (.int .i64 0) := (blk_cell BK7.out 2).trans rfl;have hfz76_0 := blk_frozen BK7.out 0;have hfz76_1 := blk_frozen BK7.out 1;have hfz76_2 := blk_frozen BK7.out 2)|(go_at_call 76;(with_reducible refine (admit_Release.calls kj35 _ _ t19 ((rd_T31 t2 (ji14)).f0) (wrap64 (a2)) (wrap64 (a3)) 0 t28 t31 _ ?side1 ?side2 A48.out).mono ?_);(case side1 => repeat (first|exact (Kd.R_reads' HO_14.out).2.2|(with_reducible refine Kd.C_alloc ?_ _)|(with_reducible refine Kd.C_drewN ?_ _)|(with_reducible refine Kd.C_drew ?_)));(case side2 => exact (Kd.R_reads' HO_14.out).2.1);rintro e w77 ⟨v29, rfl, ho0, hb⟩;have n0_ := Aside0.mk (Kd.R_elder' (by (with_reducible repeat (first|apply Kd.R_alloc|apply Kd.R_drewN|apply Kd.R_drew));exact HO_9.out) (Kd.R_base ho0) hb);have n1_ := Aside0.mk (Kd.R_elder' (by (with_reducible repeat (first|apply Kd.R_alloc|apply Kd.R_drewN|apply Kd.R_drew));exact HO_14.out) (Kd.R_base ho0) hb);have n2_ := Aside0.mk (Kd.R_lower (Kd.R_new' (Kd.R_new' ho0 (Kd.R_lt (by (with_reducible repeat (first|apply Kd.R_alloc|apply Kd.R_drewN|apply Kd.R_drew));exact HO_9.out))) (Kd.R_lt (by (with_reducible repeat (first|apply Kd.R_alloc|apply Kd.R_drewN|apply Kd.R_drew));exact HO_14.out))) (below_size (by repeat (first|(with_reducible first|exact HB.out|apply below_alloc|apply pw_below_drewN|apply below_drew1|refine below_set ?_ GE7.out)|exact HB.out))));have n3_ := Aside0.mk (blk_below (g := gb7) (o := .cells #[.int .i64 (wrap64 (a2)), .int .i64 (wrap64 (a3)), .int .i64 0] 27 (0, 0)) (by (with_reducible repeat (first|refine blk_drewN ?_ _|refine blk_drew ?_|refine blk_alloc ?_ _));exact BK7.out) hb);have n4_ := Aside0.mk (below_step (by repeat (first|(with_reducible first|exact HB.out|apply below_alloc|apply pw_below_drewN|apply below_drew1|refine below_set ?_ GE7.out)|exact HB.out)) hb);clear HO_9;clear HO_14;clear BK7;clear HB;have HO_9 := n0_;have HO_14 := n1_;have HO30 := n2_;have BK7 := n3_;have HB := n4_;clear n0_ n1_ n2_ n3_ n4_;(try clear hb);(try clear hb2);(try clear hk);(try clear hi);(try clear ho0);have p32 : 0 ≤ (t27 : Int) := of_decide_eq_true (by first|(with_reducible assumption)|assumption);have q32 : t27 < (t19.length : Int) := of_decide_eq_true (by first|(with_reducible assumption)|assumption);obtain ⟨ad32, e32, hx32_0, hx32_1, hx32_2, hx32_3, hx32_4, hx32_5, hx32_6, hx32_7, hx32_8, hx32_9, hx32_10, hx32_11⟩ := at_T31 (Kd.R_reads' HO_14.out).2.2 t27 p32 q32;cases e32;replace p32 := eq_true p32;replace q32 := eq_true q32)|(go_at_call 76;(with_reducible refine (admit_Release.calls kj35 _ _ t19 ((rd_T31 t2 (ji14)).f0) 0 0 (wrap64 (((rd_T31 t19 t27).f3.f2) + 1)) t33 t36 _ ?side1 ?side2 A51.out).mono ?_);(case side1 => repeat (first|exact (Kd.R_reads' HO_14.out).2.2|(with_reducible refine Kd.C_alloc ?_ _)|(with_reducible refine Kd.C_drewN ?_ _)|(with_reducible refine Kd.C_drew ?_)));(case side2 => exact (Kd.R_reads' HO_14.out).2.1);rintro e w78 ⟨v34, rfl, ho0, hb⟩;have n0_ := Aside0.mk (Kd.R_elder' (by (with_reducible repeat (first|apply Kd.R_alloc|apply Kd.R_drewN|apply Kd.R_drew));exact HO_9.out) (Kd.R_base ho0) hb);have n1_ := Aside0.mk (Kd.R_elder' (by (with_reducible repeat (first|apply Kd.R_alloc|apply Kd.R_drewN|apply Kd.R_drew));exact HO_14.out) (Kd.R_base ho0) hb);have n2_ := Aside0.mk (Kd.R_elder' (by (with_reducible repeat (first|apply Kd.R_alloc|apply Kd.R_drewN|apply Kd.R_drew));exact HO30.out) (Kd.R_base ho0) hb);have n3_ := Aside0.mk (Kd.R_lower (Kd.R_new' (Kd.R_new' (Kd.R_new' ho0 (Kd.R_lt (by (with_reducible repeat (first|apply Kd.R_alloc|apply Kd.R_drewN|apply Kd.R_drew));exact HO_9.out))) (Kd.R_lt (by (with_reducible repeat (first|apply Kd.R_alloc|apply Kd.R_drewN|apply Kd.R_drew));exact HO_14.out))) (Kd.R_lt (by (with_reducible repeat (first|apply Kd.R_alloc|apply Kd.R_drewN|apply Kd.R_drew));exact HO30.out))) (below_size (by repeat (first|(with_reducible first|exact HB.out|apply below_alloc|apply pw_below_drewN|apply below_drew1|refine below_set ?_ GE7.out)|exact HB.out))));have n4_ := Aside0.mk (blk_below (g := gb7) (o := .cells #[.int .i64 (wrap64 (a2)), .int .i64 (wrap64 (a3)), .int .i64 0] 27 (0, 0)) (by (with_reducible repeat (first|refine blk_drewN ?_ _|refine blk_drew ?_|refine blk_alloc ?_ _));exact BK7.out) hb);have n5_ := Aside0.mk (below_step (by repeat (first|(with_reducible first|exact HB.out|apply below_alloc|apply pw_below_drewN|apply below_drew1|refine below_set ?_ GE7.out)|exact HB.out)) hb);clear HO_9;clear HO_14;clear HO30;clear BK7;clear HB;have HO_9 := n0_;have HO_14 := n1_;have HO30 := n2_;have HO35 := n3_;have BK7 := n4_;have HB := n5_;clear n0_ n1_ n2_ n3_ n4_ n5_;(try clear hb);(try clear hb2);(try clear hk);(try clear hi);(try clear ho0))|(go_at_call 61;(with_reducible refine (law1_Num.calls t31 t37 _ A52.out).mono ?_);rintro e w' ⟨rfl, ⟨nd, rfl⟩⟩;(try first|exact ⟨rfl, _, World.drewN_drewN _ _ _⟩|exact ⟨rfl, _, Eq.trans (World.drewN_drewN _ _ _) (congrArg (World.drewN _) (Nat.add_assoc _ _ _))⟩)));try go_wp2_with (first|(go_at_call 50;(with_reducible refine (r10_Find.calls kj35 _ _ t19 ((rd_T31 t2 (ji14)).f0) t27 _ ?side1 ?side2 A45.out).mono ?_);(case side1 => repeat (first|exact (Kd.R_reads' HO_14.out).2.2|(with_reducible refine Kd.C_alloc ?_ _)|(with_reducible refine Kd.C_drewN ?_ _)|(with_reducible refine Kd.C_drew ?_)));(case side2 => exact (Kd.R_reads' HO_14.out).2.1);rintro e w' ⟨rfl, ⟨nd, rfl⟩⟩;(try first|exact ⟨rfl, _, World.drewN_drewN _ _ _⟩|exact ⟨rfl, _, Eq.trans (World.drewN_drewN _ _ _) (congrArg (World.drewN _) (Nat.add_assoc _ _ _))⟩);have hcz76_0 : wc.cell? ⟨gb7, 0, none⟩ = some (.int .i64 (wrap64 (a2))) := (blk_cell BK7.out 0).trans rfl;have hcz76_1 : wc.cell? ⟨gb7, 1, none⟩ = some (.int .i64 (wrap64 (a3))) := (blk_cell BK7.out 1).trans rfl;have hcz76_2 : wc.cell? ⟨gb7, 2, none⟩ = some (.int .i64 0) := (blk_cell BK7.out 2).trans rfl;have hfz76_0 := blk_frozen BK7.out 0;have hfz76_1 := blk_frozen BK7.out 1;have hfz76_2 := blk_frozen BK7.out 2)|(go_at_call 76;(with_reducible refine (admit_Release.calls kj35 _ _ t19 ((rd_T31 t2 (ji14)).f0) (wrap64 (a2)) (wrap64 (a3)) 0 t28 t31 _ ?side1 ?side2 A48.out).mono ?_);(case side1 => repeat (first|exact (Kd.R_reads' HO_14.out).2.2|(with_reducible refine Kd.C_alloc ?_ _)|(with_reducible refine Kd.C_drewN ?_ _)|(with_reducible refine Kd.C_drew ?_)));(case side2 => exact (Kd.R_reads' HO_14.out).2.1);rintro e w77 ⟨v29, rfl, ho0, hb⟩;have n0_ := Aside0.mk (Kd.R_elder' (by (with_reducible repeat (first|apply Kd.R_alloc|apply Kd.R_drewN|apply Kd.R_drew));exact HO_9.out) (Kd.R_base ho0) hb);have n1_ := Aside0.mk (Kd.R_elder' (by (with_reducible repeat (first|apply Kd.R_alloc|apply Kd.R_drewN|apply Kd.R_drew));exact HO_14.out) (Kd.R_base ho0) hb);have n2_ := Aside0.mk (Kd.R_lower (Kd.R_new' (Kd.R_new' ho0 (Kd.R_lt (by (with_reducible repeat (first|apply Kd.R_alloc|apply Kd.R_drewN|apply Kd.R_drew));exact HO_9.out))) (Kd.R_lt (by (with_reducible repeat (first|apply Kd.R_alloc|apply Kd.R_drewN|apply Kd.R_drew));exact HO_14.out))) (below_size (by repeat (first|(with_reducible first|exact HB.out|apply below_alloc|apply pw_below_drewN|apply below_drew1|refine below_set ?_ GE7.out)|exact HB.out))));have n3_ := Aside0.mk (blk_below (g := gb7) (o := .cells #[.int .i64 (wrap64 (a2)), .int .i64 (wrap64 (a3)), .int .i64 0] 27 (0, 0)) (by (with_reducible repeat (first|refine blk_drewN ?_ _|refine blk_drew ?_|refine blk_alloc ?_ _));exact BK7.out) hb);have n4_ := Aside0.mk (below_step (by repeat (first|(with_reducible first|exact HB.out|apply below_alloc|apply pw_below_drewN|apply below_drew1|refine below_set ?_ GE7.out)|exact HB.out)) hb);clear HO_9;clear HO_14;clear BK7;clear HB;have HO_9 := n0_;have HO_14 := n1_;have HO30 := n2_;have BK7 := n3_;have HB := n4_;clear n0_ n1_ n2_ n3_ n4_;(try clear hb);(try clear hb2);(try clear hk);(try clear hi);(try clear ho0);have p32 : 0 ≤ (t27 : Int) := of_decide_eq_true (by first|(with_reducible assumption)|assumption);have q32 : t27 < (t19.length : Int) := of_decide_eq_true (by first|(with_reducible assumption)|assumption);obtain ⟨ad32, e32, hx32_0, hx32_1, hx32_2, hx32_3, hx32_4, hx32_5, hx32_6, hx32_7, hx32_8, hx32_9, hx32_10, hx32_11⟩ := at_T31 (Kd.R_reads' HO_14.out).2.2 t27 p32 q32;cases e32;replace p32 := eq_true p32;replace q32 := eq_true q32)|(go_at_call 76;(with_reducible refine (admit_Release.calls kj35 _ _ t19 ((rd_T31 t2 (ji14)).f0) 0 0 (wrap64 (((rd_T31 t19 t27).f3.f2) + 1)) t33 t36 _ ?side1 ?side2 A51.out).mono ?_);(case side1 => repeat (first|exact (Kd.R_reads' HO_14.out).2.2|(with_reducible refine Kd.C_alloc ?_ _)|(with_reducible refine Kd.C_drewN ?_ _)|(with_reducible refine Kd.C_drew ?_)));(case side2 => exact (Kd.R_reads' HO_14.out).2.1);rintro e w78 ⟨v34, rfl, ho0, hb⟩;have n0_ := Aside0.mk (Kd.R_elder' (by (with_reducible repeat (first|apply Kd.R_alloc|apply Kd.R_drewN|apply Kd.R_drew));exact HO_9.out) (Kd.R_base ho0) hb);have n1_ := Aside0.mk (Kd.R_elder' (by (with_reducible repeat (first|apply Kd.R_alloc|apply Kd.R_drewN|apply Kd.R_drew));exact HO_14.out) (Kd.R_base ho0) hb);have n2_ := Aside0.mk (Kd.R_elder' (by (with_reducible repeat (first|apply Kd.R_alloc|apply Kd.R_drewN|apply Kd.R_drew));exact HO30.out) (Kd.R_base ho0) hb);have n3_ := Aside0.mk (Kd.R_lower (Kd.R_new' (Kd.R_new' (Kd.R_new' ho0 (Kd.R_lt (by (with_reducible repeat (first|apply Kd.R_alloc|apply Kd.R_drewN|apply Kd.R_drew));exact HO_9.out))) (Kd.R_lt (by (with_reducible repeat (first|apply Kd.R_alloc|apply Kd.R_drewN|apply Kd.R_drew));exact HO_14.out))) (Kd.R_lt (by (with_reducible repeat (first|apply Kd.R_alloc|apply Kd.R_drewN|apply Kd.R_drew));exact HO30.out))) (below_size (by repeat (first|(with_reducible first|exact HB.out|apply below_alloc|apply pw_below_drewN|apply below_drew1|refine below_set ?_ GE7.out)|exact HB.out))));have n4_ := Aside0.mk (blk_below (g := gb7) (o := .cells #[.int .i64 (wrap64 (a2)), .int .i64 (wrap64 (a3)), .int .i64 0] 27 (0, 0)) (by (with_reducible repeat (first|refine blk_drewN ?_ _|refine blk_drew ?_|refine blk_alloc ?_ _));exact BK7.out) hb);have n5_ := Aside0.mk (below_step (by repeat (first|(with_reducible first|exact HB.out|apply below_alloc|apply pw_below_drewN|apply below_drew1|refine below_set ?_ GE7.out)|exact HB.out)) hb);clear HO_9;clear HO_14;clear HO30;clear BK7;clear HB;have HO_9 := n0_;have HO_14 := n1_;have HO30 := n2_;have HO35 := n3_;have BK7 := n4_;have HB := n5_;clear n0_ n1_ n2_ n3_ n4_ n5_;(try clear hb);(try clear hb2);(try clear hk);(try clear hi);(try clear ho0))|(go_at_call 61;(with_reducible refine (law1_Num.calls t31 t37 _ A52.out).mono ?_);rintro e w' ⟨rfl, ⟨nd, rfl⟩⟩;(try first|exact ⟨rfl, _, World.drewN_drewN _ _ _⟩|exact ⟨rfl, _, Eq.trans (World.drewN_drewN _ _ _) (congrArg (World.drewN _) (Nat.add_assoc _ _ _))⟩))))
                go_ret
                exact ⟨by first|rfl|(simp [errW_none, errW_some] <;> rfl)|(simp only [← hji14];first|rfl|(simp [errW_none, errW_some] <;> rfl))|(simp [*, errW_none, errW_some] <;> rfl), by repeat (first|(with_reducible first|exact HB.out|apply below_alloc|apply pw_below_drewN|apply below_drew1|refine below_set ?_ GE7.out)|exact HB.out)⟩
              ·rw [if_neg c50] at H
               exact absurd H (by simp)
             ·rw [if_neg c49] at H
              exact absurd H (by simp)
        ·replace c35 := Bool.eq_false_iff.mpr c35
         subst c35
         have H1 : ((law1_Num.f t22).bind fun t23 => (if t23 = 12 then (if (t19.length : Int) = 0 then ((law14_awake.f k1).bind fun t24 => (some t24)) else (some false)) else (some false))) = some r := by rw [if_neg (show ¬ (false = true) by decide)] at H; exact H
         clear H
         have H := H1
         clear H1
         replace H := Option.bind_eq_some_iff.mp H
         obtain ⟨t23, A790, H⟩ := H
         replace H : (if t23 = 12 then (if (t19.length : Int) = 0 then ((law14_awake.f k1).bind fun t24 => (some t24)) else (some false)) else (some false)) = some r := H
         have A79 := Aside0.mk A790
         clear A790
         by_cases c80 : t23 = 12
         ·rw [if_pos c80] at H
          have c80b0 : (t23 == 12) = true := beq_iff_eq.mpr c80
          have c80b1 : (t23 != 12) = false := bne_eq_false_iff_eq.mpr c80
          clear c80
          by_cases c81 : (t19.length : Int) = 0
          ·rw [if_pos c81] at H
           have c81b0 : ((t19.length : Int) == 0) = true := beq_iff_eq.mpr c81
           have c81b1 : ((t19.length : Int) != 0) = false := bne_eq_false_iff_eq.mpr c81
           clear c81
           replace H := Option.bind_eq_some_iff.mp H
           obtain ⟨t24, A820, H⟩ := H
           replace H : (some t24) = some r := H
           have A82 := Aside0.mk A820
           clear A820
           obtain rfl := Option.some.inj H
           have hcz83_0 : wr.cell? ⟨gb7, 0, none⟩ = some (.int .i64 (wrap64 (a2))) := (blk_cell BK7.out 0).trans rfl
           have hcz83_1 : wr.cell? ⟨gb7, 1, none⟩ = some (.int .i64 (wrap64 (a3))) := (blk_cell BK7.out 1).trans rfl
           have hcz83_2 : wr.cell? ⟨gb7, 2, none⟩ = some (.int .i64 0) := (blk_cell BK7.out 2).trans rfl
           have hfz83_0 := blk_frozen BK7.out 0
           have hfz83_1 := blk_frozen BK7.out 1
           have hfz83_2 := blk_frozen BK7.out 2
           go_wp2_with (first|(go_at_call 60;(with_reducible refine (admit_Admit.calls k1 _ _ t2 ((rd_T31 t2 (ji14)).f0) (wrap64 (a2)) (wrap64 (a3)) 0 t19 t22 _ ?side1 ?side2 A34.out).mono ?_);(case side1 => repeat (first|exact (Kd.R_reads' HO_9.out).2.2|(with_reducible refine Kd.C_alloc ?_ _)|(with_reducible refine Kd.C_drewN ?_ _)|(with_reducible refine Kd.C_drew ?_)));(case side2 => exact (Kd.R_reads' HO_9.out).2.1);rintro e w84 ⟨v20, rfl, ho0, hb⟩;have n0_ := Aside0.mk (Kd.R_elder' (by (with_reducible repeat (first|apply Kd.R_alloc|apply Kd.R_drewN|apply Kd.R_drew));exact HO_9.out) (Kd.R_base ho0) hb);have n1_ := Aside0.mk (Kd.R_lower (Kd.R_new' ho0 (Kd.R_lt (by (with_reducible repeat (first|apply Kd.R_alloc|apply Kd.R_drewN|apply Kd.R_drew));exact HO_9.out))) (below_size (by repeat (first|(with_reducible first|exact HB.out|apply below_alloc|apply pw_below_drewN|apply below_drew1|refine below_set ?_ GE7.out)|exact HB.out))));have n2_ := Aside0.mk (blk_below (g := gb7) (o := .cells #[.int .i64 (wrap64 (a2)), .int .i64 (wrap64 (a3)), .int .i64 0] 27 (0, 0)) (by (with_reducible repeat (first|refine blk_drewN ?_ _|refine blk_drew ?_|refine blk_alloc ?_ _));exact BK7.out) hb);have n3_ := Aside0.mk (below_step (by repeat (first|(with_reducible first|exact HB.out|apply below_alloc|apply pw_below_drewN|apply below_drew1|refine below_set ?_ GE7.out)|exact HB.out)) hb);clear HO_9;clear BK7;clear HB;have HO_9 := n0_;have HO21 := n1_;have BK7 := n2_;have HB := n3_;clear n0_ n1_ n2_ n3_;(try clear hb);(try clear hb2);(try clear hk);(try clear hi);(try clear ho0))|(go_at_call 61;(with_reducible refine (law1_Num.calls t22 t23 _ A79.out).mono ?_);rintro e w' ⟨rfl, ⟨nd, rfl⟩⟩;(try first|exact ⟨rfl, _, World.drewN_drewN _ _ _⟩|exact ⟨rfl, _, Eq.trans (World.drewN_drewN _ _ _) (congrArg (World.drewN _) (Nat.add_assoc _ _ _))⟩);obtain ⟨Ao85, co85, eo85⟩ := Kd.R_slice HO21.out;subst eo85)|(go_at_call 59;(with_reducible refine (law14_awake.calls k1  t24 _ A82.out).mono ?_);rintro e w86 ⟨rfl, hb⟩;have n0_ := Aside0.mk (Kd.R_below (by (with_reducible repeat (first|apply Kd.R_alloc|apply Kd.R_drewN|apply Kd.R_drew));exact HO_9.out) hb);have n1_ := Aside0.mk (Kd.R_below (by (with_reducible repeat (first|apply Kd.R_alloc|apply Kd.R_drewN|apply Kd.R_drew));exact HO21.out) hb);have n2_ := Aside0.mk (blk_below (g := gb7) (o := .cells #[.int .i64 (wrap64 (a2)), .int .i64 (wrap64 (a3)), .int .i64 0] 27 (0, 0)) (by (with_reducible repeat (first|refine blk_drewN ?_ _|refine blk_drew ?_|refine blk_alloc ?_ _));exact BK7.out) hb);have n3_ := Aside0.mk (below_step (by repeat (first|(with_reducible first|exact HB.out|apply below_alloc|apply pw_below_drewN|apply below_drew1|refine below_set ?_ GE7.out)|exact HB.out)) hb);clear HO_9;clear HO21;clear BK7;clear HB;have HO_9 := n0_;have HO21 := n1_;have BK7 := n2_;have HB := n3_;clear n0_ n1_ n2_ n3_;(try clear hb);(try clear hb2);(try clear hk);(try clear hi)))
           repeat (go_quiet (first|(go_at_call 60;(with_reducible refine (admit_Admit.calls k1 _ _ t2 ((rd_T31 t2 (ji14)).f0) (wrap64 (a2)) (wrap64 (a3)) 0 t19 t22 _ ?side1 ?side2 A34.out).mono ?_);(case side1 => repeat (first|exact (Kd.R_reads' HO_9.out).2.2|(with_reducible refine Kd.C_alloc ?_ _)|(with_reducible refine Kd.C_drewN ?_ _)|(with_reducible refine Kd.C_drew ?_)));(case side2 => exact (Kd.R_reads' HO_9.out).2.1);rintro e w84 ⟨v20, rfl, ho0, hb⟩;have n0_ := Aside0.mk (Kd.R_elder' (by (with_reducible repeat (first|apply Kd.R_alloc|apply Kd.R_drewN|apply Kd.R_drew));exact HO_9.out) (Kd.R_base ho0) hb);have n1_ := Aside0.mk (Kd.R_lower (Kd.R_new' ho0 (Kd.R_lt (by (with_reducible repeat (first|apply Kd.R_alloc|apply Kd.R_drewN|apply Kd.R_drew));exact HO_9.out))) (below_size (by repeat (first|(with_reducible first|exact HB.out|apply below_alloc|apply pw_below_drewN|apply below_drew1|refine below_set ?_ GE7.out)|exact HB.out))));have n2_ := Aside0.mk (blk_below (g := gb7) (o := .cells #[.int .i64 (wrap64 (a2)), .int .i64 (wrap64 (a3)), .int .i64 0] 27 (0, 0)) (by (with_reducible repeat (first|refine blk_drewN ?_ _|refine blk_drew ?_|refine blk_alloc ?_ _));exact BK7.out) hb);have n3_ := Aside0.mk (below_step (by repeat (first|(with_reducible first|exact HB.out|apply below_alloc|apply pw_below_drewN|apply below_drew1|refine below_set ?_ GE7.out)|exact HB.out)) hb);clear HO_9;clear BK7;clear HB;have HO_9 := n0_;have HO21 := n1_;have BK7 := n2_;have HB := n3_;clear n0_ n1_ n2_ n3_;(try clear hb);(try clear hb2);(try clear hk);(try clear hi);(try clear ho0))|(go_at_call 61;(with_reducible refine (law1_Num.calls t22 t23 _ A79.out).mono ?_);rintro e w' ⟨rfl, ⟨nd, rfl⟩⟩;(try first|exact ⟨rfl, _, World.drewN_drewN _ _ _⟩|exact ⟨rfl, _, Eq.trans (World.drewN_drewN _ _ _) (congrArg (World.drewN _) (Nat.add_assoc _ _ _))⟩);obtain ⟨Ao85, co85, eo85⟩ := Kd.R_slice HO21.out;subst eo85)|(go_at_call 59;(with_reducible refine (law14_awake.calls k1  t24 _ A82.out).mono ?_);rintro e w86 ⟨rfl, hb⟩;have n0_ := Aside0.mk (Kd.R_below (by (with_reducible repeat (first|apply Kd.R_alloc|apply Kd.R_drewN|apply Kd.R_drew));exact HO_9.out) hb);have n1_ := Aside0.mk (Kd.R_below (by (with_reducible repeat (first|apply Kd.R_alloc|apply Kd.R_drewN|apply Kd.R_drew));exact HO21.out) hb);have n2_ := Aside0.mk (blk_below (g := gb7) (o := .cells #[.int .i64 (wrap64 (a2)), .int .i64 (wrap64 (a3)), .int .i64 0] 27 (0, 0)) (by (with_reducible repeat (first|refine blk_drewN ?_ _|refine blk_drew ?_|refine blk_alloc ?_ _));exact BK7.out) hb);have n3_ := Aside0.mk (below_step (by repeat (first|(with_reducible first|exact HB.out|apply below_alloc|apply pw_below_drewN|apply below_drew1|refine below_set ?_ GE7.out)|exact HB.out)) hb);clear HO_9;clear HO21;clear BK7;clear HB;have HO_9 := n0_;have HO21 := n1_;have BK7 := n2_;have HB := n3_;clear n0_ n1_ n2_ n3_;(try clear hb);(try clear hb2);(try clear hk);(try clear hi)));try go_wp2_with (first|(go_at_call 60;(with_reducible refine (admit_Admit.calls k1 _ _ t2 ((rd_T31 t2 (ji14)).f0) (wrap64 (a2)) (wrap64 (a3)) 0 t19 t22 _ ?side1 ?side2 A34.out).mono ?_);(case side1 => repeat (first|exact (Kd.R_reads' HO_9.out).2.2|(with_reducible refine Kd.C_alloc ?_ _)|(with_reducible refine Kd.C_drewN ?_ _)|(with_reducible refine Kd.C_drew ?_)));(case side2 => exact (Kd.R_reads' HO_9.out).2.1);rintro e w84 ⟨v20, rfl, ho0, hb⟩;have n0_ := Aside0.mk (Kd.R_elder' (by (with_reducible repeat (first|apply Kd.R_alloc|apply Kd.R_drewN|apply Kd.R_drew));exact HO_9.out) (Kd.R_base ho0) hb);have n1_ := Aside0.mk (Kd.R_lower (Kd.R_new' ho0 (Kd.R_lt (by (with_reducible repeat (first|apply Kd.R_alloc|apply Kd.R_drewN|apply Kd.R_drew));exact HO_9.out))) (below_size (by repeat (first|(with_reducible first|exact HB.out|apply below_alloc|apply pw_below_drewN|apply below_drew1|refine below_set ?_ GE7.out)|exact HB.out))));have n2_ := Aside0.mk (blk_below (g := gb7) (o := .cells #[.int .i64 (wrap64 (a2)), .int .i64 (wrap64 (a3)), .int .i64 0] 27 (0, 0)) (by (with_reducible repeat (first|refine blk_drewN ?_ _|refine blk_drew ?_|refine blk_alloc ?_ _));exact BK7.out) hb);have n3_ := Aside0.mk (below_step (by repeat (first|(with_reducible first|exact HB.out|apply below_alloc|apply pw_below_drewN|apply below_drew1|refine below_set ?_ GE7.out)|exact HB.out)) hb);clear HO_9;clear BK7;clear HB;have HO_9 := n0_;have HO21 := n1_;have BK7 := n2_;have HB := n3_;clear n0_ n1_ n2_ n3_;(try clear hb);(try clear hb2);(try clear hk);(try clear hi);(try clear ho0))|(go_at_call 61;(with_reducible refine (law1_Num.calls t22 t23 _ A79.out).mono ?_);rintro e w' ⟨rfl, ⟨nd, rfl⟩⟩;(try first|exact ⟨rfl, _, World.drewN_drewN _ _ _⟩|exact ⟨rfl, _, Eq.trans (World.drewN_drewN _ _ _) (congrArg (World.drewN _) (Nat.add_assoc _ _ _))⟩);obtain ⟨Ao85, co85, eo85⟩ := Kd.R_slice HO21.out;subst eo85)|(go_at_call 59;(with_reducible refine (law14_awake.calls k1  t24 _ A82.out).mono ?_);rintro e w86 ⟨rfl, hb⟩;have n0_ := Aside0.mk (Kd.R_below (by (with_reducible repeat (first|apply Kd.R_alloc|apply Kd.R_drewN|apply Kd.R_drew));exact HO_9.out) hb);have n1_ := Aside0.mk (Kd.R_below (by (with_reducible repeat (first|apply Kd.R_alloc|apply Kd.R_drewN|apply Kd.R_drew));exact HO21.out) hb);have n2_ := Aside0.mk (blk_below (g := gb7) (o := .cells #[.int .i64 (wrap64 (a2)), .int .i64 (wrap64 (a3)), .int .i64 0] 27 (0, 0)) (by (with_reducible repeat (first|refine blk_drewN ?_ _|refine blk_drew ?_|refine blk_alloc ?_ _));exact BK7.out) hb);have n3_ := Aside0.mk (below_step (by repeat (first|(with_reducible first|exact HB.out|apply below_alloc|apply pw_below_drewN|apply below_drew1|refine below_set ?_ GE7.out)|exact HB.out)) hb);clear HO_9;clear HO21;clear BK7;clear HB;have HO_9 := n0_;have HO21 := n1_;have BK7 := n2_;have HB := n3_;clear n0_ n1_ n2_ n3_;(try clear hb);(try clear hb2);(try clear hk);(try clear hi))))
           go_ret
           exact ⟨by first|rfl|(simp [errW_none, errW_some] <;> rfl)|(simp only [← hji14];first|rfl|(simp [errW_none, errW_some] <;> rfl))|(simp [*, errW_none, errW_some] <;> rfl), by repeat (first|(with_reducible first|exact HB.out|apply below_alloc|apply pw_below_drewN|apply below_drew1|refine below_set ?_ GE7.out)|exact HB.out)⟩
          ·rw [if_neg c81] at H
           have c81b0 : ((t19.length : Int) == 0) = false := beq_eq_false_iff_ne.mpr c81
           have c81b1 : ((t19.length : Int) != 0) = true := bne_iff_ne.mpr c81
           have c81b2 : ¬ (t19 = []) := fun h_ => c81 (by rw [h_]; rfl)
           obtain rfl := Option.some.inj H
           have hcz87_0 : wr.cell? ⟨gb7, 0, none⟩ = some (.int .i64 (wrap64 (a2))) := (blk_cell BK7.out 0).trans rfl
           have hcz87_1 : wr.cell? ⟨gb7, 1, none⟩ = some (.int .i64 (wrap64 (a3))) := (blk_cell BK7.out 1).trans rfl
           have hcz87_2 : wr.cell? ⟨gb7, 2, none⟩ = some (.int .i64 0) := (blk_cell BK7.out 2).trans rfl
           have hfz87_0 := blk_frozen BK7.out 0
           have hfz87_1 := blk_frozen BK7.out 1
           have hfz87_2 := blk_frozen BK7.out 2
           go_wp2_with (first|(go_at_call 60;(with_reducible refine (admit_Admit.calls k1 _ _ t2 ((rd_T31 t2 (ji14)).f0) (wrap64 (a2)) (wrap64 (a3)) 0 t19 t22 _ ?side1 ?side2 A34.out).mono ?_);(case side1 => repeat (first|exact (Kd.R_reads' HO_9.out).2.2|(with_reducible refine Kd.C_alloc ?_ _)|(with_reducible refine Kd.C_drewN ?_ _)|(with_reducible refine Kd.C_drew ?_)));(case side2 => exact (Kd.R_reads' HO_9.out).2.1);rintro e w88 ⟨v20, rfl, ho0, hb⟩;have n0_ := Aside0.mk (Kd.R_elder' (by (with_reducible repeat (first|apply Kd.R_alloc|apply Kd.R_drewN|apply Kd.R_drew));exact HO_9.out) (Kd.R_base ho0) hb);have n1_ := Aside0.mk (Kd.R_lower (Kd.R_new' ho0 (Kd.R_lt (by (with_reducible repeat (first|apply Kd.R_alloc|apply Kd.R_drewN|apply Kd.R_drew));exact HO_9.out))) (below_size (by repeat (first|(with_reducible first|exact HB.out|apply below_alloc|apply pw_below_drewN|apply below_drew1|refine below_set ?_ GE7.out)|exact HB.out))));have n2_ := Aside0.mk (blk_below (g := gb7) (o := .cells #[.int .i64 (wrap64 (a2)), .int .i64 (wrap64 (a3)), .int .i64 0] 27 (0, 0)) (by (with_reducible repeat (first|refine blk_drewN ?_ _|refine blk_drew ?_|refine blk_alloc ?_ _));exact BK7.out) hb);have n3_ := Aside0.mk (below_step (by repeat (first|(with_reducible first|exact HB.out|apply below_alloc|apply pw_below_drewN|apply below_drew1|refine below_set ?_ GE7.out)|exact HB.out)) hb);clear HO_9;clear BK7;clear HB;have HO_9 := n0_;have HO21 := n1_;have BK7 := n2_;have HB := n3_;clear n0_ n1_ n2_ n3_;(try clear hb);(try clear hb2);(try clear hk);(try clear hi);(try clear ho0))|(go_at_call 61;(with_reducible refine (law1_Num.calls t22 t23 _ A79.out).mono ?_);rintro e w' ⟨rfl, ⟨nd, rfl⟩⟩;(try first|exact ⟨rfl, _, World.drewN_drewN _ _ _⟩|exact ⟨rfl, _, Eq.trans (World.drewN_drewN _ _ _) (congrArg (World.drewN _) (Nat.add_assoc _ _ _))⟩);obtain ⟨Ao89, co89, eo89⟩ := Kd.R_slice HO21.out;subst eo89))
           repeat (go_quiet (first|(go_at_call 60;(with_reducible refine (admit_Admit.calls k1 _ _ t2 ((rd_T31 t2 (ji14)).f0) (wrap64 (a2)) (wrap64 (a3)) 0 t19 t22 _ ?side1 ?side2 A34.out).mono ?_);(case side1 => repeat (first|exact (Kd.R_reads' HO_9.out).2.2|(with_reducible refine Kd.C_alloc ?_ _)|(with_reducible refine Kd.C_drewN ?_ _)|(with_reducible refine Kd.C_drew ?_)));(case side2 => exact (Kd.R_reads' HO_9.out).2.1);rintro e w88 ⟨v20, rfl, ho0, hb⟩;have n0_ := Aside0.mk (Kd.R_elder' (by (with_reducible repeat (first|apply Kd.R_alloc|apply Kd.R_drewN|apply Kd.R_drew));exact HO_9.out) (Kd.R_base ho0) hb);have n1_ := Aside0.mk (Kd.R_lower (Kd.R_new' ho0 (Kd.R_lt (by (with_reducible repeat (first|apply Kd.R_alloc|apply Kd.R_drewN|apply Kd.R_drew));exact HO_9.out))) (below_size (by repeat (first|(with_reducible first|exact HB.out|apply below_alloc|apply pw_below_drewN|apply below_drew1|refine below_set ?_ GE7.out)|exact HB.out))));have n2_ := Aside0.mk (blk_below (g := gb7) (o := .cells #[.int .i64 (wrap64 (a2)), .int .i64 (wrap64 (a3)), .int .i64 0] 27 (0, 0)) (by (with_reducible repeat (first|refine blk_drewN ?_ _|refine blk_drew ?_|refine blk_alloc ?_ _));exact BK7.out) hb);have n3_ := Aside0.mk (below_step (by repeat (first|(with_reducible first|exact HB.out|apply below_alloc|apply pw_below_drewN|apply below_drew1|refine below_set ?_ GE7.out)|exact HB.out)) hb);clear HO_9;clear BK7;clear HB;have HO_9 := n0_;have HO21 := n1_;have BK7 := n2_;have HB := n3_;clear n0_ n1_ n2_ n3_;(try clear hb);(try clear hb2);(try clear hk);(try clear hi);(try clear ho0))|(go_at_call 61;(with_reducible refine (law1_Num.calls t22 t23 _ A79.out).mono ?_);rintro e w' ⟨rfl, ⟨nd, rfl⟩⟩;(try first|exact ⟨rfl, _, World.drewN_drewN _ _ _⟩|exact ⟨rfl, _, Eq.trans (World.drewN_drewN _ _ _) (congrArg (World.drewN _) (Nat.add_assoc _ _ _))⟩);obtain ⟨Ao89, co89, eo89⟩ := Kd.R_slice HO21.out;subst eo89));try go_wp2_with (first|(go_at_call 60;(with_reducible refine (admit_Admit.calls k1 _ _ t2 ((rd_T31 t2 (ji14)).f0) (wrap64 (a2)) (wrap64 (a3)) 0 t19 t22 _ ?side1 ?side2 A34.out).mono ?_);(case side1 => repeat (first|exact (Kd.R_reads' HO_9.out).2.2|(with_reducible refine Kd.C_alloc ?_ _)|(with_reducible refine Kd.C_drewN ?_ _)|(with_reducible refine Kd.C_drew ?_)));(case side2 => exact (Kd.R_reads' HO_9.out).2.1);rintro e w88 ⟨v20, rfl, ho0, hb⟩;have n0_ := Aside0.mk (Kd.R_elder' (by (with_reducible repeat (first|apply Kd.R_alloc|apply Kd.R_drewN|apply Kd.R_drew));exact HO_9.out) (Kd.R_base ho0) hb);have n1_ := Aside0.mk (Kd.R_lower (Kd.R_new' ho0 (Kd.R_lt (by (with_reducible repeat (first|apply Kd.R_alloc|apply Kd.R_drewN|apply Kd.R_drew));exact HO_9.out))) (below_size (by repeat (first|(with_reducible first|exact HB.out|apply below_alloc|apply pw_below_drewN|apply below_drew1|refine below_set ?_ GE7.out)|exact HB.out))));have n2_ := Aside0.mk (blk_below (g := gb7) (o := .cells #[.int .i64 (wrap64 (a2)), .int .i64 (wrap64 (a3)), .int .i64 0] 27 (0, 0)) (by (with_reducible repeat (first|refine blk_drewN ?_ _|refine blk_drew ?_|refine blk_alloc ?_ _));exact BK7.out) hb);have n3_ := Aside0.mk (below_step (by repeat (first|(with_reducible first|exact HB.out|apply below_alloc|apply pw_below_drewN|apply below_drew1|refine below_set ?_ GE7.out)|exact HB.out)) hb);clear HO_9;clear BK7;clear HB;have HO_9 := n0_;have HO21 := n1_;have BK7 := n2_;have HB := n3_;clear n0_ n1_ n2_ n3_;(try clear hb);(try clear hb2);(try clear hk);(try clear hi);(try clear ho0))|(go_at_call 61;(with_reducible refine (law1_Num.calls t22 t23 _ A79.out).mono ?_);rintro e w' ⟨rfl, ⟨nd, rfl⟩⟩;(try first|exact ⟨rfl, _, World.drewN_drewN _ _ _⟩|exact ⟨rfl, _, Eq.trans (World.drewN_drewN _ _ _) (congrArg (World.drewN _) (Nat.add_assoc _ _ _))⟩);obtain ⟨Ao89, co89, eo89⟩ := Kd.R_slice HO21.out;subst eo89)))
           go_ret
           exact ⟨by first|rfl|(simp [errW_none, errW_some] <;> rfl)|(simp only [← hji14];first|rfl|(simp [errW_none, errW_some] <;> rfl))|(simp [*, errW_none, errW_some] <;> rfl), by repeat (first|(with_reducible first|exact HB.out|apply below_alloc|apply pw_below_drewN|apply below_drew1|refine below_set ?_ GE7.out)|exact HB.out)⟩
         ·rw [if_neg c80] at H
          have c80b0 : (t23 == 12) = false := beq_eq_false_iff_ne.mpr c80
          have c80b1 : (t23 != 12) = true := bne_iff_ne.mpr c80
          obtain rfl := Option.some.inj H
          have hcz90_0 : wr.cell? ⟨gb7, 0, none⟩ = some (.int .i64 (wrap64 (a2))) := (blk_cell BK7.out 0).trans rfl
          have hcz90_1 : wr.cell? ⟨gb7, 1, none⟩ = some (.int .i64 (wrap64 (a3))) := (blk_cell BK7.out 1).trans rfl
          have hcz90_2 : wr.cell? ⟨gb7, 2, none⟩ = some (.int .i64 0) := (blk_cell BK7.out 2).trans rfl
          have hfz90_0 := blk_frozen BK7.out 0
          have hfz90_1 := blk_frozen BK7.out 1
          have hfz90_2 := blk_frozen BK7.out 2
          go_wp2_with (first|(go_at_call 60;(with_reducible refine (admit_Admit.calls k1 _ _ t2 ((rd_T31 t2 (ji14)).f0) (wrap64 (a2)) (wrap64 (a3)) 0 t19 t22 _ ?side1 ?side2 A34.out).mono ?_);(case side1 => repeat (first|exact (Kd.R_reads' HO_9.out).2.2|(with_reducible refine Kd.C_alloc ?_ _)|(with_reducible refine Kd.C_drewN ?_ _)|(with_reducible refine Kd.C_drew ?_)));(case side2 => exact (Kd.R_reads' HO_9.out).2.1);rintro e w91 ⟨v20, rfl, ho0, hb⟩;have n0_ := Aside0.mk (Kd.R_elder' (by (with_reducible repeat (first|apply Kd.R_alloc|apply Kd.R_drewN|apply Kd.R_drew));exact HO_9.out) (Kd.R_base ho0) hb);have n1_ := Aside0.mk (Kd.R_lower (Kd.R_new' ho0 (Kd.R_lt (by (with_reducible repeat (first|apply Kd.R_alloc|apply Kd.R_drewN|apply Kd.R_drew));exact HO_9.out))) (below_size (by repeat (first|(with_reducible first|exact HB.out|apply below_alloc|apply pw_below_drewN|apply below_drew1|refine below_set ?_ GE7.out)|exact HB.out))));have n2_ := Aside0.mk (blk_below (g := gb7) (o := .cells #[.int .i64 (wrap64 (a2)), .int .i64 (wrap64 (a3)), .int .i64 0] 27 (0, 0)) (by (with_reducible repeat (first|refine blk_drewN ?_ _|refine blk_drew ?_|refine blk_alloc ?_ _));exact BK7.out) hb);have n3_ := Aside0.mk (below_step (by repeat (first|(with_reducible first|exact HB.out|apply below_alloc|apply pw_below_drewN|apply below_drew1|refine below_set ?_ GE7.out)|exact HB.out)) hb);clear HO_9;clear BK7;clear HB;have HO_9 := n0_;have HO21 := n1_;have BK7 := n2_;have HB := n3_;clear n0_ n1_ n2_ n3_;(try clear hb);(try clear hb2);(try clear hk);(try clear hi);(try clear ho0))|(go_at_call 61;(with_reducible refine (law1_Num.calls t22 t23 _ A79.out).mono ?_);rintro e w' ⟨rfl, ⟨nd, rfl⟩⟩;(try first|exact ⟨rfl, _, World.drewN_drewN _ _ _⟩|exact ⟨rfl, _, Eq.trans (World.drewN_drewN _ _ _) (congrArg (World.drewN _) (Nat.add_assoc _ _ _))⟩)))
          repeat (go_quiet (first|(go_at_call 60;(with_reducible refine (admit_Admit.calls k1 _ _ t2 ((rd_T31 t2 (ji14)).f0) (wrap64 (a2)) (wrap64 (a3)) 0 t19 t22 _ ?side1 ?side2 A34.out).mono ?_);(case side1 => repeat (first|exact (Kd.R_reads' HO_9.out).2.2|(with_reducible refine Kd.C_alloc ?_ _)|(with_reducible refine Kd.C_drewN ?_ _)|(with_reducible refine Kd.C_drew ?_)));(case side2 => exact (Kd.R_reads' HO_9.out).2.1);rintro e w91 ⟨v20, rfl, ho0, hb⟩;have n0_ := Aside0.mk (Kd.R_elder' (by (with_reducible repeat (first|apply Kd.R_alloc|apply Kd.R_drewN|apply Kd.R_drew));exact HO_9.out) (Kd.R_base ho0) hb);have n1_ := Aside0.mk (Kd.R_lower (Kd.R_new' ho0 (Kd.R_lt (by (with_reducible repeat (first|apply Kd.R_alloc|apply Kd.R_drewN|apply Kd.R_drew));exact HO_9.out))) (below_size (by repeat (first|(with_reducible first|exact HB.out|apply below_alloc|apply pw_below_drewN|apply below_drew1|refine below_set ?_ GE7.out)|exact HB.out))));have n2_ := Aside0.mk (blk_below (g := gb7) (o := .cells #[.int .i64 (wrap64 (a2)), .int .i64 (wrap64 (a3)), .int .i64 0] 27 (0, 0)) (by (with_reducible repeat (first|refine blk_drewN ?_ _|refine blk_drew ?_|refine blk_alloc ?_ _));exact BK7.out) hb);have n3_ := Aside0.mk (below_step (by repeat (first|(with_reducible first|exact HB.out|apply below_alloc|apply pw_below_drewN|apply below_drew1|refine below_set ?_ GE7.out)|exact HB.out)) hb);clear HO_9;clear BK7;clear HB;have HO_9 := n0_;have HO21 := n1_;have BK7 := n2_;have HB := n3_;clear n0_ n1_ n2_ n3_;(try clear hb);(try clear hb2);(try clear hk);(try clear hi);(try clear ho0))|(go_at_call 61;(with_reducible refine (law1_Num.calls t22 t23 _ A79.out).mono ?_);rintro e w' ⟨rfl, ⟨nd, rfl⟩⟩;(try first|exact ⟨rfl, _, World.drewN_drewN _ _ _⟩|exact ⟨rfl, _, Eq.trans (World.drewN_drewN _ _ _) (congrArg (World.drewN _) (Nat.add_assoc _ _ _))⟩)));try go_wp2_with (first|(go_at_call 60;(with_reducible refine (admit_Admit.calls k1 _ _ t2 ((rd_T31 t2 (ji14)).f0) (wrap64 (a2)) (wrap64 (a3)) 0 t19 t22 _ ?side1 ?side2 A34.out).mono ?_);(case side1 => repeat (first|exact (Kd.R_reads' HO_9.out).2.2|(with_reducible refine Kd.C_alloc ?_ _)|(with_reducible refine Kd.C_drewN ?_ _)|(with_reducible refine Kd.C_drew ?_)));(case side2 => exact (Kd.R_reads' HO_9.out).2.1);rintro e w91 ⟨v20, rfl, ho0, hb⟩;have n0_ := Aside0.mk (Kd.R_elder' (by (with_reducible repeat (first|apply Kd.R_alloc|apply Kd.R_drewN|apply Kd.R_drew));exact HO_9.out) (Kd.R_base ho0) hb);have n1_ := Aside0.mk (Kd.R_lower (Kd.R_new' ho0 (Kd.R_lt (by (with_reducible repeat (first|apply Kd.R_alloc|apply Kd.R_drewN|apply Kd.R_drew));exact HO_9.out))) (below_size (by repeat (first|(with_reducible first|exact HB.out|apply below_alloc|apply pw_below_drewN|apply below_drew1|refine below_set ?_ GE7.out)|exact HB.out))));have n2_ := Aside0.mk (blk_below (g := gb7) (o := .cells #[.int .i64 (wrap64 (a2)), .int .i64 (wrap64 (a3)), .int .i64 0] 27 (0, 0)) (by (with_reducible repeat (first|refine blk_drewN ?_ _|refine blk_drew ?_|refine blk_alloc ?_ _));exact BK7.out) hb);have n3_ := Aside0.mk (below_step (by repeat (first|(with_reducible first|exact HB.out|apply below_alloc|apply pw_below_drewN|apply below_drew1|refine below_set ?_ GE7.out)|exact HB.out)) hb);clear HO_9;clear BK7;clear HB;have HO_9 := n0_;have HO21 := n1_;have BK7 := n2_;have HB := n3_;clear n0_ n1_ n2_ n3_;(try clear hb);(try clear hb2);(try clear hk);(try clear hi);(try clear ho0))|(go_at_call 61;(with_reducible refine (law1_Num.calls t22 t23 _ A79.out).mono ?_);rintro e w' ⟨rfl, ⟨nd, rfl⟩⟩;(try first|exact ⟨rfl, _, World.drewN_drewN _ _ _⟩|exact ⟨rfl, _, Eq.trans (World.drewN_drewN _ _ _) (congrArg (World.drewN _) (Nat.add_assoc _ _ _))⟩))))
          go_ret
          exact ⟨by first|rfl|(simp [errW_none, errW_some] <;> rfl)|(simp only [← hji14];first|rfl|(simp [errW_none, errW_some] <;> rfl))|(simp [*, errW_none, errW_some] <;> rfl), by repeat (first|(with_reducible first|exact HB.out|apply below_alloc|apply pw_below_drewN|apply below_drew1|refine below_set ?_ GE7.out)|exact HB.out)⟩
    ·rw [if_neg c16] at H
     exact absurd H (by simp)
   ·rw [if_neg c15] at H
    exact absurd H (by simp)
/-- THE ONE PURE STATEMENT of law14_AdmitRoom: yours. -/
def law14_AdmitRoom.Pure : Prop := ∀ (l0 : List Int) (a1 : Int) (a2 : Int) (a3 : Int), l0.length ≤ maxLen → l0.length * 1 ≤ 140737488351232 → (∀ x ∈ l0, (Lit.int .u8 x).wf = true) → (Lit.int .u8 a1).wf = true → (Lit.int .u8 a2).wf = true → (Lit.int .u8 a3).wf = true → ∃ k, law14_AdmitRoom.f k l0 a1 a2 a3 = some true
theorem law14_AdmitRoom.walk (P : law14_AdmitRoom.Pure) (a0 : Option Addr) (len0 cap0 : Nat) (z0 : List Int) (a1 : Int) (a2 : Int) (a3 : Int) (w : World) (w0 : (a0 = none ∧ len0 = 0 ∧ cap0 = 0 ∧ z0 = []) ∨ ∃ x, a0 = some x ∧ len0 ≤ cap0 ∧ cap0 ≤ maxLen ∧ z0.length = cap0 ∧ (∀ i, i < z0.length → w.cell? (x.add i) = some (.int .u8 (z0.getD i 0))) ∧ ∀ n ∈ z0, (Lit.int .u8 n).wf = true) (y0 : len0 * 1 ≤ 140737488351232) (w1 : (Lit.int .u8 a1).wf = true) (w2 : (Lit.int .u8 a2).wf = true) (w3 : (Lit.int .u8 a3).wf = true) :
  Calls Try.prog 18 #[.slice a0 len0 cap0, .int .u8 a1, .int .u8 a2, .int .u8 a3] w fun e w' => e = .returned (.bool true) ∧ Below w.heap.size w w' := by
 obtain ⟨l0, rfl, hr0, hm0, hw0, hc0⟩ := ReadsInt.ofRowC w0
 obtain ⟨k, h⟩ := P l0 a1 a2 a3 hm0 y0 hw0 w1 w2 w3
 refine (law14_AdmitRoom.calls k _ _ l0 a1 a2 a3 true w (Kd.C_of_reads (d := (0 : Int)) (h1 := fun _ => rfl) hr0) hc0 h).mono ?_
 rintro e w' ⟨rfl, hd⟩
 exact ⟨rfl, hd⟩
end Go.Proofs.Ytcgefpklljclgaa.Print

namespace Go.Proofs.Ytcgefpklljclgaa.Print
open Go.RowKit Go.Proofs.YtcgefpklljclgaaW.PrintWords Go.Proofs.YtcgefpklljclgaaW.PrintLast
set_option linter.unusedVariables false
set_option linter.unusedSimpArgs false
abbrev Item := S31
abbrev Vec := S27
abbrev zItem : Item := z31
theorem rd_item (l : List Item) (i : Int) : rd_T31 l i = l.getD i.toNat zItem := rfl
instance baLawful : LawfulBEq ByteArray where
  eq_of_beq {a b} h := by
    obtain ⟨a⟩ := a
    obtain ⟨b⟩ := b
    have : (a == b) = true := h
    rw [eq_of_beq this]
  rfl {a} := by
    obtain ⟨a⟩ := a
    show (a == a) = true
    exact beq_self_eq_true a
/-- a name is its bytes -/
theorem nm_inj {a b : ByteArray} : a.toList = b.toList ↔ a = b := by
  constructor
  · intro h
    rw [ByteArray.toList_eq, ByteArray.toList_eq] at h
    exact ByteArray.ext (Array.toList_inj.1 h)
  · rintro rfl; rfl
theorem nm_beq (a b : ByteArray) : (a.toList == b.toList) = decide (a = b) := by
  rw [Bool.eq_iff_iff, beq_iff_eq, nm_inj, decide_eq_true_iff]
theorem nm_empty {a : ByteArray} : a.toList = ([] : List UInt8) ↔ a = ⟨#[]⟩ := by
  rw [← nm_inj]; rw [show (ByteArray.mk #[]).toList = [] from by rw [ByteArray.toList_eq]]
theorem w64 {n : Int} (h0 : -9223372036854775808 ≤ n) (h1 : n ≤ 9223372036854775807) : wrap64 n = n := by unfold wrap64; omega
/-! the place of a name -/
def look (l : List Item) (n : ByteArray) : Option Item := l.find? (fun x => x.f0 = n)
def fnd (l : List Item) (n : ByteArray) : Int := fidx (fun x : Item => x.f0.toList == n.toList) l 0
theorem fidx_none {α : Type} {p : α → Bool} : ∀ {l : List α} {i : Int}, (∀ x ∈ l, p x = false) → fidx p l i = -1
  | [], _, _ => rfl
  | x :: l, i, h => by
    unfold fidx
    rw [if_neg (by rw [h x (by simp)]; simp)]
    exact fidx_none (fun y hy => h y (by simp [hy]))
theorem fidx_some {α : Type} {p : α → Bool} (z : α) : ∀ {l : List α} {i : Int} {x : α}, l.find? p = some x → ∃ j : Nat, j < l.length ∧ fidx p l i = i + j ∧ l.getD j z = x ∧ p x = true ∧ ∀ m, m < j → p (l.getD m z) = false
  | [], _, _, h => by simp at h
  | y :: l, i, x, h => by
    unfold fidx
    by_cases hy : p y = true
    · rw [if_pos hy]
      simp only [List.find?_cons, hy] at h
      obtain rfl := Option.some.inj h
      exact ⟨0, by simp, by simp, by simp, hy, fun m hm => by omega⟩
    · rw [if_neg hy]
      have hy' : p y = false := by simpa using hy
      simp only [List.find?_cons, hy'] at h
      obtain ⟨j, hj, h1, h2, h3, h4⟩ := fidx_some z (i := i + 1) h
      refine ⟨j + 1, by simp; omega, by rw [h1]; omega, by simpa using h2, h3, fun m hm => ?_⟩
      cases m with
      | zero => simpa using hy'
      | succ m => simpa using h4 m (by omega)
theorem look_pred (n : ByteArray) : (fun x : Item => x.f0.toList == n.toList) = (fun x : Item => decide (x.f0 = n)) := by
  funext x; exact nm_beq _ _
theorem look_mem {l : List Item} {n : ByteArray} {x : Item} (h : look l n = some x) : x ∈ l ∧ x.f0 = n := by
  unfold look at h
  exact ⟨List.mem_of_find?_eq_some h, by simpa using List.find?_some h⟩
theorem look_none {l : List Item} {n : ByteArray} : look l n = none ↔ ∀ x ∈ l, x.f0 ≠ n := by
  unfold look
  simp
theorem fnd_none {l : List Item} {n : ByteArray} (h : look l n = none) : fnd l n = -1 := by
  unfold fnd
  refine fidx_none fun x hx => ?_
  rw [nm_beq]
  simpa using look_none.1 h x hx
theorem fnd_some {l : List Item} {n : ByteArray} {x : Item} (h : look l n = some x) : ∃ j : Nat, j < l.length ∧ fnd l n = j ∧ l.getD j zItem = x ∧ x.f0 = n ∧ ∀ m, m < j → (l.getD m zItem).f0 ≠ n := by
  have h' : l.find? (fun x : Item => x.f0.toList == n.toList) = some x := by rw [look_pred]; exact h
  obtain ⟨j, h1, h2, h3, h4, h5⟩ := fidx_some zItem (i := 0) h'
  refine ⟨j, h1, by unfold fnd; rw [h2]; omega, h3, by simpa [nm_beq] using h4, fun m hm => ?_⟩
  simpa [nm_beq] using h5 m hm
theorem fnd_lt (l : List Item) (n : ByteArray) : fnd l n < l.length := by
  cases h : look l n with
  | none => rw [fnd_none h]; omega
  | some x => obtain ⟨j, h1, h2, _⟩ := fnd_some h; omega
theorem fnd_neg {l : List Item} {n : ByteArray} : fnd l n < 0 ↔ look l n = none := by
  cases h : look l n with
  | none => rw [fnd_none h]; simp
  | some x => obtain ⟨j, h1, h2, _⟩ := fnd_some h; simp; omega
theorem fnd_ge {l : List Item} {n : ByteArray} : 0 ≤ fnd l n ↔ ∃ x, look l n = some x := by
  cases h : look l n with
  | none => rw [fnd_none h]; simp
  | some x => obtain ⟨j, h1, h2, _⟩ := fnd_some h; simp; omega
theorem fnd_rd {l : List Item} {n : ByteArray} {x : Item} (h : look l n = some x) : rd_T31 l (fnd l n) = x := by
  obtain ⟨j, h1, h2, h3, _⟩ := fnd_some h
  rw [rd_item, h2, Int.toNat_natCast]; exact h3
theorem tree_Find_eq (l : List Item) (n : ByteArray) : tree_Find.f l n = some (fnd l n) := rfl
/-! the way up -/
inductive Chain (l : List Item) : ByteArray → List ByteArray → Prop where
  | nil {n : ByteArray} : look l n = none → Chain l n []
  | cons {n : ByteArray} {x : Item} {us : List ByteArray} : look l n = some x → Chain l x.f1 us → Chain l n (n :: us)
def upGo (l : List Item) : Nat → ByteArray → List ByteArray
  | 0, _ => []
  | m + 1, n => match look l n with
    | none => []
    | some x => n :: upGo l m x.f1
def up (l : List Item) (n : ByteArray) : List ByteArray := upGo l (l.length + 1) n
theorem upGo_none {l : List Item} {n : ByteArray} (h : look l n = none) (m : Nat) : upGo l m n = [] := by
  cases m with
  | zero => rfl
  | succ m => unfold upGo; rw [h]
theorem upGo_some {l : List Item} {n : ByteArray} {x : Item} (h : look l n = some x) (m : Nat) : upGo l (m + 1) n = n :: upGo l m x.f1 := by
  rw [upGo.eq_2, h]
theorem Chain.det {l : List Item} {n : ByteArray} {us : List ByteArray} (h : Chain l n us) : ∀ {vs : List ByteArray}, Chain l n vs → us = vs := by
  induction h with
  | nil h =>
    intro vs k
    cases k with
    | nil _ => rfl
    | cons k _ => rw [h] at k; cases k
  | cons h _ ih =>
    intro vs k
    cases k with
    | nil k => rw [h] at k; cases k
    | cons k k2 =>
      rw [h] at k
      cases k
      rw [ih k2]
theorem Chain.upGo {l : List Item} {n : ByteArray} {us : List ByteArray} (h : Chain l n us) : ∀ m, us.length ≤ m → upGo l m n = us := by
  induction h with
  | nil h => intro m _; exact upGo_none h m
  | cons h _ ih =>
    intro m hm
    cases m with
    | zero => simp at hm
    | succ m =>
      rw [upGo_some h, ih m (by simpa using hm)]
theorem upGo_chain (l : List Item) : ∀ (m : Nat) (n : ByteArray), (upGo l m n).length < m → Chain l n (upGo l m n)
  | 0, _, h => by simp [upGo] at h
  | m + 1, n, h => by
    cases hl : look l n with
    | none => rw [upGo_none hl]; exact .nil hl
    | some x =>
      rw [upGo_some hl] at h ⊢
      exact .cons hl (upGo_chain l m x.f1 (by simpa using h))
theorem up_chain {l : List Item} {n : ByteArray} (h : (up l n).length ≤ l.length) : Chain l n (up l n) := upGo_chain l _ n (by unfold up at h; omega)
theorem Chain.suffix {l : List Item} {n : ByteArray} {us : List ByteArray} (h : Chain l n us) : ∀ {m : ByteArray}, m ∈ us → ∃ vs ws, us = ws ++ vs ∧ Chain l m vs ∧ ∃ vt, vs = m :: vt := by
  induction h with
  | nil _ => intro m hm; cases hm
  | @cons n x us h k ih =>
    intro m hm
    rcases List.mem_cons.1 hm with rfl | hm
    · exact ⟨_, [], rfl, .cons h k, _, rfl⟩
    · obtain ⟨vs, ws, e, hc, he⟩ := ih hm
      exact ⟨vs, n :: ws, by rw [e]; rfl, hc, he⟩
theorem Chain.mem_look {l : List Item} {n : ByteArray} {us : List ByteArray} (h : Chain l n us) {m : ByteArray} (hm : m ∈ us) : ∃ x, look l m = some x := by
  obtain ⟨vs, ws, _, hc, vt, rfl⟩ := h.suffix hm
  cases hc with
  | cons h _ => exact ⟨_, h⟩
theorem Chain.nodup {l : List Item} {n : ByteArray} {us : List ByteArray} (h : Chain l n us) : us.Nodup := by
  induction h with
  | nil _ => simp
  | @cons n x us h k ih =>
    rw [List.nodup_cons]
    refine ⟨fun hm => ?_, ih⟩
    obtain ⟨vs, ws, e, hc, _⟩ := k.suffix hm
    have := hc.det (.cons h k)
    rw [this] at e
    have := congrArg List.length e
    simp at this
    omega
theorem Chain.len {l : List Item} {n : ByteArray} {us : List ByteArray} (h : Chain l n us) : us.length ≤ l.length := by
  have := h.nodup.length_le_of_subset (l₂ := l.map (·.f0)) (fun m hm => by
    obtain ⟨x, hx⟩ := h.mem_look hm
    obtain ⟨h1, rfl⟩ := look_mem hx
    exact List.mem_map_of_mem h1)
  simpa using this
theorem Chain.up {l : List Item} {n : ByteArray} {us : List ByteArray} (h : Chain l n us) : up l n = us := h.upGo _ (by have := h.len; omega)
theorem up_len_iff {l : List Item} {n : ByteArray} : (up l n).length ≤ l.length ↔ ∃ us, Chain l n us :=
  ⟨fun h => ⟨_, up_chain h⟩, fun ⟨us, h⟩ => by rw [h.up]; exact h.len⟩
end Go.Proofs.Ytcgefpklljclgaa.Print

namespace Go.Proofs.Ytcgefpklljclgaa.Print
open Go.RowKit Go.Proofs.YtcgefpklljclgaaW.PrintWords Go.Proofs.YtcgefpklljclgaaW.PrintLast
set_option linter.unusedVariables false
set_option linter.unusedSimpArgs false
/-! names in order -/
def lt (a b : ByteArray) : Bool := Op.bytesLess a.toList b.toList
theorem bl_irrefl : ∀ a : List UInt8, Op.bytesLess a a = false
  | [] => rfl
  | x :: a => by unfold Op.bytesLess; simp [bl_irrefl a]
theorem bl_trans : ∀ {a b c : List UInt8}, Op.bytesLess a b = true → Op.bytesLess b c = true → Op.bytesLess a c = true
  | [], [], _, h, _ => by simp [Op.bytesLess] at h
  | [], _ :: _, [], _, k => by simp [Op.bytesLess] at k
  | [], _ :: _, _ :: _, _, _ => by simp [Op.bytesLess]
  | _ :: _, [], _, h, _ => by simp [Op.bytesLess] at h
  | _ :: _, _ :: _, [], _, k => by simp [Op.bytesLess] at k
  | x :: a, y :: b, z :: c, h, k => by
    simp only [Op.bytesLess, Bool.or_eq_true, Bool.and_eq_true, decide_eq_true_eq, beq_iff_eq] at h k ⊢
    rcases h with h | ⟨rfl, h⟩
    · rcases k with k | ⟨rfl, k⟩
      · exact .inl (UInt8.lt_trans h k)
      · exact .inl h
    · rcases k with k | ⟨rfl, k⟩
      · exact .inl k
      · exact .inr ⟨rfl, bl_trans h k⟩
theorem bl_total : ∀ {a b : List UInt8}, Op.bytesLess a b = false → a ≠ b → Op.bytesLess b a = true
  | [], [], _, h => absurd rfl h
  | [], _ :: _, h, _ => by simp [Op.bytesLess] at h
  | _ :: _, [], _, _ => by simp [Op.bytesLess]
  | x :: a, y :: b, h, k => by
    simp only [Op.bytesLess, Bool.or_eq_true, Bool.or_eq_false_iff, Bool.and_eq_false_iff, Bool.and_eq_true, decide_eq_true_eq, decide_eq_false_iff_not, beq_iff_eq, beq_eq_false_iff_ne] at h ⊢
    obtain ⟨h1, h2⟩ := h
    by_cases e : x = y
    · subst e
      rcases h2 with h2 | h2
      · exact absurd rfl h2
      · exact .inr ⟨rfl, bl_total h2 (fun e => k (by rw [e]))⟩
    · left
      have h3 : ¬ x.toNat < y.toNat := by rwa [← UInt8.lt_iff_toNat_lt]
      have h4 : x.toNat ≠ y.toNat := fun q => e (UInt8.toNat_inj.1 q)
      rw [UInt8.lt_iff_toNat_lt]; omega
theorem lt_irrefl (a : ByteArray) : lt a a = false := bl_irrefl _
theorem lt_trans {a b c : ByteArray} (h : lt a b = true) (k : lt b c = true) : lt a c = true := bl_trans h k
theorem lt_total {a b : ByteArray} (h : lt a b = false) (k : a ≠ b) : lt b a = true := bl_total h (fun e => k (nm_inj.1 e))
theorem lt_ne {a b : ByteArray} (h : lt a b = true) : a ≠ b := by rintro rfl; rw [lt_irrefl] at h; cases h
/-! amounts -/
inductive Comp where | cpu | mem | pods
def Comp.of : Comp → Vec → Int | .cpu, v => v.f0 | .mem, v => v.f1 | .pods, v => v.f2
theorem vec_ext {a b : Vec} (h : ∀ c : Comp, c.of a = c.of b) : a = b := by
  cases a; cases b
  have h0 := h .cpu; have h1 := h .mem; have h2 := h .pods
  simp [Comp.of] at h0 h1 h2
  simp [h0, h1, h2]
def vadd (a b : Vec) : Vec := ⟨a.f0 + b.f0, a.f1 + b.f1, a.f2 + b.f2⟩
theorem of_vadd (c : Comp) (a b : Vec) : c.of (vadd a b) = c.of a + c.of b := by cases c <;> rfl
def MayP (v : Vec) : Prop := ∀ c : Comp, 0 ≤ c.of v ∧ c.of v ≤ 1099511627776
def LeP (a b : Vec) : Prop := ∀ c : Comp, c.of a ≤ c.of b
theorem comp_all {p : Comp → Prop} : (∀ c, p c) ↔ p .cpu ∧ p .mem ∧ p .pods :=
  ⟨fun h => ⟨h _, h _, h _⟩, fun ⟨a, b, d⟩ c => by cases c <;> assumption⟩
instance (v : Vec) : Decidable (MayP v) := decidable_of_iff _ comp_all.symm
instance (a b : Vec) : Decidable (LeP a b) := decidable_of_iff _ comp_all.symm
theorem mayP_iff {a b d : Int} : MayP ⟨a, b, d⟩ ↔ (0 ≤ a ∧ a ≤ 1099511627776) ∧ (0 ≤ b ∧ b ≤ 1099511627776) ∧ (0 ≤ d ∧ d ≤ 1099511627776) := comp_all
theorem leP_iff {a b d a' b' d' : Int} : LeP ⟨a, b, d⟩ ⟨a', b', d'⟩ ↔ a ≤ a' ∧ b ≤ b' ∧ d ≤ d' := comp_all
/-! sums over a tree -/
def sumBy (g : Item → Int) (l : List Item) : Int := (l.map g).sum
theorem sumBy_nil (g : Item → Int) : sumBy g [] = 0 := rfl
theorem sumBy_cons (g : Item → Int) (x : Item) (l : List Item) : sumBy g (x :: l) = g x + sumBy g l := by simp [sumBy]
theorem sumBy_append (g : Item → Int) (l m : List Item) : sumBy g (l ++ m) = sumBy g l + sumBy g m := by simp [sumBy]
theorem sumBy_congr {g h : Item → Int} : ∀ {l : List Item}, (∀ x ∈ l, g x = h x) → sumBy g l = sumBy h l
  | [], _ => rfl
  | x :: l, e => by rw [sumBy_cons, sumBy_cons, e x (by simp), sumBy_congr (fun y hy => e y (by simp [hy]))]
theorem sumBy_add (g h : Item → Int) : ∀ l : List Item, sumBy (fun x => g x + h x) l = sumBy g l + sumBy h l
  | [] => rfl
  | x :: l => by rw [sumBy_cons, sumBy_cons, sumBy_cons, sumBy_add g h l]; omega
theorem sumBy_map (g : Item → Int) (f : Item → Item) : ∀ l : List Item, sumBy g (l.map f) = sumBy (fun x => g (f x)) l
  | [] => rfl
  | x :: l => by rw [List.map_cons, sumBy_cons, sumBy_cons, sumBy_map g f l]
theorem sumBy_zero {g : Item → Int} : ∀ {l : List Item}, (∀ x ∈ l, g x = 0) → sumBy g l = 0
  | [], _ => rfl
  | x :: l, e => by rw [sumBy_cons, e x (by simp), sumBy_zero (fun y hy => e y (by simp [hy]))]; rfl
theorem sumBy_nonneg {g : Item → Int} : ∀ {l : List Item}, (∀ x ∈ l, 0 ≤ g x) → 0 ≤ sumBy g l
  | [], _ => by simp [sumBy_nil]
  | x :: l, e => by rw [sumBy_cons]; have := e x (by simp); have := sumBy_nonneg (l := l) (fun y hy => e y (by simp [hy])); omega
theorem sumBy_le {g : Item → Int} {B : Int} : ∀ {l : List Item}, (∀ x ∈ l, g x ≤ B) → sumBy g l ≤ B * l.length
  | [], _ => by simp [sumBy_nil]
  | x :: l, e => by
    rw [sumBy_cons]; have := e x (by simp); have := sumBy_le (l := l) (fun y hy => e y (by simp [hy]))
    simp only [List.length_cons, Int.natCast_succ, Int.mul_add, Int.mul_one]; omega
/-- one summand alone: names stand once -/
theorem sumBy_one {v : Int} {l : List Item} (hn : (l.map (·.f0)).Nodup) {x : Item} (hx : x ∈ l) : sumBy (fun y => if y.f0 = x.f0 then v else 0) l = v := by
  induction l with
  | nil => cases hx
  | cons y l ih =>
    rw [List.map_cons, List.nodup_cons] at hn
    rw [sumBy_cons]
    rcases List.mem_cons.1 hx with rfl | hx
    · rw [if_pos rfl, sumBy_zero (fun z hz => if_neg (fun e => hn.1 (by rw [← e]; exact List.mem_map_of_mem hz)))]; omega
    · rw [if_neg (fun e => hn.1 (by rw [e]; exact List.mem_map_of_mem hx)), ih hn.2 hx]; omega
/-- what the children have -/
def csum (c : Comp) (l : List Item) (n : ByteArray) : Int := sumBy (fun y => if y.f1 = n then c.of y.f4 else 0) l
/-! right trees -/
structure ItemOK (x : Item) : Prop where
  name : x.f0 ≠ ⟨#[]⟩
  size : x.f0.size ≤ 24
  lim : MayP x.f2
  own : MayP x.f3
  sub : MayP x.f4
  fit : LeP x.f4 x.f2
  ver : 1 ≤ x.f5 ∧ x.f5 ≤ 9007199254740992
structure RightP (l : List Item) : Prop where
  len : l.length ≤ 120
  ok : ∀ x ∈ l, ItemOK x
  sorted : l.Pairwise (fun x y => lt x.f0 y.f0 = true)
  par : ∀ x ∈ l, x.f1 = ⟨#[]⟩ ∨ ∃ y, look l x.f1 = some y
  sum : ∀ c : Comp, ∀ x ∈ l, c.of x.f4 = c.of x.f3 + csum c l x.f0
  chain : ∀ x ∈ l, ∃ us, Chain l x.f0 us
theorem sorted_nodup {l : List Item} (h : l.Pairwise (fun x y => lt x.f0 y.f0 = true)) : (l.map (·.f0)).Nodup := by
  rw [List.Nodup, List.pairwise_map]
  exact h.imp (fun hxy => lt_ne hxy)
theorem RightP.nodup {l : List Item} (h : RightP l) : (l.map (·.f0)).Nodup := sorted_nodup h.sorted
theorem look_of_mem {l : List Item} (hn : (l.map (·.f0)).Nodup) {x : Item} (hx : x ∈ l) : look l x.f0 = some x := by
  induction l with
  | nil => cases hx
  | cons y l ih =>
    rw [List.map_cons, List.nodup_cons] at hn
    unfold look
    rw [List.find?_cons]
    rcases List.mem_cons.1 hx with rfl | hx
    · simp
    · have : y.f0 ≠ x.f0 := fun e => hn.1 (by rw [e]; exact List.mem_map_of_mem hx)
      simp only [this, decide_false]
      exact ih hn.2 hx
theorem RightP.look {l : List Item} (h : RightP l) {x : Item} (hx : x ∈ l) : look l x.f0 = some x := look_of_mem h.nodup hx
theorem RightP.chainAll {l : List Item} (h : RightP l) (n : ByteArray) : Chain l n (up l n) := by
  cases hl : Print.look l n with
  | none => have c := Chain.nil hl; rw [c.up]; exact c
  | some x =>
    obtain ⟨hx, rfl⟩ := look_mem hl
    obtain ⟨us, c⟩ := h.chain x hx
    rw [c.up]; exact c
theorem right_nil : RightP [] := ⟨by simp, by simp, by simp, by simp, by simp, by simp⟩
/-- two that have one name are one -/
theorem RightP.eq_of {l : List Item} (h : RightP l) {x y : Item} (hx : x ∈ l) (hy : y ∈ l) (e : x.f0 = y.f0) : x = y := by
  have h1 := h.look hx
  rw [e, h.look hy] at h1
  exact (Option.some.inj h1).symm
end Go.Proofs.Ytcgefpklljclgaa.Print

namespace Go.Proofs.Ytcgefpklljclgaa.Print
open Go.RowKit Go.Proofs.YtcgefpklljclgaaW.PrintWords Go.Proofs.YtcgefpklljclgaaW.PrintLast
set_option linter.unusedVariables false
set_option linter.unusedSimpArgs false
/-! a tree whose items change, but neither their names nor parents -/
theorem look_map {f : Item → Item} (hf : ∀ x, (f x).f0 = x.f0) (l : List Item) (n : ByteArray) : look (l.map f) n = (look l n).map f := by
  unfold look
  rw [List.find?_map]
  congr 2
  funext x
  simp [hf]
theorem Chain.map {f : Item → Item} (hf : ∀ x, (f x).f0 = x.f0) (hp : ∀ x, (f x).f1 = x.f1) {l : List Item} {n : ByteArray} {us : List ByteArray} (h : Chain l n us) : Chain (l.map f) n us := by
  induction h with
  | nil h => exact .nil (by rw [look_map hf, h]; rfl)
  | @cons n x us h k ih => exact .cons (x := f x) (by rw [look_map hf, h]; rfl) (by rw [hp]; exact ih)
theorem up_map {f : Item → Item} (hf : ∀ x, (f x).f0 = x.f0) (hp : ∀ x, (f x).f1 = x.f1) (l : List Item) (n : ByteArray) : up (l.map f) n = up l n := by
  have : ∀ (m : Nat) (n : ByteArray), upGo (l.map f) m n = upGo l m n := by
    intro m
    induction m with
    | zero => intro n; rfl
    | succ m ih =>
      intro n
      cases h : look l n with
      | none => rw [upGo_none h, upGo_none (by rw [look_map hf, h]; rfl)]
      | some x => rw [upGo_some h, upGo_some (x := f x) (by rw [look_map hf, h]; rfl), ih, hp]
  unfold up
  rw [List.length_map, this]
theorem up_self {l : List Item} {n : ByteArray} {x : Item} (h : look l n = some x) : n ∈ up l n := by
  unfold up
  rw [upGo_some h]
  simp
/-- which of a node's children stand on a way up -/
theorem chain_kids {l : List Item} (hl : RightP l) {n : ByteArray} {us : List ByteArray} (h : Chain l n us) (v : Int) {x : Item} (hx : x ∈ l) :
    sumBy (fun y => if y.f1 = x.f0 ∧ y.f0 ∈ us then v else 0) l = if x.f0 ∈ us ∧ x.f0 ≠ n then v else 0 := by
  induction h with
  | nil _ => rw [sumBy_zero (fun y _ => by simp)]; simp
  | @cons n z us h k ih =>
    obtain ⟨hz, rfl⟩ := look_mem h
    have hnd := (Chain.cons h k).nodup
    rw [List.nodup_cons] at hnd
    have e : sumBy (fun y => if y.f1 = x.f0 ∧ y.f0 ∈ z.f0 :: us then v else 0) l = sumBy (fun y => (if y.f0 = z.f0 then (if z.f1 = x.f0 then v else 0) else 0) + (if y.f1 = x.f0 ∧ y.f0 ∈ us then v else 0)) l := by
      refine sumBy_congr fun y hy => ?_
      by_cases e1 : y.f0 = z.f0
      · have := hl.eq_of hy hz e1
        subst this
        by_cases e2 : y.f1 = x.f0 <;> simp [e2, hnd.1]
      · simp [e1]
    rw [e, sumBy_add, ih, sumBy_one hl.nodup hz]
    by_cases e2 : z.f1 = x.f0
    · have hm : x.f0 ∈ us := by
        rw [e2] at k
        cases k with
        | nil k => rw [hl.look hx] at k; cases k
        | cons _ _ => simp
      have hne : x.f0 ≠ z.f0 := fun q => hnd.1 (by rw [← q]; exact hm)
      simp [e2, hm, hne]
    · by_cases e3 : x.f0 = z.f0
      · simp [e2, e3, hnd.1]
        exact fun q => absurd (q.trans e3.symm) e2
      · have e4 : x.f0 ≠ z.f1 := fun q => e2 q.symm
        simp [e2, e3, e4]
/-! letting in (and out) -/
def admF (us : List ByteArray) (n : ByteArray) (v : Vec) (x : Item) : Item := ⟨x.f0, x.f1, x.f2, if x.f0 = n then vadd x.f3 v else x.f3, if x.f0 ∈ us then vadd x.f4 v else x.f4, x.f5⟩
def admL (l : List Item) (n : ByteArray) (v : Vec) : List Item := l.map (admF (up l n) n v)
theorem csum_adm {l : List Item} (hl : RightP l) (c : Comp) (n : ByteArray) (v : Vec) {x : Item} (hx : x ∈ l) :
    csum c (admL l n v) x.f0 = csum c l x.f0 + if x.f0 ∈ up l n ∧ x.f0 ≠ n then c.of v else 0 := by
  unfold csum admL
  rw [sumBy_map, ← chain_kids hl (hl.chainAll n) (c.of v) hx, ← sumBy_add]
  refine sumBy_congr fun y hy => ?_
  simp only [admF]
  by_cases e1 : y.f1 = x.f0 <;> by_cases e2 : y.f0 ∈ up l n <;> simp [e1, e2, of_vadd]
/-- what keeps a tree right when something is let in or out along a way -/
theorem adm_right {l : List Item} (hl : RightP l) {n : ByteArray} (v : Vec) (hin : ∃ x, look l n = some x)
    (hown : ∀ x ∈ l, x.f0 = n → MayP (vadd x.f3 v)) (hsub : ∀ x ∈ l, x.f0 ∈ up l n → MayP (vadd x.f4 v)) (hfit : ∀ x ∈ l, x.f0 ∈ up l n → LeP (vadd x.f4 v) x.f2) : RightP (admL l n v) where
  len := by unfold admL; rw [List.length_map]; exact hl.len
  ok := by
    intro y hy
    obtain ⟨x, hx, rfl⟩ := List.mem_map.1 hy
    have k := hl.ok x hx
    refine ⟨k.name, k.size, k.lim, ?_, ?_, ?_, k.ver⟩
    · show MayP (if x.f0 = n then vadd x.f3 v else x.f3)
      split
      · exact hown x hx (by assumption)
      · exact k.own
    · show MayP (if x.f0 ∈ up l n then vadd x.f4 v else x.f4)
      split
      · exact hsub x hx (by assumption)
      · exact k.sub
    · show LeP (if x.f0 ∈ up l n then vadd x.f4 v else x.f4) x.f2
      split
      · exact hfit x hx (by assumption)
      · exact k.fit
  sorted := by
    unfold admL
    rw [List.pairwise_map]
    exact hl.sorted
  par := by
    intro y hy
    obtain ⟨x, hx, rfl⟩ := List.mem_map.1 hy
    rcases hl.par x hx with h | ⟨z, h⟩
    · exact .inl h
    · exact .inr ⟨_, by unfold admL; rw [look_map (f := admF (up l n) n v) (fun _ => rfl)]; show (look l x.f1).map _ = _; rw [h]; rfl⟩
  sum := by
    intro c y hy
    obtain ⟨x, hx, rfl⟩ := List.mem_map.1 hy
    show c.of (if x.f0 ∈ up l n then vadd x.f4 v else x.f4) = c.of (if x.f0 = n then vadd x.f3 v else x.f3) + csum c (admL l n v) x.f0
    rw [csum_adm hl c n v hx]
    have hs := hl.sum c x hx
    by_cases e : x.f0 = n
    · have hm : x.f0 ∈ up l n := by
        obtain ⟨z, hz⟩ := hin
        rw [e]; exact up_self hz
      simp [e] at hm ⊢
      rw [if_pos hm, of_vadd, of_vadd, hs, e]; omega
    · by_cases hm : x.f0 ∈ up l n
      · simp [e, hm, of_vadd]; omega
      · simp [e, hm]; omega
  chain := by
    intro y hy
    obtain ⟨x, hx, rfl⟩ := List.mem_map.1 hy
    obtain ⟨us, h⟩ := hl.chain x hx
    exact ⟨us, h.map (f := admF (up l n) n v) (fun _ => rfl) (fun _ => rfl)⟩
/-! a new node -/
def insL (l : List Item) (it : Item) : List Item := l.takeWhile (fun x => lt x.f0 it.f0) ++ it :: l.dropWhile (fun x => lt x.f0 it.f0)
theorem look_ins (a b : List Item) (it : Item) (n : ByteArray) (h : look (a ++ b) it.f0 = none) : look (a ++ it :: b) n = if n = it.f0 then some it else look (a ++ b) n := by
  unfold look at h ⊢
  rw [List.find?_append] at h ⊢
  rw [List.find?_append, List.find?_cons]
  by_cases e : it.f0 = n
  · subst e
    cases ha : a.find? (fun x => decide (x.f0 = it.f0)) with
    | some y => rw [ha] at h; simp at h
    | none => simp
  · have e' : n ≠ it.f0 := fun q => e q.symm
    simp [e, e']
theorem insL_eq (l : List Item) (it : Item) : ∃ a b, l = a ++ b ∧ insL l it = a ++ it :: b ∧ (∀ x ∈ a, lt x.f0 it.f0 = true) ∧ (∀ x t, b = x :: t → lt x.f0 it.f0 = false) := by
  refine ⟨l.takeWhile (fun x => lt x.f0 it.f0), l.dropWhile (fun x => lt x.f0 it.f0), (List.takeWhile_append_dropWhile).symm, rfl, fun x hx => ?_, fun x t e => ?_⟩
  · exact List.all_eq_true.1 (List.all_takeWhile (p := fun x : Item => lt x.f0 it.f0) (l := l)) x hx
  · have := List.head?_dropWhile_not (fun x : Item => lt x.f0 it.f0) l
    rw [e] at this
    simpa using this
theorem csum_ins (c : Comp) (a b : List Item) (it : Item) (n : ByteArray) : csum c (a ++ it :: b) n = csum c (a ++ b) n + if it.f1 = n then c.of it.f4 else 0 := by
  unfold csum
  rw [sumBy_append, sumBy_append, sumBy_cons]; omega
theorem ins_right {l : List Item} (hl : RightP l) {it : Item} (hi : ItemOK it) (h0 : ∀ c : Comp, c.of it.f3 = 0 ∧ c.of it.f4 = 0) (hn : look l it.f0 = none)
    (hp : it.f1 = ⟨#[]⟩ ∨ ∃ y, look l it.f1 = some y) (hlen : l.length < 120) : RightP (insL l it) := by
  obtain ⟨a, b, e, e', ha, hb⟩ := insL_eq l it
  rw [e']
  subst e
  have hlk := fun n => look_ins a b it n hn
  have hmem : ∀ x, x ∈ a ++ it :: b ↔ x = it ∨ x ∈ a ++ b := fun x => by simp; constructor <;> (intro h; rcases h with h | h | h <;> simp [h])
  have hnew : ∀ m y, look (a ++ b) m = some y → m ≠ it.f0 := fun m y h q => by rw [q, hn] at h; cases h
  have hne : it.f0 ≠ ⟨#[]⟩ := hi.name
  have hpar : ∀ x ∈ a ++ b, x.f1 ≠ it.f0 := fun x hx q => by
    rcases hl.par x hx with h | ⟨y, h⟩
    · exact hne (q.symm.trans h)
    · exact hnew _ _ h q
  have hch : ∀ {n us}, Chain (a ++ b) n us → n ≠ it.f0 → Chain (a ++ it :: b) n us := by
    intro n us h
    induction h with
    | nil h => intro q; exact .nil (by rw [hlk, if_neg q]; exact h)
    | @cons n x us h k ih =>
      intro q
      exact .cons (x := x) (by rw [hlk, if_neg q]; exact h) (ih (hpar x (look_mem h).1))
  have hip : it.f1 ≠ it.f0 := by
    rcases hp with h | ⟨y, h⟩
    · rw [h]; exact fun q => hne q.symm
    · exact hnew _ _ h
  refine ⟨?_, ?_, ?_, ?_, ?_, ?_⟩
  · simp at hlen ⊢; omega
  · intro x hx
    rcases (hmem x).1 hx with rfl | hx
    · exact hi
    · exact hl.ok x hx
  · have hs := hl.sorted
    rw [List.pairwise_append] at hs ⊢
    obtain ⟨h1, h2, h3⟩ := hs
    have hbx : ∀ y ∈ b, lt it.f0 y.f0 = true := by
      intro y hy
      cases b with
      | nil => cases hy
      | cons x t =>
        have hx : lt it.f0 x.f0 = true := lt_total (hb x t rfl) (fun q => look_none.1 hn x (by simp) q)
        rcases List.mem_cons.1 hy with rfl | hy
        · exact hx
        · exact lt_trans hx ((List.pairwise_cons.1 h2).1 y hy)
    refine ⟨h1, List.pairwise_cons.2 ⟨hbx, h2⟩, fun x hx y hy => ?_⟩
    rcases List.mem_cons.1 hy with rfl | hy
    · exact ha x hx
    · exact h3 x hx y hy
  · intro x hx
    rcases (hmem x).1 hx with rfl | hx
    · rcases hp with h | ⟨y, h⟩
      · exact .inl h
      · exact .inr ⟨y, by rw [hlk, if_neg hip]; exact h⟩
    · rcases hl.par x hx with h | ⟨y, h⟩
      · exact .inl h
      · exact .inr ⟨y, by rw [hlk, if_neg (hpar x hx)]; exact h⟩
  · intro c x hx
    rw [csum_ins, (h0 c).2, ite_self, Int.add_zero]
    rcases (hmem x).1 hx with rfl | hx
    · rw [(h0 c).1, (h0 c).2]
      unfold csum
      rw [sumBy_zero (fun y hy => if_neg (hpar y hy))]; rfl
    · exact hl.sum c x hx
  · intro x hx
    rcases (hmem x).1 hx with rfl | hx
    · have := hch (hl.chainAll x.f1) hip
      exact ⟨_, .cons (x := x) (by rw [hlk, if_pos rfl]) this⟩
    · obtain ⟨us, h⟩ := hl.chain x hx
      exact ⟨us, hch h (fun q => look_none.1 hn x hx q)⟩
end Go.Proofs.Ytcgefpklljclgaa.Print
