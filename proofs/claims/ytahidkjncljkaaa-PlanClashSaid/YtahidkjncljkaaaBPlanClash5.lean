/- PlanClash: a part -/
import Derived.WalkSpells
import Derived.Laws.Cover1
import Derived.Shelf.Abstract
import Derived.Lib.SliceRun
import Derived.Lib.JoinLaws
import Derived.Lib.AppendZerosOnto
import Derived.Lib.Overlaps
import Derived.Laws.Externs
import Derived.Laws.IdiomCopy
import Derived.Laws.NewBlocks
import Derived.Deep.RegionLaw
import Derived.Shelf.RegionOpenPlain
import Derived.Test.YtahidkjncljkaaaRows
import Derived.WalkKit
import Derived.ProofKit
import Derived.OpenShut
import Derived.JoinedOf
import Derived.SizedLaws
import Derived.ChangeSlices
import Derived.Test.YtahidkjncljkaaaBPlanClash0
import Derived.Test.YtahidkjncljkaaaBPlanClash1
import Derived.Test.YtahidkjncljkaaaBPlanClash3
import Derived.Test.YtahidkjncljkaaaBPlanClash4
set_option linter.unusedVariables false
set_option linter.unusedSimpArgs false
namespace Go.Proofs.Ytahidkjncljkaaa.Print
open Go.RowKit Go.Proofs.YtahidkjncljkaaaW.PrintWords Go.Proofs.YtahidkjncljkaaaW.PrintLast Go.Proofs.YtahidkjncljkaaaW.PrintMore
attribute [local go_sem] max2_int min2_int max_two min_two max_three min_three max_four min_four

attribute [local go_sem high] eqA76
noncomputable def law18_awake.f:Option (Bool):=(plan_Steps.f (([(⟨(⟨#[97]⟩:ByteArray),(⟨#[]⟩:ByteArray),(⟨0,0,0⟩:S37)⟩:S39)]:List (S39))) ([]:List (S84)) ([]:List (S79))).bind fun bt4=>((plan_Steps.f ([]:List (S39)) ([]:List (S84)) ([]:List (S79))).bind fun bt8=>((law1_Num.f bt4.2).bind fun t12=>(if t12=0 then (if (bt4.1.length:Int)=1 then (if 0<(bt4.1.length:Int) then (if (((rd_T76 bt4.1 0).f0)==1 && ((((rd_T76 bt4.1 0).f1).toList)==([97]:List UInt8) && ((((rd_T76 bt4.1 0).f2).toList)==([]:List UInt8) && ((((rd_T76 bt4.1 0).f3.f0)==0 && (((rd_T76 bt4.1 0).f3.f1)==0 && (((rd_T76 bt4.1 0).f3.f2)==0)))))))=true then ((law1_Num.f bt8.2).bind fun t14=>(if t14=0 then (some ((bt8.1.length:Int)==0)) else (some false))) else (some false)) else (none)) else (some false)) else (some false))))
set_option maxHeartbeats 8000000 in
set_option maxRecDepth 100000 in
theorem law18_awake.calls (r:Bool) (w:World) (h:law18_awake.f=some r):
  Calls Try.prog 47 #[] w fun e w'=>e= .returned (.bool r)∧Below w.heap.size w w':=by
 have hu39:=Try.underlying39
 have hu76:=Try.underlying76
 have HB:=am_ (Below.refl w.heap.size w)
 have H:((plan_Steps.f (([(⟨(⟨#[97]⟩:ByteArray),(⟨#[]⟩:ByteArray),(⟨0,0,0⟩:S37)⟩:S39)]:List (S39))) ([]:List (S84)) ([]:List (S79))).bind fun bt4=>((plan_Steps.f ([]:List (S39)) ([]:List (S84)) ([]:List (S79))).bind fun bt8=>((law1_Num.f bt4.2).bind fun t12=>(if t12=0 then (if (bt4.1.length:Int)=1 then (if 0<(bt4.1.length:Int) then (if (((rd_T76 bt4.1 0).f0)==1 && ((((rd_T76 bt4.1 0).f1).toList)==([97]:List UInt8) && ((((rd_T76 bt4.1 0).f2).toList)==([]:List UInt8) && ((((rd_T76 bt4.1 0).f3.f0)==0 && (((rd_T76 bt4.1 0).f3.f1)==0 && (((rd_T76 bt4.1 0).f3.f2)==0)))))))=true then ((law1_Num.f bt8.2).bind fun t14=>(if t14=0 then (some ((bt8.1.length:Int)==0)) else (some false))) else (some false)) else (none)) else (some false)) else (some false)))))=some r:=h
 clear h
 obtain ⟨y1,hy1⟩: ∃y_:List (S39),y_=(([(⟨(⟨#[97]⟩:ByteArray),(⟨#[]⟩:ByteArray),(⟨0,0,0⟩:S37)⟩:S39)]:List (S39))):=⟨_,rfl⟩
 replace H:((plan_Steps.f y1 ([]:List (S84)) ([]:List (S79))).bind fun bt4=>((plan_Steps.f ([]:List (S39)) ([]:List (S84)) ([]:List (S79))).bind fun bt8=>((law1_Num.f bt4.2).bind fun t12=>(if t12=0 then (if (bt4.1.length:Int)=1 then (if 0<(bt4.1.length:Int) then (if (((rd_T76 bt4.1 0).f0)==1 && ((((rd_T76 bt4.1 0).f1).toList)==([97]:List UInt8) && ((((rd_T76 bt4.1 0).f2).toList)==([]:List UInt8) && ((((rd_T76 bt4.1 0).f3.f0)==0 && (((rd_T76 bt4.1 0).f3.f1)==0 && (((rd_T76 bt4.1 0).f3.f2)==0)))))))=true then ((law1_Num.f bt8.2).bind fun t14=>(if t14=0 then (some ((bt8.1.length:Int)==0)) else (some false))) else (some false)) else (none)) else (some false)) else (some false)))))=some r:=by first|(rw [hy1];with_reducible exact H)|(have H2_:=(Option.bind_some _ _).symm.trans H;rw [hy1];with_reducible exact H2_)|(have H2_:=(Option.bind_some _ _).symm.trans H;with_reducible exact H2_)|with_reducible exact H|(rw [hy1];exact H)|exact H
 have Ny1:=Aside0.mk hy1
 clear hy1
 replace H:=Option.bind_eq_some_iff.mp H
 obtain ⟨⟨t4,t5⟩,A10,H⟩:=H
 try dsimp only at H
 have A1:=Aside0.mk A10
 clear A10
 replace H:=Option.bind_eq_some_iff.mp H
 obtain ⟨⟨t8,t9⟩,A20,H⟩:=H
 try dsimp only at H
 have A2:=Aside0.mk A20
 clear A20
 replace H:=Option.bind_eq_some_iff.mp H
 obtain ⟨t12,A30,H⟩:=H
 try dsimp only at H
 have A3:=Aside0.mk A30
 clear A30
 by_cases c4:t12=0
 rotate_left
 ·rw [if_neg c4] at H
  have c4b0:(t12==0)=false:=beq_eq_false_iff_ne.mpr c4
  have c4b1:(t12 !=0)=true:=bne_iff_ne.mpr c4
  obtain rfl:=Option.some.inj H
  go_enter Try.func47,Try.ntmps47
  go_wp2_with (first|((with_reducible refine gate_dst (N:=7) rfl ?_);(try (refine gate_guard (by rfl) ?_;dsimp only));refine Kd.R_lit k39 _ 39 ?hg (N:=7) ?hd (xs:=([(⟨(⟨#[97]⟩:ByteArray),(⟨#[]⟩:ByteArray),(⟨0,0,0⟩:S37)⟩:S39)]:List (S39))) (inner:=[.string (⟨#[97]⟩:ByteArray), .string (⟨#[]⟩:ByteArray), .int .i64 0, .int .i64 0, .int .i64 0]) (ok:=fun _=>True) (okp:=fun _=>True) ?hr ?hp (fun _ hk=>hk) trivial (Below.refl _ _) (Nat.le_refl _) (by simp) ?_;(case hd=>rfl);(case hg=>rfl);(case hr=>first|(go_simp;done)|(go_simp;rfl));(case hp=>exact (Reps.c5 (show Kd.M k39 _ _ _ (⟨(⟨#[97]⟩:ByteArray),(⟨#[]⟩:ByteArray),(⟨0,0,0⟩:S37)⟩:S39) [.string (⟨#[97]⟩:ByteArray), .string (⟨#[]⟩:ByteArray), .int .i64 0, .int .i64 0, .int .i64 0] from (k39_mkM _ _ _ (⟨(⟨#[97]⟩:ByteArray),(⟨#[]⟩:ByteArray),(⟨0,0,0⟩:S37)⟩:S39))) (Reps.none _ _)));intro v2 w35 ho36 hb hg_ hnew_;clear hg_ hnew_;(first|rw [←Ny1.out] at ho36|(simp only [Int.reduceToNat] at ho36;rw [←Ny1.out] at ho36));have HO3:=am_ (Kd.R_lower ho36 (below_size (zl0_ HB)));replace HB:=am_ (below_step (zl0_ HB) hb);clear hb ho36;obtain ⟨Ao37,co37,eo37⟩:=Kd.R_slice HO3.out;subst eo37)|((with_reducible refine gate_callee (f:=48) rfl ?_);refine gl_ (some 8) Try.func48 #[.slice Ao37 y1.length co37, .slice none 0 0, .slice none 0 0] ?_;(refine (plan_Steps.calls _ _ y1 _ _ ([]:List (S84)) _ _ ([]:List (S79)) t4 t5 _ ?side1 ?side2 ?side3 ?side4 ?side5 ?side6 A1.out).mono ?_);(case side1=>exact zc_ (Kd.R_reads' HO3.out).2.2);(case side2=>exact (Kd.R_reads' HO3.out).2.1);(case side3=>exact Kd.C_nil _ _);(case side4=>exact Nat.le_refl _);(case side5=>exact Kd.C_nil _ _);(case side6=>exact Nat.le_refl _);rintro e w38 ⟨v6,rfl,ho0,hb⟩;refine ⟨_,rfl, ?_⟩;replace HO3:=am_ (Kd.R_below (zr_ HO3) hb);have HO7:=am_ (Kd.R_lower ho0 (below_size (zl0_ HB)));replace HB:=am_ (below_step (zl0_ HB) hb);(try clear hb);(try clear hb2);(try clear hk);(try clear hi);(try clear ho0))|((with_reducible refine gate_callee (f:=48) rfl ?_);refine gl_ (some 12) Try.func48 #[.slice none 0 0, .slice none 0 0, .slice none 0 0] ?_;(refine (plan_Steps.calls _ _ ([]:List (S39)) _ _ ([]:List (S84)) _ _ ([]:List (S79)) t8 t9 _ ?side1 ?side2 ?side3 ?side4 ?side5 ?side6 A2.out).mono ?_);(case side1=>exact Kd.C_nil _ _);(case side2=>exact Nat.le_refl _);(case side3=>exact Kd.C_nil _ _);(case side4=>exact Nat.le_refl _);(case side5=>exact Kd.C_nil _ _);(case side6=>exact Nat.le_refl _);rintro e w39 ⟨v10,rfl,ho0,hb⟩;refine ⟨_,rfl, ?_⟩;replace HO3:=am_ (Kd.R_below (zr_ HO3) hb);have HO11:=am_ (Kd.R_lower (Kd.R_new' ho0 (Kd.R_lt (zr_ HO7))) (below_size (zl0_ HB)));replace HO7:=am_ (Kd.R_elder' (zr_ HO7) (Kd.R_base ho0) hb);replace HB:=am_ (below_step (zl0_ HB) hb);(try clear hb);(try clear hb2);(try clear hk);(try clear hi);(try clear ho0))|((with_reducible refine gate_callee (f:=25) rfl ?_);refine gl_ (some 16) Try.func25 #[.int .i64 t5] ?_;(with_reducible refine (law1_Num.calls t5 t12 _ A3.out).mono ?_);rintro e w' ⟨rfl,⟨nd,rfl⟩⟩;refine ⟨_,rfl, ?_⟩))
  go_ret
  exact ⟨by first|rfl|(simp [errW_none,errW_some]<;>rfl)|(simp [*,errW_none,errW_some]<;>rfl),zl0_ HB⟩

 rw [if_pos c4] at H
 have c4b0:(t12==0)=true:=beq_iff_eq.mpr c4
 have c4b1:(t12 !=0)=false:=bne_eq_false_iff_eq.mpr c4
 clear c4
 by_cases c5:(t4.length:Int)=1
 rotate_left
 ·rw [if_neg c5] at H
  have c5b0:((t4.length:Int)==1)=false:=beq_eq_false_iff_ne.mpr c5
  have c5b1:((t4.length:Int) !=1)=true:=bne_iff_ne.mpr c5
  obtain rfl:=Option.some.inj H
  go_enter Try.func47,Try.ntmps47
  go_wp2_with (first|((with_reducible refine gate_dst (N:=7) rfl ?_);(try (refine gate_guard (by rfl) ?_;dsimp only));refine Kd.R_lit k39 _ 39 ?hg (N:=7) ?hd (xs:=([(⟨(⟨#[97]⟩:ByteArray),(⟨#[]⟩:ByteArray),(⟨0,0,0⟩:S37)⟩:S39)]:List (S39))) (inner:=[.string (⟨#[97]⟩:ByteArray), .string (⟨#[]⟩:ByteArray), .int .i64 0, .int .i64 0, .int .i64 0]) (ok:=fun _=>True) (okp:=fun _=>True) ?hr ?hp (fun _ hk=>hk) trivial (Below.refl _ _) (Nat.le_refl _) (by simp) ?_;(case hd=>rfl);(case hg=>rfl);(case hr=>first|(go_simp;done)|(go_simp;rfl));(case hp=>exact (Reps.c5 (show Kd.M k39 _ _ _ (⟨(⟨#[97]⟩:ByteArray),(⟨#[]⟩:ByteArray),(⟨0,0,0⟩:S37)⟩:S39) [.string (⟨#[97]⟩:ByteArray), .string (⟨#[]⟩:ByteArray), .int .i64 0, .int .i64 0, .int .i64 0] from (k39_mkM _ _ _ (⟨(⟨#[97]⟩:ByteArray),(⟨#[]⟩:ByteArray),(⟨0,0,0⟩:S37)⟩:S39))) (Reps.none _ _)));intro v2 w29 ho30 hb hg_ hnew_;clear hg_ hnew_;(first|rw [←Ny1.out] at ho30|(simp only [Int.reduceToNat] at ho30;rw [←Ny1.out] at ho30));have HO3:=am_ (Kd.R_lower ho30 (below_size (zl0_ HB)));replace HB:=am_ (below_step (zl0_ HB) hb);clear hb ho30;obtain ⟨Ao31,co31,eo31⟩:=Kd.R_slice HO3.out;subst eo31)|((with_reducible refine gate_callee (f:=48) rfl ?_);refine gl_ (some 8) Try.func48 #[.slice Ao31 y1.length co31, .slice none 0 0, .slice none 0 0] ?_;(refine (plan_Steps.calls _ _ y1 _ _ ([]:List (S84)) _ _ ([]:List (S79)) t4 t5 _ ?side1 ?side2 ?side3 ?side4 ?side5 ?side6 A1.out).mono ?_);(case side1=>exact zc_ (Kd.R_reads' HO3.out).2.2);(case side2=>exact (Kd.R_reads' HO3.out).2.1);(case side3=>exact Kd.C_nil _ _);(case side4=>exact Nat.le_refl _);(case side5=>exact Kd.C_nil _ _);(case side6=>exact Nat.le_refl _);rintro e w32 ⟨v6,rfl,ho0,hb⟩;refine ⟨_,rfl, ?_⟩;replace HO3:=am_ (Kd.R_below (zr_ HO3) hb);have HO7:=am_ (Kd.R_lower ho0 (below_size (zl0_ HB)));replace HB:=am_ (below_step (zl0_ HB) hb);(try clear hb);(try clear hb2);(try clear hk);(try clear hi);(try clear ho0))|((with_reducible refine gate_callee (f:=48) rfl ?_);refine gl_ (some 12) Try.func48 #[.slice none 0 0, .slice none 0 0, .slice none 0 0] ?_;(refine (plan_Steps.calls _ _ ([]:List (S39)) _ _ ([]:List (S84)) _ _ ([]:List (S79)) t8 t9 _ ?side1 ?side2 ?side3 ?side4 ?side5 ?side6 A2.out).mono ?_);(case side1=>exact Kd.C_nil _ _);(case side2=>exact Nat.le_refl _);(case side3=>exact Kd.C_nil _ _);(case side4=>exact Nat.le_refl _);(case side5=>exact Kd.C_nil _ _);(case side6=>exact Nat.le_refl _);rintro e w33 ⟨v10,rfl,ho0,hb⟩;refine ⟨_,rfl, ?_⟩;replace HO3:=am_ (Kd.R_below (zr_ HO3) hb);have HO11:=am_ (Kd.R_lower (Kd.R_new' ho0 (Kd.R_lt (zr_ HO7))) (below_size (zl0_ HB)));replace HO7:=am_ (Kd.R_elder' (zr_ HO7) (Kd.R_base ho0) hb);replace HB:=am_ (below_step (zl0_ HB) hb);(try clear hb);(try clear hb2);(try clear hk);(try clear hi);(try clear ho0))|((with_reducible refine gate_callee (f:=25) rfl ?_);refine gl_ (some 16) Try.func25 #[.int .i64 t5] ?_;(with_reducible refine (law1_Num.calls t5 t12 _ A3.out).mono ?_);rintro e w' ⟨rfl,⟨nd,rfl⟩⟩;refine ⟨_,rfl, ?_⟩;obtain ⟨Ao34,co34,eo34⟩:=Kd.R_slice HO7.out;subst eo34))
  go_ret
  exact ⟨by first|rfl|(simp [errW_none,errW_some]<;>rfl)|(simp [*,errW_none,errW_some]<;>rfl),zl0_ HB⟩
 rw [if_pos c5] at H
 have c5b0:((t4.length:Int)==1)=true:=beq_iff_eq.mpr c5
 have c5b1:((t4.length:Int) !=1)=false:=bne_eq_false_iff_eq.mpr c5
 clear c5
 by_cases c6:0<(t4.length:Int)
 rotate_left
 ·rw [if_neg c6] at H
  exact absurd H (by simp)
 rw [if_pos c6] at H
 have c6b0:decide (0<(t4.length:Int))=true:=decide_eq_true c6
 have c6b1:decide (0<t4.length)=true:=decide_eq_true (by omega)
 clear c6
 by_cases c7:(((rd_T76 t4 0).f0)==1 && ((((rd_T76 t4 0).f1).toList)==([97]:List UInt8) && ((((rd_T76 t4 0).f2).toList)==([]:List UInt8) && ((((rd_T76 t4 0).f3.f0)==0 && (((rd_T76 t4 0).f3.f1)==0 && (((rd_T76 t4 0).f3.f2)==0)))))))=true
 rotate_left
 ·rw [if_neg c7] at H
  have c7b0:(((rd_T76 t4 0).f0)==1 && ((((rd_T76 t4 0).f1).toList)==([97]:List UInt8) && ((((rd_T76 t4 0).f2).toList)==([]:List UInt8) && ((((rd_T76 t4 0).f3.f0)==0 && (((rd_T76 t4 0).f3.f1)==0 && (((rd_T76 t4 0).f3.f2)==0)))))))=false:=by simpa using c7
  have c7b9:(((rd_T76 t4 0).f0)==1 && ((((rd_T76 t4 0).f1).toList)==([97]:List UInt8) && ((((rd_T76 t4 0).f2).toList).isEmpty && ((((rd_T76 t4 0).f3.f0)==0 && (((rd_T76 t4 0).f3.f1)==0 && (((rd_T76 t4 0).f3.f2)==0)))))))=false:=by
    have e_: ∀l:List UInt8,l.isEmpty=(l==([]:List UInt8)):=fun l=>by cases l<;>rfl
    rw [e_]
    exact c7b0
  (try (have c7b1:decide (((rd_T76 t4 0).f0)=1 && ((((rd_T76 t4 0).f1).toList)==([97]:List UInt8) && ((((rd_T76 t4 0).f2).toList)==([]:List UInt8) && ((((rd_T76 t4 0).f3.f0)==0 && (((rd_T76 t4 0).f3.f1)==0 && (((rd_T76 t4 0).f3.f2)==0)))))))=false:=by simpa using c7))
  (try (have c7b2:(((rd_T76 t4 0).f0)==1 && ((((rd_T76 t4 0).f1).toList)==([97]:List UInt8) && ((((rd_T76 t4 0).f2).toList)==([]:List UInt8) && ((((rd_T76 t4 0).f3.f0)==0 && (((rd_T76 t4 0).f3.f1)==0 && (((rd_T76 t4 0).f3.f2)==0)))))))=false:=by simpa using c7))
  (try (have c7b3: ¬(((rd_T76 t4 0).f0)=1 && ((((rd_T76 t4 0).f1).toList)==([97]:List UInt8) && ((((rd_T76 t4 0).f2).toList)==([]:List UInt8) && ((((rd_T76 t4 0).f3.f0)==0 && (((rd_T76 t4 0).f3.f1)==0 && (((rd_T76 t4 0).f3.f2)==0))))))):=by simpa using c7))
  clear c7
  obtain rfl:=Option.some.inj H
  go_enter Try.func47,Try.ntmps47
  go_wp2_with (first|((with_reducible refine gate_dst (N:=7) rfl ?_);(try (refine gate_guard (by rfl) ?_;dsimp only));refine Kd.R_lit k39 _ 39 ?hg (N:=7) ?hd (xs:=([(⟨(⟨#[97]⟩:ByteArray),(⟨#[]⟩:ByteArray),(⟨0,0,0⟩:S37)⟩:S39)]:List (S39))) (inner:=[.string (⟨#[97]⟩:ByteArray), .string (⟨#[]⟩:ByteArray), .int .i64 0, .int .i64 0, .int .i64 0]) (ok:=fun _=>True) (okp:=fun _=>True) ?hr ?hp (fun _ hk=>hk) trivial (Below.refl _ _) (Nat.le_refl _) (by simp) ?_;(case hd=>rfl);(case hg=>rfl);(case hr=>first|(go_simp;done)|(go_simp;rfl));(case hp=>exact (Reps.c5 (show Kd.M k39 _ _ _ (⟨(⟨#[97]⟩:ByteArray),(⟨#[]⟩:ByteArray),(⟨0,0,0⟩:S37)⟩:S39) [.string (⟨#[97]⟩:ByteArray), .string (⟨#[]⟩:ByteArray), .int .i64 0, .int .i64 0, .int .i64 0] from (k39_mkM _ _ _ (⟨(⟨#[97]⟩:ByteArray),(⟨#[]⟩:ByteArray),(⟨0,0,0⟩:S37)⟩:S39))) (Reps.none _ _)));intro v2 w23 ho24 hb hg_ hnew_;clear hg_ hnew_;(first|rw [←Ny1.out] at ho24|(simp only [Int.reduceToNat] at ho24;rw [←Ny1.out] at ho24));have HO3:=am_ (Kd.R_lower ho24 (below_size (zl0_ HB)));replace HB:=am_ (below_step (zl0_ HB) hb);clear hb ho24;obtain ⟨Ao25,co25,eo25⟩:=Kd.R_slice HO3.out;subst eo25)|((with_reducible refine gate_callee (f:=48) rfl ?_);refine gl_ (some 8) Try.func48 #[.slice Ao25 y1.length co25, .slice none 0 0, .slice none 0 0] ?_;(refine (plan_Steps.calls _ _ y1 _ _ ([]:List (S84)) _ _ ([]:List (S79)) t4 t5 _ ?side1 ?side2 ?side3 ?side4 ?side5 ?side6 A1.out).mono ?_);(case side1=>exact zc_ (Kd.R_reads' HO3.out).2.2);(case side2=>exact (Kd.R_reads' HO3.out).2.1);(case side3=>exact Kd.C_nil _ _);(case side4=>exact Nat.le_refl _);(case side5=>exact Kd.C_nil _ _);(case side6=>exact Nat.le_refl _);rintro e w26 ⟨v6,rfl,ho0,hb⟩;refine ⟨_,rfl, ?_⟩;replace HO3:=am_ (Kd.R_below (zr_ HO3) hb);have HO7:=am_ (Kd.R_lower ho0 (below_size (zl0_ HB)));replace HB:=am_ (below_step (zl0_ HB) hb);(try clear hb);(try clear hb2);(try clear hk);(try clear hi);(try clear ho0))|((with_reducible refine gate_callee (f:=48) rfl ?_);refine gl_ (some 12) Try.func48 #[.slice none 0 0, .slice none 0 0, .slice none 0 0] ?_;(refine (plan_Steps.calls _ _ ([]:List (S39)) _ _ ([]:List (S84)) _ _ ([]:List (S79)) t8 t9 _ ?side1 ?side2 ?side3 ?side4 ?side5 ?side6 A2.out).mono ?_);(case side1=>exact Kd.C_nil _ _);(case side2=>exact Nat.le_refl _);(case side3=>exact Kd.C_nil _ _);(case side4=>exact Nat.le_refl _);(case side5=>exact Kd.C_nil _ _);(case side6=>exact Nat.le_refl _);rintro e w27 ⟨v10,rfl,ho0,hb⟩;refine ⟨_,rfl, ?_⟩;replace HO3:=am_ (Kd.R_below (zr_ HO3) hb);have HO11:=am_ (Kd.R_lower (Kd.R_new' ho0 (Kd.R_lt (zr_ HO7))) (below_size (zl0_ HB)));replace HO7:=am_ (Kd.R_elder' (zr_ HO7) (Kd.R_base ho0) hb);replace HB:=am_ (below_step (zl0_ HB) hb);(try clear hb);(try clear hb2);(try clear hk);(try clear hi);(try clear ho0))|((with_reducible refine gate_callee (f:=25) rfl ?_);refine gl_ (some 16) Try.func25 #[.int .i64 t5] ?_;(with_reducible refine (law1_Num.calls t5 t12 _ A3.out).mono ?_);rintro e w' ⟨rfl,⟨nd,rfl⟩⟩;refine ⟨_,rfl, ?_⟩;obtain ⟨Ao28,co28,eo28⟩:=Kd.R_slice HO7.out;subst eo28;have p13:0≤(0:Int):=(by omega);have q13:0<(t4.length:Int):=of_decide_eq_true zq_;obtain ⟨ad13,e13,hx13_0,hx13_1,hx13_2,hx13_3,hx13_4,hx13_5⟩:=at_T76 (Kd.R_reads' HO7.out).2.2 0 p13 q13;cases e13;have qi13:(0<t4.length)=True:=eq_true (by omega);(try rw [show ((0:Int)).toNat=0 from rfl] at hx13_0);(try rw [show 0*6=0 from rfl] at hx13_0);(try rw [Addr.add_zero'] at hx13_0);(try rw [show ((0:Int)).toNat=0 from rfl] at hx13_1);(try rw [show 0*6=0 from rfl] at hx13_1);(try rw [Addr.add_zero'] at hx13_1);(try rw [show ((0:Int)).toNat=0 from rfl] at hx13_2);(try rw [show 0*6=0 from rfl] at hx13_2);(try rw [Addr.add_zero'] at hx13_2);(try rw [show ((0:Int)).toNat=0 from rfl] at hx13_3);(try rw [show 0*6=0 from rfl] at hx13_3);(try rw [Addr.add_zero'] at hx13_3);(try rw [show ((0:Int)).toNat=0 from rfl] at hx13_4);(try rw [show 0*6=0 from rfl] at hx13_4);(try rw [Addr.add_zero'] at hx13_4);(try rw [show ((0:Int)).toNat=0 from rfl] at hx13_5);(try rw [show 0*6=0 from rfl] at hx13_5);(try rw [Addr.add_zero'] at hx13_5);replace p13:=eq_true p13;replace q13:=eq_true q13))
  go_ret
  exact ⟨by first|rfl|(simp [errW_none,errW_some]<;>rfl)|(simp [*,errW_none,errW_some]<;>rfl),zl0_ HB⟩
 rw [if_pos c7] at H
 have c7b0:(((rd_T76 t4 0).f0)==1 && ((((rd_T76 t4 0).f1).toList)==([97]:List UInt8) && ((((rd_T76 t4 0).f2).toList)==([]:List UInt8) && ((((rd_T76 t4 0).f3.f0)==0 && (((rd_T76 t4 0).f3.f1)==0 && (((rd_T76 t4 0).f3.f2)==0)))))))=true:=c7
 have c7b9:(((rd_T76 t4 0).f0)==1 && ((((rd_T76 t4 0).f1).toList)==([97]:List UInt8) && ((((rd_T76 t4 0).f2).toList).isEmpty && ((((rd_T76 t4 0).f3.f0)==0 && (((rd_T76 t4 0).f3.f1)==0 && (((rd_T76 t4 0).f3.f2)==0)))))))=true:=by
   have e_: ∀l:List UInt8,l.isEmpty=(l==([]:List UInt8)):=fun l=>by cases l<;>rfl
   rw [e_]
   exact c7b0
 (try (have c7b1:decide (((rd_T76 t4 0).f0)=1 && ((((rd_T76 t4 0).f1).toList)==([97]:List UInt8) && ((((rd_T76 t4 0).f2).toList)==([]:List UInt8) && ((((rd_T76 t4 0).f3.f0)==0 && (((rd_T76 t4 0).f3.f1)==0 && (((rd_T76 t4 0).f3.f2)==0)))))))=true:=by simpa using c7))
 (try (have c7b2:(((rd_T76 t4 0).f0)==1 && ((((rd_T76 t4 0).f1).toList)==([97]:List UInt8) && ((((rd_T76 t4 0).f2).toList)==([]:List UInt8) && ((((rd_T76 t4 0).f3.f0)==0 && (((rd_T76 t4 0).f3.f1)==0 && (((rd_T76 t4 0).f3.f2)==0)))))))=true:=by simpa using c7))
 clear c7
 replace H:=Option.bind_eq_some_iff.mp H
 obtain ⟨t14,A80,H⟩:=H
 try dsimp only at H
 have A8:=Aside0.mk A80
 clear A80
 by_cases c9:t14=0
 ·rw [if_pos c9] at H
  have c9b0:(t14==0)=true:=beq_iff_eq.mpr c9
  have c9b1:(t14 !=0)=false:=bne_eq_false_iff_eq.mpr c9
  clear c9
  obtain rfl:=Option.some.inj H
  go_enter Try.func47,Try.ntmps47
  go_wp2_with (first|((with_reducible refine gate_dst (N:=7) rfl ?_);(try (refine gate_guard (by rfl) ?_;dsimp only));refine Kd.R_lit k39 _ 39 ?hg (N:=7) ?hd (xs:=([(⟨(⟨#[97]⟩:ByteArray),(⟨#[]⟩:ByteArray),(⟨0,0,0⟩:S37)⟩:S39)]:List (S39))) (inner:=[.string (⟨#[97]⟩:ByteArray), .string (⟨#[]⟩:ByteArray), .int .i64 0, .int .i64 0, .int .i64 0]) (ok:=fun _=>True) (okp:=fun _=>True) ?hr ?hp (fun _ hk=>hk) trivial (Below.refl _ _) (Nat.le_refl _) (by simp) ?_;(case hd=>rfl);(case hg=>rfl);(case hr=>first|(go_simp;done)|(go_simp;rfl));(case hp=>exact (Reps.c5 (show Kd.M k39 _ _ _ (⟨(⟨#[97]⟩:ByteArray),(⟨#[]⟩:ByteArray),(⟨0,0,0⟩:S37)⟩:S39) [.string (⟨#[97]⟩:ByteArray), .string (⟨#[]⟩:ByteArray), .int .i64 0, .int .i64 0, .int .i64 0] from (k39_mkM _ _ _ (⟨(⟨#[97]⟩:ByteArray),(⟨#[]⟩:ByteArray),(⟨0,0,0⟩:S37)⟩:S39))) (Reps.none _ _)));intro v2 w10 ho11 hb hg_ hnew_;clear hg_ hnew_;(first|rw [←Ny1.out] at ho11|(simp only [Int.reduceToNat] at ho11;rw [←Ny1.out] at ho11));have HO3:=am_ (Kd.R_lower ho11 (below_size (zl0_ HB)));replace HB:=am_ (below_step (zl0_ HB) hb);clear hb ho11;obtain ⟨Ao12,co12,eo12⟩:=Kd.R_slice HO3.out;subst eo12)|((with_reducible refine gate_callee (f:=48) rfl ?_);refine gl_ (some 8) Try.func48 #[.slice Ao12 y1.length co12, .slice none 0 0, .slice none 0 0] ?_;(refine (plan_Steps.calls _ _ y1 _ _ ([]:List (S84)) _ _ ([]:List (S79)) t4 t5 _ ?side1 ?side2 ?side3 ?side4 ?side5 ?side6 A1.out).mono ?_);(case side1=>exact zc_ (Kd.R_reads' HO3.out).2.2);(case side2=>exact (Kd.R_reads' HO3.out).2.1);(case side3=>exact Kd.C_nil _ _);(case side4=>exact Nat.le_refl _);(case side5=>exact Kd.C_nil _ _);(case side6=>exact Nat.le_refl _);rintro e w13 ⟨v6,rfl,ho0,hb⟩;refine ⟨_,rfl, ?_⟩;replace HO3:=am_ (Kd.R_below (zr_ HO3) hb);have HO7:=am_ (Kd.R_lower ho0 (below_size (zl0_ HB)));replace HB:=am_ (below_step (zl0_ HB) hb);(try clear hb);(try clear hb2);(try clear hk);(try clear hi);(try clear ho0))|((with_reducible refine gate_callee (f:=48) rfl ?_);refine gl_ (some 12) Try.func48 #[.slice none 0 0, .slice none 0 0, .slice none 0 0] ?_;(refine (plan_Steps.calls _ _ ([]:List (S39)) _ _ ([]:List (S84)) _ _ ([]:List (S79)) t8 t9 _ ?side1 ?side2 ?side3 ?side4 ?side5 ?side6 A2.out).mono ?_);(case side1=>exact Kd.C_nil _ _);(case side2=>exact Nat.le_refl _);(case side3=>exact Kd.C_nil _ _);(case side4=>exact Nat.le_refl _);(case side5=>exact Kd.C_nil _ _);(case side6=>exact Nat.le_refl _);rintro e w14 ⟨v10,rfl,ho0,hb⟩;refine ⟨_,rfl, ?_⟩;replace HO3:=am_ (Kd.R_below (zr_ HO3) hb);have HO11:=am_ (Kd.R_lower (Kd.R_new' ho0 (Kd.R_lt (zr_ HO7))) (below_size (zl0_ HB)));replace HO7:=am_ (Kd.R_elder' (zr_ HO7) (Kd.R_base ho0) hb);replace HB:=am_ (below_step (zl0_ HB) hb);(try clear hb);(try clear hb2);(try clear hk);(try clear hi);(try clear ho0))|((with_reducible refine gate_callee (f:=25) rfl ?_);refine gl_ (some 16) Try.func25 #[.int .i64 t5] ?_;(with_reducible refine (law1_Num.calls t5 t12 _ A3.out).mono ?_);rintro e w' ⟨rfl,⟨nd,rfl⟩⟩;refine ⟨_,rfl, ?_⟩;obtain ⟨Ao15,co15,eo15⟩:=Kd.R_slice HO7.out;subst eo15;have p13:0≤(0:Int):=(by omega);have q13:0<(t4.length:Int):=of_decide_eq_true zq_;obtain ⟨ad13,e13,hx13_0,hx13_1,hx13_2,hx13_3,hx13_4,hx13_5⟩:=at_T76 (Kd.R_reads' HO7.out).2.2 0 p13 q13;cases e13;have qi13:(0<t4.length)=True:=eq_true (by omega);(try rw [show ((0:Int)).toNat=0 from rfl] at hx13_0);(try rw [show 0*6=0 from rfl] at hx13_0);(try rw [Addr.add_zero'] at hx13_0);(try rw [show ((0:Int)).toNat=0 from rfl] at hx13_1);(try rw [show 0*6=0 from rfl] at hx13_1);(try rw [Addr.add_zero'] at hx13_1);(try rw [show ((0:Int)).toNat=0 from rfl] at hx13_2);(try rw [show 0*6=0 from rfl] at hx13_2);(try rw [Addr.add_zero'] at hx13_2);(try rw [show ((0:Int)).toNat=0 from rfl] at hx13_3);(try rw [show 0*6=0 from rfl] at hx13_3);(try rw [Addr.add_zero'] at hx13_3);(try rw [show ((0:Int)).toNat=0 from rfl] at hx13_4);(try rw [show 0*6=0 from rfl] at hx13_4);(try rw [Addr.add_zero'] at hx13_4);(try rw [show ((0:Int)).toNat=0 from rfl] at hx13_5);(try rw [show 0*6=0 from rfl] at hx13_5);(try rw [Addr.add_zero'] at hx13_5);replace p13:=eq_true p13;replace q13:=eq_true q13)|(go_at_call 25;(with_reducible refine (law1_Num.calls t9 t14 _ A8.out).mono ?_);rintro e w' ⟨rfl,⟨nd,rfl⟩⟩;obtain ⟨Ao16,co16,eo16⟩:=Kd.R_slice HO11.out;subst eo16))
  go_ret
  exact ⟨by first|rfl|(simp [errW_none,errW_some]<;>rfl)|(simp [*,errW_none,errW_some]<;>rfl),zl0_ HB⟩
 rw [if_neg c9] at H
 have c9b0:(t14==0)=false:=beq_eq_false_iff_ne.mpr c9
 have c9b1:(t14 !=0)=true:=bne_iff_ne.mpr c9
 obtain rfl:=Option.some.inj H
 go_enter Try.func47,Try.ntmps47
 go_wp2_with (first|((with_reducible refine gate_dst (N:=7) rfl ?_);(try (refine gate_guard (by rfl) ?_;dsimp only));refine Kd.R_lit k39 _ 39 ?hg (N:=7) ?hd (xs:=([(⟨(⟨#[97]⟩:ByteArray),(⟨#[]⟩:ByteArray),(⟨0,0,0⟩:S37)⟩:S39)]:List (S39))) (inner:=[.string (⟨#[97]⟩:ByteArray), .string (⟨#[]⟩:ByteArray), .int .i64 0, .int .i64 0, .int .i64 0]) (ok:=fun _=>True) (okp:=fun _=>True) ?hr ?hp (fun _ hk=>hk) trivial (Below.refl _ _) (Nat.le_refl _) (by simp) ?_;(case hd=>rfl);(case hg=>rfl);(case hr=>first|(go_simp;done)|(go_simp;rfl));(case hp=>exact (Reps.c5 (show Kd.M k39 _ _ _ (⟨(⟨#[97]⟩:ByteArray),(⟨#[]⟩:ByteArray),(⟨0,0,0⟩:S37)⟩:S39) [.string (⟨#[97]⟩:ByteArray), .string (⟨#[]⟩:ByteArray), .int .i64 0, .int .i64 0, .int .i64 0] from (k39_mkM _ _ _ (⟨(⟨#[97]⟩:ByteArray),(⟨#[]⟩:ByteArray),(⟨0,0,0⟩:S37)⟩:S39))) (Reps.none _ _)));intro v2 w17 ho18 hb hg_ hnew_;clear hg_ hnew_;(first|rw [←Ny1.out] at ho18|(simp only [Int.reduceToNat] at ho18;rw [←Ny1.out] at ho18));have HO3:=am_ (Kd.R_lower ho18 (below_size (zl0_ HB)));replace HB:=am_ (below_step (zl0_ HB) hb);clear hb ho18;obtain ⟨Ao19,co19,eo19⟩:=Kd.R_slice HO3.out;subst eo19)|((with_reducible refine gate_callee (f:=48) rfl ?_);refine gl_ (some 8) Try.func48 #[.slice Ao19 y1.length co19, .slice none 0 0, .slice none 0 0] ?_;(refine (plan_Steps.calls _ _ y1 _ _ ([]:List (S84)) _ _ ([]:List (S79)) t4 t5 _ ?side1 ?side2 ?side3 ?side4 ?side5 ?side6 A1.out).mono ?_);(case side1=>exact zc_ (Kd.R_reads' HO3.out).2.2);(case side2=>exact (Kd.R_reads' HO3.out).2.1);(case side3=>exact Kd.C_nil _ _);(case side4=>exact Nat.le_refl _);(case side5=>exact Kd.C_nil _ _);(case side6=>exact Nat.le_refl _);rintro e w20 ⟨v6,rfl,ho0,hb⟩;refine ⟨_,rfl, ?_⟩;replace HO3:=am_ (Kd.R_below (zr_ HO3) hb);have HO7:=am_ (Kd.R_lower ho0 (below_size (zl0_ HB)));replace HB:=am_ (below_step (zl0_ HB) hb);(try clear hb);(try clear hb2);(try clear hk);(try clear hi);(try clear ho0))|((with_reducible refine gate_callee (f:=48) rfl ?_);refine gl_ (some 12) Try.func48 #[.slice none 0 0, .slice none 0 0, .slice none 0 0] ?_;(refine (plan_Steps.calls _ _ ([]:List (S39)) _ _ ([]:List (S84)) _ _ ([]:List (S79)) t8 t9 _ ?side1 ?side2 ?side3 ?side4 ?side5 ?side6 A2.out).mono ?_);(case side1=>exact Kd.C_nil _ _);(case side2=>exact Nat.le_refl _);(case side3=>exact Kd.C_nil _ _);(case side4=>exact Nat.le_refl _);(case side5=>exact Kd.C_nil _ _);(case side6=>exact Nat.le_refl _);rintro e w21 ⟨v10,rfl,ho0,hb⟩;refine ⟨_,rfl, ?_⟩;replace HO3:=am_ (Kd.R_below (zr_ HO3) hb);have HO11:=am_ (Kd.R_lower (Kd.R_new' ho0 (Kd.R_lt (zr_ HO7))) (below_size (zl0_ HB)));replace HO7:=am_ (Kd.R_elder' (zr_ HO7) (Kd.R_base ho0) hb);replace HB:=am_ (below_step (zl0_ HB) hb);(try clear hb);(try clear hb2);(try clear hk);(try clear hi);(try clear ho0))|((with_reducible refine gate_callee (f:=25) rfl ?_);refine gl_ (some 16) Try.func25 #[.int .i64 t5] ?_;(with_reducible refine (law1_Num.calls t5 t12 _ A3.out).mono ?_);rintro e w' ⟨rfl,⟨nd,rfl⟩⟩;refine ⟨_,rfl, ?_⟩;obtain ⟨Ao22,co22,eo22⟩:=Kd.R_slice HO7.out;subst eo22;have p13:0≤(0:Int):=(by omega);have q13:0<(t4.length:Int):=of_decide_eq_true zq_;obtain ⟨ad13,e13,hx13_0,hx13_1,hx13_2,hx13_3,hx13_4,hx13_5⟩:=at_T76 (Kd.R_reads' HO7.out).2.2 0 p13 q13;cases e13;have qi13:(0<t4.length)=True:=eq_true (by omega);(try rw [show ((0:Int)).toNat=0 from rfl] at hx13_0);(try rw [show 0*6=0 from rfl] at hx13_0);(try rw [Addr.add_zero'] at hx13_0);(try rw [show ((0:Int)).toNat=0 from rfl] at hx13_1);(try rw [show 0*6=0 from rfl] at hx13_1);(try rw [Addr.add_zero'] at hx13_1);(try rw [show ((0:Int)).toNat=0 from rfl] at hx13_2);(try rw [show 0*6=0 from rfl] at hx13_2);(try rw [Addr.add_zero'] at hx13_2);(try rw [show ((0:Int)).toNat=0 from rfl] at hx13_3);(try rw [show 0*6=0 from rfl] at hx13_3);(try rw [Addr.add_zero'] at hx13_3);(try rw [show ((0:Int)).toNat=0 from rfl] at hx13_4);(try rw [show 0*6=0 from rfl] at hx13_4);(try rw [Addr.add_zero'] at hx13_4);(try rw [show ((0:Int)).toNat=0 from rfl] at hx13_5);(try rw [show 0*6=0 from rfl] at hx13_5);(try rw [Addr.add_zero'] at hx13_5);replace p13:=eq_true p13;replace q13:=eq_true q13)|(go_at_call 25;(with_reducible refine (law1_Num.calls t9 t14 _ A8.out).mono ?_);rintro e w' ⟨rfl,⟨nd,rfl⟩⟩))
 go_ret
 exact ⟨by first|rfl|(simp [errW_none,errW_some]<;>rfl)|(simp [*,errW_none,errW_some]<;>rfl),zl0_ HB⟩
def law18_Live.l0:Nat→Int→List (S79)→List (S84)→Int→Option ((List (S84))×(List (S79)))
 |0,_,_,_,_=>none
 |k+1,x1,x6,x7,x8=>if x8<(x6.length:Int) then (if (Int.tmod (wrap64 (x8+(wrap64 (x1)))) 4)>0 then (if 0≤x8 then (if x7.length<2199023255552 then (law18_Live.l0 k x1 x6 (x7++ [(⟨(rd_T79 x6 x8).f0,(rd_T79 x6 x8).f1,(⟨(rd_T79 x6 x8).f2.f0,(rd_T79 x6 x8).f2.f1,(rd_T79 x6 x8).f2.f2⟩:S37),(rd_T79 x6 x8).f5⟩:S84)]) (wrap64 (x8+1))) else (none)) else (none)) else (law18_Live.l0 k x1 x6 x7 (wrap64 (x8+1)))) else (if (Int.tmod x1 5)=0 then (if x7.length<2199023255552 then (some ((x7++ [(⟨(⟨#[122,122]⟩:ByteArray),(⟨#[]⟩:ByteArray),(⟨0,0,0⟩:S37),1⟩:S84)]),x6)) else (none)) else (some (x7,x6)))
def law18_Live.f (k:Nat) (l0:List Int) (a1:Int):Option ((List (S84))×(List (S79))):=(law12_Make.f k l0).bind fun t1=>(law18_Live.l0 k a1 t1 ([]:List (S84)) 0)
theorem law18_Live.mono_l: ∀k,(∀y0 y1 y2 y3,LeO (law18_Live.l0 k y0 y1 y2 y3) (law18_Live.l0 (k+1) y0 y1 y2 y3))
 |0=>fun _ _ _ _ r h=>by simp [law18_Live.l0] at h
 |k+1=>by
  have ih0:=law18_Live.mono_l k
  intro y0 y1 y2 y3
  unfold law18_Live.l0
  repeat' first
  |(with_reducible exact ih0 _ _ _ _)
  |(with_reducible exact law12_Make.mono _ _)
  |(with_reducible exact LeO.refl _)
  |(with_reducible exact LeO.none _)
  |(with_reducible refine LeO.ite ?_ ?_)
  |(with_reducible refine LeO.bind ?_ (fun _=> ?_))
  |exact ih0 _ _ _ _
  |exact law12_Make.mono _ _
  |exact LeO.none _
  |refine LeO.ite ?_ ?_
  |refine LeO.bind ?_ (fun _=> ?_)
theorem law18_Live.mono: ∀a0 a1 k,LeO (law18_Live.f k a0 a1) (law18_Live.f (k+1) a0 a1):=by
 intro a0 a1 k
 have ih0:=law18_Live.mono_l k
 unfold law18_Live.f
 repeat' first
  |(with_reducible exact ih0 _ _ _ _)
  |(with_reducible exact law12_Make.mono _ _)
  |(with_reducible exact LeO.refl _)
  |(with_reducible exact LeO.none _)
  |(with_reducible refine LeO.ite ?_ ?_)
  |(with_reducible refine LeO.bind ?_ (fun _=> ?_))
  |exact ih0 _ _ _ _
  |exact law12_Make.mono _ _
  |exact LeO.none _
  |refine LeO.ite ?_ ?_
  |refine LeO.bind ?_ (fun _=> ?_)
def law18_Live.T7:Bool×List (List Nat×List Nat):=(true,[([],[]),([],[]),([],[]),([1,2],[1,2]),([3],[3]),([4],[4]),([],[]),([],[]),([6,7],[6,7]),([8],[8]),([9],[9]),([],[]),([],[]),([11,12],[11,12]),([13],[13]),([14],[14]),([],[]),([],[]),([16,17],[16,17]),([18],[18]),([19],[19]),([5,10,15,20],[5,10,15,20]),([21],[21]),([0,22],[0,22]),([23,23,0,1,2,3,4,5,6,7,8,9,10,11,12,13,14,15,16,17,18,19,20,21,22,23],[0,23])])
def law18_Live.B7:List Nat:=[0,0,0,6,14,30,0,0,192,448,960,0,0,6144,14336,30720,0,0,196608,458752,983040,2097150,4194302,8388607,16777215]
theorem law18_Live.tab7:rtab .any (opsOf Try.f50 7)=law18_Live.T7:=by kernel_rfl
theorem law18_Live.bits7:waitsOk law18_Live.T7.2 law18_Live.B7=true:=by kernel_rfl
set_option maxHeartbeats 8000000 in
set_option maxRecDepth 100000 in
theorem law18_Live.calls (k:Nat) (A0:Option Addr) (c0:Nat) (l0:List Int) (a1:Int) (r1:List (S84)) (r2:List (S79)) (w:World) (hr0:Kd.C (Kd.int .u8) w A0 l0.length l0) (hc0:l0.length≤c0) (h:law18_Live.f k l0 a1=some (r1,r2)):
  Calls Try.prog 50 #[.slice A0 l0.length c0, .int .u8 a1] w fun e w'=> ∃v0_ v1_:Value,e= .returned (.tuple #[v0_,v1_])∧Kd.R k84 84 w' w.heap.size (fun _=>True) v0_ r1∧Kd.R k79 79 w' w.heap.size (fun _=>True) v1_ r2∧Below w.heap.size w w':=by
 have hu37:=Try.underlying37
 have hu84:=Try.underlying84
 have HR0:=Aside0.mk hr0
 have HC0:=Aside0.mk hc0
 clear hr0 hc0
 have HB:=am_ (Below.refl w.heap.size w)
 have H:((law12_Make.f k l0).bind fun t1=>(law18_Live.l0 k a1 t1 ([]:List (S84)) 0))=some (r1,r2):=h
 clear h
 replace H:=Option.bind_eq_some_iff.mp H
 obtain ⟨t1,A30,H⟩:=H
 try dsimp only at H
 have A3:=Aside0.mk A30
 clear A30
 have H':=Aside0.mk H
 clear H
 go_enter Try.func50,Try.ntmps50
 go_wp2_with (first|((with_reducible refine gate_callee (f:=38) rfl ?_);refine gl_ (some 10) Try.func38 #[.slice A0 l0.length c0] ?_;(with_reducible refine (law12_Make.calls k _ _ l0 t1 _ ?side1 ?side2 A3.out).mono ?_);(case side1=>repeat (first|exact HR0.out|(with_reducible refine Kd.C_alloc ?_ _)|(with_reducible refine Kd.C_drewN ?_ _)|(with_reducible refine Kd.C_drew ?_)));(case side2=>exact HC0.out);rintro e w4 ⟨v2,rfl,ho0,hb⟩;refine ⟨_,rfl, ?_⟩;have HO3:=am_ (Kd.R_lower ho0 (below_size (zl0_ HB)));replace HB:=am_ (below_step (zl0_ HB) hb);(try clear hb);(try clear hb2);(try clear hk);(try clear hi);(try clear ho0)))
 go_loopg [7,8] k (fun kq v7 v8 w'=> ∃(x7_1:List (S84)) (x8_1:Int),v8= .int .i64 x8_1∧Aside0 (law18_Live.l0 kq a1 t1 x7_1 x8_1=some (r1,r2))∧Aside0 (kq≤k)∧Aside0 (Kd.R k79 79 w' w.heap.size (fun _=>True) v2 t1)∧Aside0 (Kd.R k84 84 w' w.heap.size (fun _=>True) v7 x7_1)∧Aside0 (Below w.heap.size w w'))
 case atStart=>exact ⟨(([]:List (S84))),(0),(by first|rfl|(simp;done)|(simp [*];done)),H',⟨Nat.le_refl _⟩,⟨by (with_reducible repeat (first|apply Kd.R_alloc|apply Kd.R_drewN|apply Kd.R_drew));exact HO3.out⟩,⟨by first|exact Kd.R_nil _ _ _ _ _|exact Kd.N_nil _ _ _ _ _|exact Kd.V_nil _ _ _ _ _|exact Kd.Q_nil _ _ _ _ _|exact Kd.S_nil _ _ _ _ _⟩,⟨zl0_ HB⟩⟩
 case round=>
  clear H'
  try clear p2
  try clear c3
  obtain ⟨x7_1,x8_1,rfl,HA,HK1,HO_6,HO_7,HB⟩:=hrel
  cases gk with
  |zero=>exact absurd HA.out (by simp [law18_Live.l0])
  |succ k1=>
   have H:=HA.out
   clear HA
   simp only [law18_Live.l0] at H
   by_cases c5:x8_1<(t1.length:Int)
   rotate_left
   ·rw [if_neg c5] at H
    have c5b0:decide (x8_1<(t1.length:Int))=false:=decide_eq_false c5
    clear c5
    by_cases c13:(Int.tmod a1 5)=0
    rotate_left
    ·rw [if_neg c13] at H
     have c13b0:((Int.tmod a1 5)==0)=false:=beq_eq_false_iff_ne.mpr c13
     have c13b1:((Int.tmod a1 5) !=0)=true:=bne_iff_ne.mpr c13
     simp only [Option.some.injEq,Prod.mk.injEq] at H
     obtain ⟨rfl,rfl⟩:=H
     obtain ⟨Ao17,co17,eo17⟩:=Kd.R_slice HO_6.out
     subst eo17
     go_wp2
     go_ret2
     exact ⟨_,_,by first|rfl|(simp [errW_none,errW_some]<;>rfl)|(simp [*,errW_none,errW_some]<;>rfl),by (with_reducible repeat (first|apply Kd.R_alloc|apply Kd.R_drewN|apply Kd.R_drew));exact HO_7.out,by (with_reducible repeat (first|apply Kd.R_alloc|apply Kd.R_drewN|apply Kd.R_drew));exact HO_6.out,zl0_ HB⟩

    rw [if_pos c13] at H
    have c13b0:((Int.tmod a1 5)==0)=true:=beq_iff_eq.mpr c13
    have c13b1:((Int.tmod a1 5) !=0)=false:=bne_eq_false_iff_eq.mpr c13
    clear c13
    by_cases c14:x7_1.length<2199023255552
    rotate_left
    ·rw [if_neg c14] at H
     exact absurd H (by simp)
    rw [if_pos c14] at H
    have LMc14:=Aside0.mk c14
    clear c14
    obtain ⟨y11,hy11⟩: ∃y_:List (S84),y_=(x7_1++ [(⟨(⟨#[122,122]⟩:ByteArray),(⟨#[]⟩:ByteArray),(⟨0,0,0⟩:S37),1⟩:S84)]):=⟨_,rfl⟩
    replace H:(some (y11,t1))=some (r1,r2):=by first|(rw [hy11];with_reducible exact H)|(have H2_:=(Option.bind_some _ _).symm.trans H;rw [hy11];with_reducible exact H2_)|(have H2_:=(Option.bind_some _ _).symm.trans H;with_reducible exact H2_)|with_reducible exact H|(rw [hy11];exact H)|exact H
    have Ny11:=Aside0.mk hy11
    clear hy11
    simp only [Option.some.injEq,Prod.mk.injEq] at H
    obtain ⟨rfl,rfl⟩:=H
    obtain ⟨Ao15,co15,eo15⟩:=Kd.R_slice HO_6.out
    subst eo15
    go_wp2_with (first|((with_reducible refine gate_builtin (b:= .append) (xs:=#[.tmp 50, .tmp 52]) rfl ?_);at_builtin;refine Kd.R_append k84 (w0:=w) w.heap.size rfl (.tmp 50) (.tmp 52) 53 84 (.agg #[(.string ⟨#[]⟩),(.string ⟨#[]⟩),(.int .i64 0),(.int .i64 0),(.int .i64 0),(.int .i64 0)]) 64 rfl Try.underlying53 info84 rfl (by decide) (by omega) u7 x7_1 (⟨(⟨#[122,122]⟩:ByteArray),(⟨#[]⟩:ByteArray),(⟨0,0,0⟩:S37),1⟩:S84) [.string (⟨#[122,122]⟩:ByteArray), .string (⟨#[]⟩:ByteArray), .int .i64 0, .int .i64 0, .int .i64 0, .int .i64 1] (fun _=>True) (fun _=>False) rfl rfl ?aP (fun _ hk=>hk.elim) ?aF ?aO ?aB ?aS ?aL ?_;(case aP=>exact k84_mkM _ _ _ (⟨(⟨#[122,122]⟩:ByteArray),(⟨#[]⟩:ByteArray),(⟨0,0,0⟩:S37),1⟩:S84));(case aB=>exact (zl0_ HB));(case aF=>exact (fun _ _=>trivial));(case aO=>exact (zr_ HO_7));(case aS=>exact (below_size (zl0_ HB)));(case aL=>have:=LMc14.out;omega);intro v12 w16 ho hb hg hat;rw [←Ny11.out] at ho;have n0_:=am_ (Kd.R_over' (zr_ HO_6) (Kd.R_typed (zr_ HO_7)) (by decide) hg);have n1_:=am_ (hb);have n2_:=am_ (ho);clear HO_6;clear HB;clear HO_7;have HO_6:=n0_;have HB:=n1_;have HO13:=n2_;clear n0_ n1_ n2_;clear ho hb hg hat))
    go_ret2
    exact ⟨_,_,by first|rfl|(simp [errW_none,errW_some]<;>rfl)|(simp [*,errW_none,errW_some]<;>rfl),by (with_reducible repeat (first|apply Kd.R_alloc|apply Kd.R_drewN|apply Kd.R_drew));exact HO13.out,by (with_reducible repeat (first|apply Kd.R_alloc|apply Kd.R_drewN|apply Kd.R_drew));exact HO_6.out,zl0_ HB⟩
   rw [if_pos c5] at H
   have c5b0:decide (x8_1<(t1.length:Int))=true:=decide_eq_true c5
   clear c5
   by_cases c6:(Int.tmod (wrap64 (x8_1+(wrap64 (a1)))) 4)>0
   rotate_left
   ·rw [if_neg c6] at H
    have c6b0:decide (0<(Int.tmod (wrap64 (x8_1+(wrap64 (a1)))) 4))=false:=decide_eq_false c6
    clear c6
    have H':=Aside0.mk H
    clear H
    obtain ⟨Ao12,co12,eo12⟩:=Kd.R_slice HO_6.out
    subst eo12
    go_wp2
    go_roundg k1
    case measure=>have:=HK1.out;omega
    case rel=>exact ⟨(x7_1),(wrap64 (x8_1+1)),(by first|rfl|(simp;done)|(simp [*];done)),H',⟨by have:=HK1.out;omega⟩,⟨by (with_reducible repeat (first|apply Kd.R_alloc|apply Kd.R_drewN|apply Kd.R_drew));exact HO_6.out⟩,⟨by (with_reducible repeat (first|apply Kd.R_alloc|apply Kd.R_drewN|apply Kd.R_drew));exact HO_7.out⟩,⟨zl0_ HB⟩⟩
   rw [if_pos c6] at H
   have c6b0:decide (0<(Int.tmod (wrap64 (x8_1+(wrap64 (a1)))) 4))=true:=decide_eq_true c6
   clear c6
   by_cases c7:0≤x8_1
   rotate_left
   ·rw [if_neg c7] at H
    exact absurd H (by simp)
   rw [if_pos c7] at H
   have c7b0:decide (0≤x8_1)=true:=decide_eq_true c7
   clear c7
   by_cases c8:x7_1.length<2199023255552
   rotate_left
   ·rw [if_neg c8] at H
    exact absurd H (by simp)
   rw [if_pos c8] at H
   have LMc8:=Aside0.mk c8
   clear c8
   obtain ⟨y8,hy8⟩: ∃y_:List (S84),y_=(x7_1++ [(⟨(rd_T79 t1 x8_1).f0,(rd_T79 t1 x8_1).f1,(⟨(rd_T79 t1 x8_1).f2.f0,(rd_T79 t1 x8_1).f2.f1,(rd_T79 t1 x8_1).f2.f2⟩:S37),(rd_T79 t1 x8_1).f5⟩:S84)]):=⟨_,rfl⟩
   replace H:(law18_Live.l0 k1 a1 t1 y8 (wrap64 (x8_1+1)))=some (r1,r2):=by first|(rw [hy8];with_reducible exact H)|(have H2_:=(Option.bind_some _ _).symm.trans H;rw [hy8];with_reducible exact H2_)|(have H2_:=(Option.bind_some _ _).symm.trans H;with_reducible exact H2_)|with_reducible exact H|(rw [hy8];exact H)|exact H
   have Ny8:=Aside0.mk hy8
   clear hy8
   have H':=Aside0.mk H
   clear H
   obtain ⟨Ao9,co9,eo9⟩:=Kd.R_slice HO_6.out
   subst eo9
   try go_wp2
   replace HO_6:=am_ (Kd.R_drew HO_6.out)
   replace HO_7:=am_ (Kd.R_drew HO_7.out)
   replace HB:=am_ (below_drew1 HB.out)
   have p4:0≤(x8_1:Int):=of_decide_eq_true zq_
   have q4:x8_1<(t1.length:Int):=of_decide_eq_true zq_
   obtain ⟨ad4,e4,hx4_0,hx4_1,hx4_2,hx4_3,hx4_4,hx4_5,hx4_6,hx4_7,hx4_8,hx4_9,hx4_10,hx4_11⟩:=at_T79 (Kd.R_reads' HO_6.out).2.2 x8_1 p4 q4
   cases e4
   replace p4:=eq_true p4
   replace q4:=eq_true q4
   have p5:0≤(x8_1:Int):=of_decide_eq_true zq_
   have q5:x8_1<(t1.length:Int):=of_decide_eq_true zq_
   obtain ⟨ad5,e5,hx5_0,hx5_1,hx5_2,hx5_3,hx5_4,hx5_5,hx5_6,hx5_7,hx5_8,hx5_9,hx5_10,hx5_11⟩:=at_T79 (Kd.R_reads' HO_6.out).2.2 x8_1 p5 q5
   obtain rfl:ad4=ad5:=(by injection e5)
   replace p5:=eq_true p5
   replace q5:=eq_true q5
   have p6:0≤(x8_1:Int):=of_decide_eq_true zq_
   have q6:x8_1<(t1.length:Int):=of_decide_eq_true zq_
   obtain ⟨ad6,e6,hx6_0,hx6_1,hx6_2,hx6_3,hx6_4,hx6_5,hx6_6,hx6_7,hx6_8,hx6_9,hx6_10,hx6_11⟩:=at_T79 (Kd.R_reads' HO_6.out).2.2 x8_1 p6 q6
   obtain rfl:ad4=ad6:=(by injection e6)
   replace p6:=eq_true p6
   replace q6:=eq_true q6
   have p7:0≤(x8_1:Int):=of_decide_eq_true zq_
   have q7:x8_1<(t1.length:Int):=of_decide_eq_true zq_
   obtain ⟨ad7,e7,hx7_0,hx7_1,hx7_2,hx7_3,hx7_4,hx7_5,hx7_6,hx7_7,hx7_8,hx7_9,hx7_10,hx7_11⟩:=at_T79 (Kd.R_reads' HO_6.out).2.2 x8_1 p7 q7
   obtain rfl:ad4=ad7:=(by injection e7)
   replace p7:=eq_true p7
   replace q7:=eq_true q7
   refine start_ (n:=25) (S:=fun w'=>w'.cell? (ad4.add ((x8_1).toNat*12))=some (.string ((rd_T79 t1 x8_1).f0))∧w'.cell? ⟨(ad4.add ((x8_1).toNat*12)).block,(ad4.add ((x8_1).toNat*12)).off+1,none⟩=some (.string ((rd_T79 t1 x8_1).f1))∧w'.cell? ⟨(ad4.add ((x8_1).toNat*12)).block,(ad4.add ((x8_1).toNat*12)).off+2,none⟩=some (.int .i64 ((rd_T79 t1 x8_1).f2.f0))∧w'.cell? ⟨(ad4.add ((x8_1).toNat*12)).block,(ad4.add ((x8_1).toNat*12)).off+3,none⟩=some (.int .i64 ((rd_T79 t1 x8_1).f2.f1))∧w'.cell? ⟨(ad4.add ((x8_1).toNat*12)).block,(ad4.add ((x8_1).toNat*12)).off+4,none⟩=some (.int .i64 ((rd_T79 t1 x8_1).f2.f2))∧w'.cell? ⟨(ad4.add ((x8_1).toNat*12)).block,(ad4.add ((x8_1).toNat*12)).off+5,none⟩=some (.int .i64 ((rd_T79 t1 x8_1).f3.f0))∧w'.cell? ⟨(ad4.add ((x8_1).toNat*12)).block,(ad4.add ((x8_1).toNat*12)).off+6,none⟩=some (.int .i64 ((rd_T79 t1 x8_1).f3.f1))∧w'.cell? ⟨(ad4.add ((x8_1).toNat*12)).block,(ad4.add ((x8_1).toNat*12)).off+7,none⟩=some (.int .i64 ((rd_T79 t1 x8_1).f3.f2))∧w'.cell? ⟨(ad4.add ((x8_1).toNat*12)).block,(ad4.add ((x8_1).toNat*12)).off+8,none⟩=some (.int .i64 ((rd_T79 t1 x8_1).f4.f0))∧w'.cell? ⟨(ad4.add ((x8_1).toNat*12)).block,(ad4.add ((x8_1).toNat*12)).off+9,none⟩=some (.int .i64 ((rd_T79 t1 x8_1).f4.f1))∧w'.cell? ⟨(ad4.add ((x8_1).toNat*12)).block,(ad4.add ((x8_1).toNat*12)).off+10,none⟩=some (.int .i64 ((rd_T79 t1 x8_1).f4.f2))∧w'.cell? ⟨(ad4.add ((x8_1).toNat*12)).block,(ad4.add ((x8_1).toNat*12)).off+11,none⟩=some (.int .i64 ((rd_T79 t1 x8_1).f5))∧w'.cell? (ad4.add ((x8_1).toNat*12))=some (.string ((rd_T79 t1 x8_1).f0))∧w'.cell? ⟨(ad4.add ((x8_1).toNat*12)).block,(ad4.add ((x8_1).toNat*12)).off+1,none⟩=some (.string ((rd_T79 t1 x8_1).f1))∧w'.cell? ⟨(ad4.add ((x8_1).toNat*12)).block,(ad4.add ((x8_1).toNat*12)).off+2,none⟩=some (.int .i64 ((rd_T79 t1 x8_1).f2.f0))∧w'.cell? ⟨(ad4.add ((x8_1).toNat*12)).block,(ad4.add ((x8_1).toNat*12)).off+3,none⟩=some (.int .i64 ((rd_T79 t1 x8_1).f2.f1))∧w'.cell? ⟨(ad4.add ((x8_1).toNat*12)).block,(ad4.add ((x8_1).toNat*12)).off+4,none⟩=some (.int .i64 ((rd_T79 t1 x8_1).f2.f2))∧w'.cell? ⟨(ad4.add ((x8_1).toNat*12)).block,(ad4.add ((x8_1).toNat*12)).off+5,none⟩=some (.int .i64 ((rd_T79 t1 x8_1).f3.f0))∧w'.cell? ⟨(ad4.add ((x8_1).toNat*12)).block,(ad4.add ((x8_1).toNat*12)).off+6,none⟩=some (.int .i64 ((rd_T79 t1 x8_1).f3.f1))∧w'.cell? ⟨(ad4.add ((x8_1).toNat*12)).block,(ad4.add ((x8_1).toNat*12)).off+7,none⟩=some (.int .i64 ((rd_T79 t1 x8_1).f3.f2))∧w'.cell? ⟨(ad4.add ((x8_1).toNat*12)).block,(ad4.add ((x8_1).toNat*12)).off+8,none⟩=some (.int .i64 ((rd_T79 t1 x8_1).f4.f0))∧w'.cell? ⟨(ad4.add ((x8_1).toNat*12)).block,(ad4.add ((x8_1).toNat*12)).off+9,none⟩=some (.int .i64 ((rd_T79 t1 x8_1).f4.f1))∧w'.cell? ⟨(ad4.add ((x8_1).toNat*12)).block,(ad4.add ((x8_1).toNat*12)).off+10,none⟩=some (.int .i64 ((rd_T79 t1 x8_1).f4.f2))∧w'.cell? ⟨(ad4.add ((x8_1).toNat*12)).block,(ad4.add ((x8_1).toNat*12)).off+11,none⟩=some (.int .i64 ((rd_T79 t1 x8_1).f5))∧w'.cell? (ad4.add ((x8_1).toNat*12))=some (.string ((rd_T79 t1 x8_1).f0))∧w'.cell? ⟨(ad4.add ((x8_1).toNat*12)).block,(ad4.add ((x8_1).toNat*12)).off+1,none⟩=some (.string ((rd_T79 t1 x8_1).f1))∧w'.cell? ⟨(ad4.add ((x8_1).toNat*12)).block,(ad4.add ((x8_1).toNat*12)).off+2,none⟩=some (.int .i64 ((rd_T79 t1 x8_1).f2.f0))∧w'.cell? ⟨(ad4.add ((x8_1).toNat*12)).block,(ad4.add ((x8_1).toNat*12)).off+3,none⟩=some (.int .i64 ((rd_T79 t1 x8_1).f2.f1))∧w'.cell? ⟨(ad4.add ((x8_1).toNat*12)).block,(ad4.add ((x8_1).toNat*12)).off+4,none⟩=some (.int .i64 ((rd_T79 t1 x8_1).f2.f2))∧w'.cell? ⟨(ad4.add ((x8_1).toNat*12)).block,(ad4.add ((x8_1).toNat*12)).off+5,none⟩=some (.int .i64 ((rd_T79 t1 x8_1).f3.f0))∧w'.cell? ⟨(ad4.add ((x8_1).toNat*12)).block,(ad4.add ((x8_1).toNat*12)).off+6,none⟩=some (.int .i64 ((rd_T79 t1 x8_1).f3.f1))∧w'.cell? ⟨(ad4.add ((x8_1).toNat*12)).block,(ad4.add ((x8_1).toNat*12)).off+7,none⟩=some (.int .i64 ((rd_T79 t1 x8_1).f3.f2))∧w'.cell? ⟨(ad4.add ((x8_1).toNat*12)).block,(ad4.add ((x8_1).toNat*12)).off+8,none⟩=some (.int .i64 ((rd_T79 t1 x8_1).f4.f0))∧w'.cell? ⟨(ad4.add ((x8_1).toNat*12)).block,(ad4.add ((x8_1).toNat*12)).off+9,none⟩=some (.int .i64 ((rd_T79 t1 x8_1).f4.f1))∧w'.cell? ⟨(ad4.add ((x8_1).toNat*12)).block,(ad4.add ((x8_1).toNat*12)).off+10,none⟩=some (.int .i64 ((rd_T79 t1 x8_1).f4.f2))∧w'.cell? ⟨(ad4.add ((x8_1).toNat*12)).block,(ad4.add ((x8_1).toNat*12)).off+11,none⟩=some (.int .i64 ((rd_T79 t1 x8_1).f5))∧w'.cell? (ad4.add ((x8_1).toNat*12))=some (.string ((rd_T79 t1 x8_1).f0))∧w'.cell? ⟨(ad4.add ((x8_1).toNat*12)).block,(ad4.add ((x8_1).toNat*12)).off+1,none⟩=some (.string ((rd_T79 t1 x8_1).f1))∧w'.cell? ⟨(ad4.add ((x8_1).toNat*12)).block,(ad4.add ((x8_1).toNat*12)).off+2,none⟩=some (.int .i64 ((rd_T79 t1 x8_1).f2.f0))∧w'.cell? ⟨(ad4.add ((x8_1).toNat*12)).block,(ad4.add ((x8_1).toNat*12)).off+3,none⟩=some (.int .i64 ((rd_T79 t1 x8_1).f2.f1))∧w'.cell? ⟨(ad4.add ((x8_1).toNat*12)).block,(ad4.add ((x8_1).toNat*12)).off+4,none⟩=some (.int .i64 ((rd_T79 t1 x8_1).f2.f2))∧w'.cell? ⟨(ad4.add ((x8_1).toNat*12)).block,(ad4.add ((x8_1).toNat*12)).off+5,none⟩=some (.int .i64 ((rd_T79 t1 x8_1).f3.f0))∧w'.cell? ⟨(ad4.add ((x8_1).toNat*12)).block,(ad4.add ((x8_1).toNat*12)).off+6,none⟩=some (.int .i64 ((rd_T79 t1 x8_1).f3.f1))∧w'.cell? ⟨(ad4.add ((x8_1).toNat*12)).block,(ad4.add ((x8_1).toNat*12)).off+7,none⟩=some (.int .i64 ((rd_T79 t1 x8_1).f3.f2))∧w'.cell? ⟨(ad4.add ((x8_1).toNat*12)).block,(ad4.add ((x8_1).toNat*12)).off+8,none⟩=some (.int .i64 ((rd_T79 t1 x8_1).f4.f0))∧w'.cell? ⟨(ad4.add ((x8_1).toNat*12)).block,(ad4.add ((x8_1).toNat*12)).off+9,none⟩=some (.int .i64 ((rd_T79 t1 x8_1).f4.f1))∧w'.cell? ⟨(ad4.add ((x8_1).toNat*12)).block,(ad4.add ((x8_1).toNat*12)).off+10,none⟩=some (.int .i64 ((rd_T79 t1 x8_1).f4.f2))∧w'.cell? ⟨(ad4.add ((x8_1).toNat*12)).block,(ad4.add ((x8_1).toNat*12)).off+11,none⟩=some (.int .i64 ((rd_T79 t1 x8_1).f5))) (ds:=[22,23]) (bt_ 25 0) (by kernel_rfl) rfl rfl ⟨hx4_0,hx4_1,hx4_2,hx4_3,hx4_4,hx4_5,hx4_6,hx4_7,hx4_8,hx4_9,hx4_10,hx4_11,hx5_0,hx5_1,hx5_2,hx5_3,hx5_4,hx5_5,hx5_6,hx5_7,hx5_8,hx5_9,hx5_10,hx5_11,hx6_0,hx6_1,hx6_2,hx6_3,hx6_4,hx6_5,hx6_6,hx6_7,hx6_8,hx6_9,hx6_10,hx6_11,hx7_0,hx7_1,hx7_2,hx7_3,hx7_4,hx7_5,hx7_6,hx7_7,hx7_8,hx7_9,hx7_10,hx7_11⟩ (fun hHeld=> ?_);refine with_tabW law18_Live.tab7 law18_Live.bits7 (fun HT_ HW_=> ?_)
   generalize wr.drew=w10 at HO_6 HO_7 HB hx4_0 hx4_1 hx4_10 hx4_11 hx4_2 hx4_3 hx4_4 hx4_5 hx4_6 hx4_7 hx4_8 hx4_9 hx5_0 hx5_1 hx5_10 hx5_11 hx5_2 hx5_3 hx5_4 hx5_5 hx5_6 hx5_7 hx5_8 hx5_9 hx6_0 hx6_1 hx6_10 hx6_11 hx6_2 hx6_3 hx6_4 hx6_5 hx6_6 hx6_7 hx6_8 hx6_9 hx7_0 hx7_1 hx7_10 hx7_11 hx7_2 hx7_3 hx7_4 hx7_5 hx7_6 hx7_7 hx7_8 hx7_9 hHeld ⊢
   refine pu_ (i:=0) (N:=some 23) (bt_ 25 1) HT_ ?_
   refine pu_ (i:=1) (N:=some 24) (bt_ 25 3) HT_ ?_
   refine pu_ (i:=2) (N:=some 25) (bt_ 25 7) HT_ ?_
   refine pu_ (i:=3) (N:=some 26) (bt_ 25 15) HT_ ?_
   refine pu_ (i:=4) (N:=some 27) (bt_ 25 31) HT_ ?_
   refine pu_ (i:=6) (N:=some 29) (bt_ 25 95) HT_ ?_
   refine pu_ (i:=7) (N:=some 30) (bt_ 25 223) HT_ ?_
   refine pu_ (i:=8) (N:=some 31) (bt_ 25 479) HT_ ?_
   refine pu_ (i:=9) (N:=some 32) (bt_ 25 991) HT_ ?_
   refine pu_ (i:=11) (N:=some 34) (bt_ 25 3039) HT_ ?_
   refine pu_ (i:=12) (N:=some 35) (bt_ 25 7135) HT_ ?_
   refine pu_ (i:=13) (N:=some 36) (bt_ 25 15327) HT_ ?_
   refine pu_ (i:=14) (N:=some 37) (bt_ 25 31711) HT_ ?_
   refine pu_ (i:=16) (N:=some 39) (bt_ 25 97247) HT_ ?_
   refine pu_ (i:=17) (N:=some 40) (bt_ 25 228319) HT_ ?_
   refine pu_ (i:=18) (N:=some 41) (bt_ 25 490463) HT_ ?_
   refine pu_ (i:=19) (N:=some 42) (bt_ 25 1014751) HT_ ?_
   refine tk_ (i:=5) (N:=some 28) (bt_ 25 1014783) HT_ HW_ hHeld ?_
   refine tk_ (i:=10) (N:=some 33) (bt_ 25 1015807) HT_ HW_ hHeld ?_
   refine tk_ (i:=15) (N:=some 38) (bt_ 25 1048575) HT_ HW_ hHeld ?_
   refine tk_ (i:=20) (N:=some 43) (bt_ 25 2097151) HT_ HW_ hHeld ?_
   refine pu_ (i:=21) (N:=some 44) (bt_ 25 4194303) HT_ ?_
   refine last_ (i:=22) (N:=some 45) (bt_ 25 8388607) rfl rfl (one_of HT_.out (by kernel_rfl)) (by decide) (fun K hK=> ?_)
   refine value_ (w1:= ?_) (v:= ?_) (by rfl) rfl ?_ ?_
   rotate_left 2
   ·go_simp
    constructor
    ·rfl
    rfl
   refine hK.out _ _ ?_
   clear hK K
   refine no_ (N:=some 45) ?_
   refine last_ (i:=23) (N:=some 46) (bt_ 25 16777215) rfl rfl (one_of HT_.out (by kernel_rfl)) (by decide) (fun K hK=> ?_)
   refine Kd.R_append_step k84 (w0:=w) w.heap.size (by rfl) (.tmp 23) (.tmp 45) 53 84 (.agg #[(.string ⟨#[]⟩),(.string ⟨#[]⟩),(.int .i64 0),(.int .i64 0),(.int .i64 0),(.int .i64 0)]) 64 rfl Try.underlying53 info84 rfl (by decide) (by omega) u7 x7_1 (⟨(rd_T79 t1 x8_1).f0,(rd_T79 t1 x8_1).f1,(⟨(rd_T79 t1 x8_1).f2.f0,(rd_T79 t1 x8_1).f2.f1,(rd_T79 t1 x8_1).f2.f2⟩:S37),(rd_T79 t1 x8_1).f5⟩:S84) [.string ((rd_T79 t1 x8_1).f0), .string ((rd_T79 t1 x8_1).f1), .int .i64 ((rd_T79 t1 x8_1).f2.f0), .int .i64 ((rd_T79 t1 x8_1).f2.f1), .int .i64 ((rd_T79 t1 x8_1).f2.f2), .int .i64 ((rd_T79 t1 x8_1).f5)] (fun _=>True) (fun _=>False) rfl rfl ?aP (fun _ hk=>hk.elim) ?aF ?aO ?aB ?aS ?aL ?_
   (case aP=>exact k84_mkM _ _ _ (⟨(rd_T79 t1 x8_1).f0,(rd_T79 t1 x8_1).f1,(⟨(rd_T79 t1 x8_1).f2.f0,(rd_T79 t1 x8_1).f2.f1,(rd_T79 t1 x8_1).f2.f2⟩:S37),(rd_T79 t1 x8_1).f5⟩:S84))
   (case aB=>exact (zl0_ HB))
   (case aF=>exact (fun _ _=>trivial))
   (case aO=>exact (zr_ HO_7))
   (case aS=>exact (below_size (zl0_ HB)))
   (case aL=>have:=LMc8.out;omega)
   intro v9 w11 ho hb hg hat
   rw [←Ny8.out] at ho
   have n0_:=am_ (Kd.R_over' (zr_ HO_6) (Kd.R_typed (zr_ HO_7)) (by decide) hg)
   have n1_:=am_ (hb)
   have n2_:=am_ (ho)
   clear HO_6
   clear HB
   clear HO_7
   have HO_6:=n0_
   have HB:=n1_
   have HO10:=n2_
   clear n0_ n1_ n2_
   clear ho hb hg hat
   refine hK.out _ _ ?_
   clear hK K
   refine no_ (N:=some 46) ?_
   refine pu_ (i:=24) (N:=some 7) (bt_ 25 33554431) HT_ ?_
   refine done_ (done_of HT_.out (by kernel_rfl)) ?_
   try go_wp2
   go_roundg k1
   case measure=>have:=HK1.out;omega
   case rel=>exact ⟨(y8),(wrap64 (x8_1+1)),(by first|rfl|(simp;done)|(simp [*];done)),H',⟨by have:=HK1.out;omega⟩,⟨by (with_reducible repeat (first|apply Kd.R_alloc|apply Kd.R_drewN|apply Kd.R_drew));exact HO_6.out⟩,⟨by (with_reducible repeat (first|apply Kd.R_alloc|apply Kd.R_drewN|apply Kd.R_drew));exact HO10.out⟩,⟨zl0_ HB⟩⟩
mutual
noncomputable def law18_PlanClash.l0:Nat→List (S84)→List (S79)→ByteArray→Bool→Int→Option (Bool)
 |0,_,_,_,_,_=>none
 |k+1,x7,x8,x9,x10,x11=>if x11<(x7.length:Int) then (if x10=true then (law18_PlanClash.l0 k x7 x8 x9 true (wrap64 (x11+1))) else (if 0≤x11 then (law18_PlanClash.l0 k x7 x8 x9 (((rd_T84 x7 x11).f0).toList==x9.toList) (wrap64 (x11+1))) else (none))) else ((plan_Steps.f (([(⟨(⟨#[113,49]⟩:ByteArray),(⟨#[]⟩:ByteArray),(⟨0,0,0⟩:S37)⟩:S39),(⟨x9,(⟨#[]⟩:ByteArray),(⟨0,0,0⟩:S37)⟩:S39)]:List (S39))) x7 x8).bind fun bt14=>((plan_Steps.f (([(⟨(⟨#[113,49]⟩:ByteArray),(⟨#[]⟩:ByteArray),(⟨0,0,0⟩:S37)⟩:S39),(⟨(⟨#[113,49]⟩:ByteArray),(⟨#[]⟩:ByteArray),(⟨0,0,0⟩:S37)⟩:S39)]:List (S39))) x7 x8).bind fun bt21=>((plan_Steps.f (([(⟨(⟨#[113,49]⟩:ByteArray),(⟨#[110,111,110,101]⟩:ByteArray),(⟨0,0,0⟩:S37)⟩:S39)]:List (S39))) x7 x8).bind fun bt28=>(if x10=true then (law18_PlanClash.j1 k bt14.2 bt21.2 bt28.2 0) else (law18_PlanClash.j1 k bt14.2 bt21.2 bt28.2 3)))))
noncomputable def law18_PlanClash.j1:Nat→Int→Int→Int→Int→Option (Bool)
 |0,_,_,_,_=>none
 |k+1,x13,x15,x17,x18=>(law1_Num.f x13).bind fun t32=>(if t32=x18 then ((law1_Num.f x15).bind fun t33=>(if t33=3 then ((law1_Num.f x17).bind fun t34=>(if t34=2 then ((law18_awake.f).bind fun t35=>(some t35)) else (some false))) else (some false))) else (some false))
end
noncomputable def law18_PlanClash.f (k:Nat) (l0:List Int) (a1:Int) (a2:Int):Option (Bool):=if (l0.length:Int)>60 then ((law18_awake.f).bind fun t1=>(some t1)) else ((law18_Live.f k l0 a1).bind fun bt2=>(if (bt2.2.length:Int)=0 then ((law18_awake.f).bind fun t8=>(some t8)) else (if 0≤(Int.tmod (wrap64 (a2)) (bt2.2.length:Int)) then (if (Int.tmod (wrap64 (a2)) (bt2.2.length:Int))<(bt2.2.length:Int) then (law18_PlanClash.l0 k bt2.1 bt2.2 ((rd_T79 bt2.2 (Int.tmod (wrap64 (a2)) (bt2.2.length:Int))).f0) false 0) else (none)) else (none))))
theorem law18_PlanClash.mono_l: ∀k,(∀y0 y1 y2 y3 y4,LeO (law18_PlanClash.l0 k y0 y1 y2 y3 y4) (law18_PlanClash.l0 (k+1) y0 y1 y2 y3 y4))∧(∀y0 y1 y2 y3,LeO (law18_PlanClash.j1 k y0 y1 y2 y3) (law18_PlanClash.j1 (k+1) y0 y1 y2 y3))
 |0=>⟨fun _ _ _ _ _ r h=>by simp [law18_PlanClash.l0] at h,fun _ _ _ _ r h=>by simp [law18_PlanClash.j1] at h⟩
 |k+1=>by
  obtain ⟨ih0,ih1⟩:=law18_PlanClash.mono_l k
  refine ⟨?_, ?_⟩
  ·intro y0 y1 y2 y3 y4
   unfold law18_PlanClash.l0
   repeat' first
   |(with_reducible exact ih0 _ _ _ _ _)
   |(with_reducible exact ih1 _ _ _ _)
   |(with_reducible exact law18_Live.mono _ _ _)
   |(with_reducible exact LeO.refl _)
   |(with_reducible exact LeO.none _)
   |(with_reducible refine LeO.ite ?_ ?_)
   |(with_reducible refine LeO.bind ?_ (fun _=> ?_))
   |exact ih0 _ _ _ _ _
   |exact ih1 _ _ _ _
   |exact law18_Live.mono _ _ _
   |exact LeO.none _
   |refine LeO.ite ?_ ?_
   |refine LeO.bind ?_ (fun _=> ?_)
  intro y0 y1 y2 y3
  unfold law18_PlanClash.j1
  repeat' first
  |(with_reducible exact ih0 _ _ _ _ _)
  |(with_reducible exact ih1 _ _ _ _)
  |(with_reducible exact law18_Live.mono _ _ _)
  |(with_reducible exact LeO.refl _)
  |(with_reducible exact LeO.none _)
  |(with_reducible refine LeO.ite ?_ ?_)
  |(with_reducible refine LeO.bind ?_ (fun _=> ?_))
  |exact ih0 _ _ _ _ _
  |exact ih1 _ _ _ _
  |exact law18_Live.mono _ _ _
  |exact LeO.none _
  |refine LeO.ite ?_ ?_
  |refine LeO.bind ?_ (fun _=> ?_)
theorem law18_PlanClash.mono: ∀a0 a1 a2 k,LeO (law18_PlanClash.f k a0 a1 a2) (law18_PlanClash.f (k+1) a0 a1 a2):=by
 intro a0 a1 a2 k
 obtain ⟨ih0,ih1⟩:=law18_PlanClash.mono_l k
 unfold law18_PlanClash.f
 repeat' first
  |(with_reducible exact ih0 _ _ _ _ _)
  |(with_reducible exact ih1 _ _ _ _)
  |(with_reducible exact law18_Live.mono _ _ _)
  |(with_reducible exact LeO.refl _)
  |(with_reducible exact LeO.none _)
  |(with_reducible refine LeO.ite ?_ ?_)
  |(with_reducible refine LeO.bind ?_ (fun _=> ?_))
  |exact ih0 _ _ _ _ _
  |exact ih1 _ _ _ _
  |exact law18_Live.mono _ _ _
  |exact LeO.none _
  |refine LeO.ite ?_ ?_
  |refine LeO.bind ?_ (fun _=> ?_)
set_option maxHeartbeats 8000000 in
set_option maxRecDepth 100000 in
theorem law18_PlanClash.calls (k:Nat) (A0:Option Addr) (c0:Nat) (l0:List Int) (a1:Int) (a2:Int) (r:Bool) (w:World) (hr0:Kd.C (Kd.int .u8) w A0 l0.length l0) (hc0:l0.length≤c0) (h:law18_PlanClash.f k l0 a1 a2=some r):
  Calls Try.prog 16 #[.slice A0 l0.length c0, .int .u8 a1, .int .u8 a2] w fun e w'=>e= .returned (.bool r)∧Below w.heap.size w w':=by
 have hu39:=Try.underlying39
 have HR0:=Aside0.mk hr0
 have HC0:=Aside0.mk hc0
 clear hr0 hc0
 have HB:=am_ (Below.refl w.heap.size w)
 have H:(if (l0.length:Int)>60 then ((law18_awake.f).bind fun t1=>(some t1)) else ((law18_Live.f k l0 a1).bind fun bt2=>(if (bt2.2.length:Int)=0 then ((law18_awake.f).bind fun t8=>(some t8)) else (if 0≤(Int.tmod (wrap64 (a2)) (bt2.2.length:Int)) then (if (Int.tmod (wrap64 (a2)) (bt2.2.length:Int))<(bt2.2.length:Int) then (law18_PlanClash.l0 k bt2.1 bt2.2 ((rd_T79 bt2.2 (Int.tmod (wrap64 (a2)) (bt2.2.length:Int))).f0) false 0) else (none)) else (none)))))=some r:=h
 clear h
 by_cases c4:(l0.length:Int)>60
 ·rw [if_pos c4] at H
  have c4b0:decide (60<(l0.length:Int))=true:=decide_eq_true c4
  have c4b1:decide (60<l0.length)=true:=decide_eq_true (by omega)
  clear c4
  replace H:=Option.bind_eq_some_iff.mp H
  obtain ⟨t1,A50,H⟩:=H
  try dsimp only at H
  have A5:=Aside0.mk A50
  clear A50
  obtain rfl:=Option.some.inj H
  go_enter Try.func16,Try.ntmps16
  go_wp2_with (first|((with_reducible refine gate_callee (f:=47) rfl ?_);refine gl_ (some 22) Try.func47 #[] ?_;(with_reducible refine (law18_awake.calls t1 _ A5.out).mono ?_);rintro e w6 ⟨rfl,hb⟩;refine ⟨_,rfl, ?_⟩;replace HB:=am_ (below_step (zl0_ HB) hb);(try clear hb);(try clear hb2);(try clear hk);(try clear hi)))
  go_ret
  exact ⟨by first|rfl|(simp [errW_none,errW_some]<;>rfl)|(simp [*,errW_none,errW_some]<;>rfl),zl0_ HB⟩
 rw [if_neg c4] at H
 have c4b0:decide (60<(l0.length:Int))=false:=decide_eq_false c4
 have c4b1:decide (60<l0.length)=false:=decide_eq_false (by omega)
 clear c4
 replace H:=Option.bind_eq_some_iff.mp H
 obtain ⟨⟨t2,t3⟩,A70,H⟩:=H
 try dsimp only at H
 have A7:=Aside0.mk A70
 clear A70
 by_cases c8:(t3.length:Int)=0
 ·rw [if_pos c8] at H
  have c8b0:((t3.length:Int)==0)=true:=beq_iff_eq.mpr c8
  have c8b1:((t3.length:Int) !=0)=false:=bne_eq_false_iff_eq.mpr c8
  clear c8
  replace H:=Option.bind_eq_some_iff.mp H
  obtain ⟨t8,A90,H⟩:=H
  try dsimp only at H
  have A9:=Aside0.mk A90
  clear A90
  obtain rfl:=Option.some.inj H
  go_enter Try.func16,Try.ntmps16
  go_wp2_with (first|((with_reducible refine gate_callee (f:=50) rfl ?_);refine gl_ (some 26) Try.func50 #[.slice A0 l0.length c0, .int .u8 a1] ?_;(with_reducible refine (law18_Live.calls k _ _ l0 a1 t2 t3 _ ?side1 ?side2 A7.out).mono ?_);(case side1=>repeat (first|exact HR0.out|(with_reducible refine Kd.C_alloc ?_ _)|(with_reducible refine Kd.C_drewN ?_ _)|(with_reducible refine Kd.C_drew ?_)));(case side2=>exact HC0.out);rintro e w10 ⟨v4,v6,rfl,ho0,ho1,hb⟩;refine ⟨_,rfl, ?_⟩;have HO5:=am_ (Kd.R_lower ho0 (below_size (zl0_ HB)));have HO7:=am_ (Kd.R_lower ho1 (below_size (zl0_ HB)));replace HB:=am_ (below_step (zl0_ HB) hb);(try clear hb);(try clear hb2);(try clear hk);(try clear hi);(try clear ho0);(try clear ho1);obtain ⟨Ao11,co11,eo11⟩:=Kd.R_slice HO7.out;subst eo11)|((with_reducible refine gate_callee (f:=47) rfl ?_);refine gl_ (some 32) Try.func47 #[] ?_;(with_reducible refine (law18_awake.calls t8 _ A9.out).mono ?_);rintro e w12 ⟨rfl,hb⟩;refine ⟨_,rfl, ?_⟩;replace HO5:=am_ (Kd.R_below (zr_ HO5) hb);replace HO7:=am_ (Kd.R_below (zr_ HO7) hb);replace HB:=am_ (below_step (zl0_ HB) hb);(try clear hb);(try clear hb2);(try clear hk);(try clear hi)))
  go_ret
  exact ⟨by first|rfl|(simp [errW_none,errW_some]<;>rfl)|(simp [*,errW_none,errW_some]<;>rfl),zl0_ HB⟩
 rw [if_neg c8] at H
 have c8b0:((t3.length:Int)==0)=false:=beq_eq_false_iff_ne.mpr c8
 have c8b1:((t3.length:Int) !=0)=true:=bne_iff_ne.mpr c8
 have c8b2: ¬(t3=[]):=fun h_=>c8 (by rw [h_];rfl)
 obtain ⟨ji13,hji13⟩: ∃j_:Int,(Int.tmod (wrap64 (a2)) (t3.length:Int))=j_:=⟨_,rfl⟩
 replace H:(if 0≤(ji13) then (if (ji13)<(t3.length:Int) then (law18_PlanClash.l0 k t2 t3 ((rd_T79 t3 (ji13)).f0) false 0) else (none)) else (none))=some r:=by first|(rw [hji13] at H;exact H)|(simp only [hji13] at H ⊢;exact H)
 (try rw [hji13] at A7)
 by_cases c14:0≤(ji13)
 rotate_left
 ·rw [if_neg c14] at H
  exact absurd H (by simp)

 rw [if_pos c14] at H
 have c14b0:decide (0≤(ji13))=true:=decide_eq_true c14
 clear c14
 by_cases c15:(ji13)<(t3.length:Int)
 rotate_left
 ·rw [if_neg c15] at H
  exact absurd H (by simp)
 rw [if_pos c15] at H
 have c15b0:decide ((ji13)<(t3.length:Int))=true:=decide_eq_true c15
 clear c15
 have H':=Aside0.mk H
 clear H
 go_enter Try.func16,Try.ntmps16
 go_wp2_with (first|((with_reducible refine gate_callee (f:=50) rfl ?_);refine gl_ (some 26) Try.func50 #[.slice A0 l0.length c0, .int .u8 a1] ?_;(with_reducible refine (law18_Live.calls k _ _ l0 a1 t2 t3 _ ?side1 ?side2 A7.out).mono ?_);(case side1=>repeat (first|exact HR0.out|(with_reducible refine Kd.C_alloc ?_ _)|(with_reducible refine Kd.C_drewN ?_ _)|(with_reducible refine Kd.C_drew ?_)));(case side2=>exact HC0.out);rintro e w16 ⟨v4,v6,rfl,ho0,ho1,hb⟩;refine ⟨_,rfl, ?_⟩;have HO5:=am_ (Kd.R_lower ho0 (below_size (zl0_ HB)));have HO7:=am_ (Kd.R_lower ho1 (below_size (zl0_ HB)));replace HB:=am_ (below_step (zl0_ HB) hb);(try clear hb);(try clear hb2);(try clear hk);(try clear hi);(try clear ho0);(try clear ho1);obtain ⟨Ao17,co17,eo17⟩:=Kd.R_slice HO7.out;subst eo17;have p9:0≤((ji13):Int):=of_decide_eq_true zq_;have q9:(ji13)<(t3.length:Int):=of_decide_eq_true zq_;obtain ⟨ad9,e9,hx9_0,hx9_1,hx9_2,hx9_3,hx9_4,hx9_5,hx9_6,hx9_7,hx9_8,hx9_9,hx9_10,hx9_11⟩:=at_T79 (Kd.R_reads' HO7.out).2.2 (ji13) p9 q9;cases e9;replace p9:=eq_true p9;replace q9:=eq_true q9))
 go_loopg [10,11] k (fun kq v10 v11 w'=> ∃(x10_1:Bool) (x11_1:Int),v10= .bool x10_1∧v11= .int .i64 x11_1∧Aside0 (law18_PlanClash.l0 kq t2 t3 ((rd_T79 t3 (ji13)).f0) x10_1 x11_1=some r)∧Aside0 (kq≤k)∧Aside0 (Kd.R k84 84 w' w.heap.size (fun _=>True) v4 t2)∧Aside0 (Kd.R k79 79 w' w.heap.size (fun _=>True) (.slice (some ad9) t3.length co17) t3)∧Aside0 (Below w.heap.size w w'))
 case atStart=>exact ⟨(false),(0),(by first|rfl|(simp;done)|(simp [*];done)),(by first|rfl|(simp;done)|(simp [*];done)),H',⟨Nat.le_refl _⟩,⟨by (with_reducible repeat (first|apply Kd.R_alloc|apply Kd.R_drewN|apply Kd.R_drew));exact HO5.out⟩,⟨by (with_reducible repeat (first|apply Kd.R_alloc|apply Kd.R_drewN|apply Kd.R_drew));exact HO7.out⟩,⟨zl0_ HB⟩⟩
 case round=>
  clear H'
  try clear c1
  try clear p2
  try clear c4
  try clear c4b0
  try clear c4b1
  try clear c5
  try clear p6
  try clear c8
  try clear c8b0
  try clear c8b1
  try clear c8b2
  try clear p9
  try clear q9
  try clear hx9
  try clear c14
  try clear c14b0
  try clear c15
  try clear c15b0
  try clear c16
  try clear hx9_0
  try clear hx9_1
  try clear hx9_10
  try clear hx9_11
  try clear hx9_2
  try clear hx9_3
  try clear hx9_4
  try clear hx9_5
  try clear hx9_6
  try clear hx9_7
  try clear hx9_8
  try clear hx9_9
  try clear p9
  try clear q9
  obtain ⟨x10_1,x11_1,rfl,rfl,HA,HK1,HO_7,HO_8,HB⟩:=hrel
  cases gk with
  |zero=>exact absurd HA.out (by simp [law18_PlanClash.l0])
  |succ k1=>
   have H:=HA.out
   clear HA
   simp only [law18_PlanClash.l0] at H
   by_cases c18:x11_1<(t2.length:Int)
   ·rw [if_pos c18] at H
    have c18b0:decide (x11_1<(t2.length:Int))=true:=decide_eq_true c18
    clear c18
    by_cases c19:x10_1=true
    ·subst c19
     have H1:(law18_PlanClash.l0 k1 t2 t3 ((rd_T79 t3 (ji13)).f0) true (wrap64 (x11_1+1)))=some r:=by rw [if_pos rfl] at H;exact H
     clear H
     have H:=H1
     clear H1
     have H':=Aside0.mk H
     clear H
     obtain ⟨Ao20,co20,eo20⟩:=Kd.R_slice HO_7.out
     subst eo20
     go_wp2
     go_roundg k1
     case measure=>have:=HK1.out;omega
     case rel=>exact ⟨(true),(wrap64 (x11_1+1)),(by first|rfl|(simp;done)|(simp [*];done)),(by first|rfl|(simp;done)|(simp [*];done)),H',⟨by have:=HK1.out;omega⟩,⟨by (with_reducible repeat (first|apply Kd.R_alloc|apply Kd.R_drewN|apply Kd.R_drew));exact HO_7.out⟩,⟨by (with_reducible repeat (first|apply Kd.R_alloc|apply Kd.R_drewN|apply Kd.R_drew));exact HO_8.out⟩,⟨zl0_ HB⟩⟩
    replace c19:=Bool.eq_false_iff.mpr c19
    subst c19
    have H1:(if 0≤x11_1 then (law18_PlanClash.l0 k1 t2 t3 ((rd_T79 t3 (ji13)).f0) (((rd_T84 t2 x11_1).f0).toList==((rd_T79 t3 (ji13)).f0).toList) (wrap64 (x11_1+1))) else (none))=some r:=by rw [if_neg (show¬(false=true) by decide)] at H;exact H
    clear H
    have H:=H1
    clear H1
    by_cases c21:0≤x11_1
    rotate_left
    ·rw [if_neg c21] at H
     exact absurd H (by simp)
    rw [if_pos c21] at H
    have c21b0:decide (0≤x11_1)=true:=decide_eq_true c21
    clear c21
    have H':=Aside0.mk H
    clear H
    obtain ⟨Ao22,co22,eo22⟩:=Kd.R_slice HO_7.out
    subst eo22
    have p10:0≤(x11_1:Int):=of_decide_eq_true zq_
    have q10:x11_1<(t2.length:Int):=of_decide_eq_true zq_
    obtain ⟨ad10,e10,hx10_0,hx10_1,hx10_2,hx10_3,hx10_4,hx10_5⟩:=at_T84 (Kd.R_reads' HO_7.out).2.2 x11_1 p10 q10
    cases e10
    replace p10:=eq_true p10
    replace q10:=eq_true q10
    go_wp2
    go_roundg k1
    case measure=>have:=HK1.out;omega
    case rel=>exact ⟨((((rd_T84 t2 x11_1).f0).toList==((rd_T79 t3 (ji13)).f0).toList)),(wrap64 (x11_1+1)),(by first|rfl|(simp;done)|(simp only [←hji13]<;>(first|rfl|simp))|(simp [*];done)),(by first|rfl|(simp;done)|(simp [*];done)),H',⟨by have:=HK1.out;omega⟩,⟨by (with_reducible repeat (first|apply Kd.R_alloc|apply Kd.R_drewN|apply Kd.R_drew));exact HO_7.out⟩,⟨by (with_reducible repeat (first|apply Kd.R_alloc|apply Kd.R_drewN|apply Kd.R_drew));exact HO_8.out⟩,⟨zl0_ HB⟩⟩
   rw [if_neg c18] at H
   have c18b0:decide (x11_1<(t2.length:Int))=false:=decide_eq_false c18
   clear c18
   obtain ⟨y11,hy11⟩: ∃y_:List (S39),y_=(([(⟨(⟨#[113,49]⟩:ByteArray),(⟨#[]⟩:ByteArray),(⟨0,0,0⟩:S37)⟩:S39),(⟨((rd_T79 t3 (ji13)).f0),(⟨#[]⟩:ByteArray),(⟨0,0,0⟩:S37)⟩:S39)]:List (S39))):=⟨_,rfl⟩
   replace H:((plan_Steps.f y11 t2 t3).bind fun bt14=>((plan_Steps.f (([(⟨(⟨#[113,49]⟩:ByteArray),(⟨#[]⟩:ByteArray),(⟨0,0,0⟩:S37)⟩:S39),(⟨(⟨#[113,49]⟩:ByteArray),(⟨#[]⟩:ByteArray),(⟨0,0,0⟩:S37)⟩:S39)]:List (S39))) t2 t3).bind fun bt21=>((plan_Steps.f (([(⟨(⟨#[113,49]⟩:ByteArray),(⟨#[110,111,110,101]⟩:ByteArray),(⟨0,0,0⟩:S37)⟩:S39)]:List (S39))) t2 t3).bind fun bt28=>(if x10_1=true then (law18_PlanClash.j1 k1 bt14.2 bt21.2 bt28.2 0) else (law18_PlanClash.j1 k1 bt14.2 bt21.2 bt28.2 3)))))=some r:=by first|(rw [hy11];with_reducible exact H)|(have H2_:=(Option.bind_some _ _).symm.trans H;rw [hy11];with_reducible exact H2_)|(have H2_:=(Option.bind_some _ _).symm.trans H;with_reducible exact H2_)|with_reducible exact H|(rw [hy11];exact H)|exact H
   have Ny11:=Aside0.mk hy11
   clear hy11
   replace H:=Option.bind_eq_some_iff.mp H
   obtain ⟨⟨t14,t15⟩,A230,H⟩:=H
   try dsimp only at H
   have A23:=Aside0.mk A230
   clear A230
   obtain ⟨y18,hy18⟩: ∃y_:List (S39),y_=(([(⟨(⟨#[113,49]⟩:ByteArray),(⟨#[]⟩:ByteArray),(⟨0,0,0⟩:S37)⟩:S39),(⟨(⟨#[113,49]⟩:ByteArray),(⟨#[]⟩:ByteArray),(⟨0,0,0⟩:S37)⟩:S39)]:List (S39))):=⟨_,rfl⟩
   replace H:((plan_Steps.f y18 t2 t3).bind fun bt21=>((plan_Steps.f (([(⟨(⟨#[113,49]⟩:ByteArray),(⟨#[110,111,110,101]⟩:ByteArray),(⟨0,0,0⟩:S37)⟩:S39)]:List (S39))) t2 t3).bind fun bt28=>(if x10_1=true then (law18_PlanClash.j1 k1 t15 bt21.2 bt28.2 0) else (law18_PlanClash.j1 k1 t15 bt21.2 bt28.2 3))))=some r:=by first|(rw [hy18];with_reducible exact H)|(have H2_:=(Option.bind_some _ _).symm.trans H;rw [hy18];with_reducible exact H2_)|(have H2_:=(Option.bind_some _ _).symm.trans H;with_reducible exact H2_)|with_reducible exact H|(rw [hy18];exact H)|exact H
   have Ny18:=Aside0.mk hy18
   clear hy18
   replace H:=Option.bind_eq_some_iff.mp H
   obtain ⟨⟨t21,t22⟩,A240,H⟩:=H
   try dsimp only at H
   have A24:=Aside0.mk A240
   clear A240
   obtain ⟨y25,hy25⟩: ∃y_:List (S39),y_=(([(⟨(⟨#[113,49]⟩:ByteArray),(⟨#[110,111,110,101]⟩:ByteArray),(⟨0,0,0⟩:S37)⟩:S39)]:List (S39))):=⟨_,rfl⟩
   replace H:((plan_Steps.f y25 t2 t3).bind fun bt28=>(if x10_1=true then (law18_PlanClash.j1 k1 t15 t22 bt28.2 0) else (law18_PlanClash.j1 k1 t15 t22 bt28.2 3)))=some r:=by first|(rw [hy25];with_reducible exact H)|(have H2_:=(Option.bind_some _ _).symm.trans H;rw [hy25];with_reducible exact H2_)|(have H2_:=(Option.bind_some _ _).symm.trans H;with_reducible exact H2_)|with_reducible exact H|(rw [hy25];exact H)|exact H
   have Ny25:=Aside0.mk hy25
   clear hy25
   replace H:=Option.bind_eq_some_iff.mp H
   obtain ⟨⟨t28,t29⟩,A250,H⟩:=H
   try dsimp only at H
   have A25:=Aside0.mk A250
   clear A250
   have HC26:=Aside0.mk H
   clear H
   obtain ⟨Ao27,co27,eo27⟩:=Kd.R_slice HO_7.out
   subst eo27
   go_upto_if 85 with (first|((with_reducible refine gate_dst (N:=62) rfl ?_);refine Kd.R_lit k39 _ 39 ?hg (N:=62) ?hd (xs:=([(⟨(⟨#[113,49]⟩:ByteArray),(⟨#[]⟩:ByteArray),(⟨0,0,0⟩:S37)⟩:S39),(⟨((rd_T79 t3 (ji13)).f0),(⟨#[]⟩:ByteArray),(⟨0,0,0⟩:S37)⟩:S39)]:List (S39))) (inner:=[.string (⟨#[113,49]⟩:ByteArray), .string (⟨#[]⟩:ByteArray), .int .i64 0, .int .i64 0, .int .i64 0, .string ((rd_T79 t3 (ji13)).f0), .string (⟨#[]⟩:ByteArray), .int .i64 0, .int .i64 0, .int .i64 0]) (ok:=fun _=>True) (okp:=fun _=>True) ?hr ?hp (fun _ hk=>hk) trivial (Below.refl _ _) (Nat.le_refl _) (by simp) ?_;(case hd=>rfl);(case hg=>rfl);(case hr=>first|(go_simp;done)|(go_simp;rfl));(case hp=>exact (Reps.c5 (show Kd.M k39 _ _ _ (⟨(⟨#[113,49]⟩:ByteArray),(⟨#[]⟩:ByteArray),(⟨0,0,0⟩:S37)⟩:S39) [.string (⟨#[113,49]⟩:ByteArray), .string (⟨#[]⟩:ByteArray), .int .i64 0, .int .i64 0, .int .i64 0] from (k39_mkM _ _ _ (⟨(⟨#[113,49]⟩:ByteArray),(⟨#[]⟩:ByteArray),(⟨0,0,0⟩:S37)⟩:S39))) (Reps.c5 (show Kd.M k39 _ _ _ (⟨((rd_T79 t3 (ji13)).f0),(⟨#[]⟩:ByteArray),(⟨0,0,0⟩:S37)⟩:S39) [.string ((rd_T79 t3 (ji13)).f0), .string (⟨#[]⟩:ByteArray), .int .i64 0, .int .i64 0, .int .i64 0] from (k39_mkM _ _ _ (⟨((rd_T79 t3 (ji13)).f0),(⟨#[]⟩:ByteArray),(⟨0,0,0⟩:S37)⟩:S39))) (Reps.none _ _))));intro v12 w28 ho29 hb hg_ hnew_;clear hg_ hnew_;(first|rw [←Ny11.out] at ho29|(simp only [Int.reduceToNat] at ho29;rw [←Ny11.out] at ho29));replace HO_7:=am_ (Kd.R_below (zr_ HO_7) hb);replace HO_8:=am_ (Kd.R_below (zr_ HO_8) hb);have HO13:=am_ (Kd.R_lower ho29 (below_size (zl0_ HB)));replace HB:=am_ (below_step (zl0_ HB) hb);clear hb ho29;obtain ⟨Ao30,co30,eo30⟩:=Kd.R_slice HO13.out;subst eo30)|((with_reducible refine gate_callee (f:=48) rfl ?_);refine gl_ (some 65) Try.func48 #[.slice Ao30 y11.length co30, .slice Ao27 t2.length co27, .slice (some ad9) t3.length co17] ?_;(with_reducible refine (plan_Steps.calls _ _ y11 _ _ t2 _ _ t3 t14 t15 _ ?side1 ?side2 ?side3 ?side4 ?side5 ?side6 A23.out).mono ?_);(case side1=>exact zc_ (Kd.R_reads' HO13.out).2.2);(case side2=>exact (Kd.R_reads' HO13.out).2.1);(case side3=>exact zc_ (Kd.R_reads' HO_7.out).2.2);(case side4=>exact (Kd.R_reads' HO_7.out).2.1);(case side5=>exact zc_ (Kd.R_reads' HO_8.out).2.2);(case side6=>exact (Kd.R_reads' HO_8.out).2.1);rintro e w31 ⟨v16,rfl,ho0,hb⟩;refine ⟨_,rfl, ?_⟩;replace HO_7:=am_ (Kd.R_below (zr_ HO_7) hb);replace HO_8:=am_ (Kd.R_below (zr_ HO_8) hb);replace HO13:=am_ (Kd.R_below (zr_ HO13) hb);have HO17:=am_ (Kd.R_lower ho0 (below_size (zl0_ HB)));replace HB:=am_ (below_step (zl0_ HB) hb);(try clear hb);(try clear hb2);(try clear hk);(try clear hi);(try clear ho0))|((with_reducible refine gate_dst (N:=71) rfl ?_);refine Kd.R_lit k39 _ 39 ?hg (N:=71) ?hd (xs:=([(⟨(⟨#[113,49]⟩:ByteArray),(⟨#[]⟩:ByteArray),(⟨0,0,0⟩:S37)⟩:S39),(⟨(⟨#[113,49]⟩:ByteArray),(⟨#[]⟩:ByteArray),(⟨0,0,0⟩:S37)⟩:S39)]:List (S39))) (inner:=[.string (⟨#[113,49]⟩:ByteArray), .string (⟨#[]⟩:ByteArray), .int .i64 0, .int .i64 0, .int .i64 0, .string (⟨#[113,49]⟩:ByteArray), .string (⟨#[]⟩:ByteArray), .int .i64 0, .int .i64 0, .int .i64 0]) (ok:=fun _=>True) (okp:=fun _=>True) ?hr ?hp (fun _ hk=>hk) trivial (Below.refl _ _) (Nat.le_refl _) (by simp) ?_;(case hd=>rfl);(case hg=>rfl);(case hr=>first|(go_simp;done)|(go_simp;rfl));(case hp=>exact (Reps.c5 (show Kd.M k39 _ _ _ (⟨(⟨#[113,49]⟩:ByteArray),(⟨#[]⟩:ByteArray),(⟨0,0,0⟩:S37)⟩:S39) [.string (⟨#[113,49]⟩:ByteArray), .string (⟨#[]⟩:ByteArray), .int .i64 0, .int .i64 0, .int .i64 0] from (k39_mkM _ _ _ (⟨(⟨#[113,49]⟩:ByteArray),(⟨#[]⟩:ByteArray),(⟨0,0,0⟩:S37)⟩:S39))) (Reps.c5 (show Kd.M k39 _ _ _ (⟨(⟨#[113,49]⟩:ByteArray),(⟨#[]⟩:ByteArray),(⟨0,0,0⟩:S37)⟩:S39) [.string (⟨#[113,49]⟩:ByteArray), .string (⟨#[]⟩:ByteArray), .int .i64 0, .int .i64 0, .int .i64 0] from (k39_mkM _ _ _ (⟨(⟨#[113,49]⟩:ByteArray),(⟨#[]⟩:ByteArray),(⟨0,0,0⟩:S37)⟩:S39))) (Reps.none _ _))));intro v19 w32 ho33 hb hg_ hnew_;clear hg_ hnew_;(first|rw [←Ny18.out] at ho33|(simp only [Int.reduceToNat] at ho33;rw [←Ny18.out] at ho33));replace HO_7:=am_ (Kd.R_below (zr_ HO_7) hb);replace HO_8:=am_ (Kd.R_below (zr_ HO_8) hb);replace HO17:=am_ (Kd.R_below (zr_ HO17) hb);have HO20:=am_ (Kd.R_lower (Kd.R_new' ho33 (Kd.R_lt (zr_ HO13))) (below_size (zl0_ HB)));replace HO13:=am_ (Kd.R_elder' (zr_ HO13) (Kd.R_base ho33) hb);replace HB:=am_ (below_step (zl0_ HB) hb);clear hb ho33;obtain ⟨Ao34,co34,eo34⟩:=Kd.R_slice HO20.out;subst eo34)|((with_reducible refine gate_callee (f:=48) rfl ?_);refine gl_ (some 74) Try.func48 #[.slice Ao34 y18.length co34, .slice Ao27 t2.length co27, .slice (some ad9) t3.length co17] ?_;(with_reducible refine (plan_Steps.calls _ _ y18 _ _ t2 _ _ t3 t21 t22 _ ?side1 ?side2 ?side3 ?side4 ?side5 ?side6 A24.out).mono ?_);(case side1=>exact zc_ (Kd.R_reads' HO20.out).2.2);(case side2=>exact (Kd.R_reads' HO20.out).2.1);(case side3=>exact zc_ (Kd.R_reads' HO_7.out).2.2);(case side4=>exact (Kd.R_reads' HO_7.out).2.1);(case side5=>exact zc_ (Kd.R_reads' HO_8.out).2.2);(case side6=>exact (Kd.R_reads' HO_8.out).2.1);rintro e w35 ⟨v23,rfl,ho0,hb⟩;refine ⟨_,rfl, ?_⟩;replace HO_7:=am_ (Kd.R_below (zr_ HO_7) hb);replace HO_8:=am_ (Kd.R_below (zr_ HO_8) hb);replace HO13:=am_ (Kd.R_below (zr_ HO13) hb);replace HO20:=am_ (Kd.R_below (zr_ HO20) hb);have HO24:=am_ (Kd.R_lower (Kd.R_new' ho0 (Kd.R_lt (zr_ HO17))) (below_size (zl0_ HB)));replace HO17:=am_ (Kd.R_elder' (zr_ HO17) (Kd.R_base ho0) hb);replace HB:=am_ (below_step (zl0_ HB) hb);(try clear hb);(try clear hb2);(try clear hk);(try clear hi);(try clear ho0))|((with_reducible refine gate_dst (N:=79) rfl ?_);refine Kd.R_lit k39 _ 39 ?hg (N:=79) ?hd (xs:=([(⟨(⟨#[113,49]⟩:ByteArray),(⟨#[110,111,110,101]⟩:ByteArray),(⟨0,0,0⟩:S37)⟩:S39)]:List (S39))) (inner:=[.string (⟨#[113,49]⟩:ByteArray), .string (⟨#[110,111,110,101]⟩:ByteArray), .int .i64 0, .int .i64 0, .int .i64 0]) (ok:=fun _=>True) (okp:=fun _=>True) ?hr ?hp (fun _ hk=>hk) trivial (Below.refl _ _) (Nat.le_refl _) (by simp) ?_;(case hd=>rfl);(case hg=>rfl);(case hr=>first|(go_simp;done)|(go_simp;rfl));(case hp=>exact (Reps.c5 (show Kd.M k39 _ _ _ (⟨(⟨#[113,49]⟩:ByteArray),(⟨#[110,111,110,101]⟩:ByteArray),(⟨0,0,0⟩:S37)⟩:S39) [.string (⟨#[113,49]⟩:ByteArray), .string (⟨#[110,111,110,101]⟩:ByteArray), .int .i64 0, .int .i64 0, .int .i64 0] from (k39_mkM _ _ _ (⟨(⟨#[113,49]⟩:ByteArray),(⟨#[110,111,110,101]⟩:ByteArray),(⟨0,0,0⟩:S37)⟩:S39))) (Reps.none _ _)));intro v26 w36 ho37 hb hg_ hnew_;clear hg_ hnew_;(first|rw [←Ny25.out] at ho37|(simp only [Int.reduceToNat] at ho37;rw [←Ny25.out] at ho37));replace HO_7:=am_ (Kd.R_below (zr_ HO_7) hb);replace HO_8:=am_ (Kd.R_below (zr_ HO_8) hb);replace HO17:=am_ (Kd.R_below (zr_ HO17) hb);replace HO24:=am_ (Kd.R_below (zr_ HO24) hb);have HO27:=am_ (Kd.R_lower (Kd.R_new' (Kd.R_new' ho37 (Kd.R_lt (zr_ HO13))) (Kd.R_lt (zr_ HO20))) (below_size (zl0_ HB)));replace HO13:=am_ (Kd.R_elder' (zr_ HO13) (Kd.R_base ho37) hb);replace HO20:=am_ (Kd.R_elder' (zr_ HO20) (Kd.R_base ho37) hb);replace HB:=am_ (below_step (zl0_ HB) hb);clear hb ho37;obtain ⟨Ao38,co38,eo38⟩:=Kd.R_slice HO27.out;subst eo38)|((with_reducible refine gate_callee (f:=48) rfl ?_);refine gl_ (some 82) Try.func48 #[.slice Ao38 y25.length co38, .slice Ao27 t2.length co27, .slice (some ad9) t3.length co17] ?_;(with_reducible refine (plan_Steps.calls _ _ y25 _ _ t2 _ _ t3 t28 t29 _ ?side1 ?side2 ?side3 ?side4 ?side5 ?side6 A25.out).mono ?_);(case side1=>exact zc_ (Kd.R_reads' HO27.out).2.2);(case side2=>exact (Kd.R_reads' HO27.out).2.1);(case side3=>exact zc_ (Kd.R_reads' HO_7.out).2.2);(case side4=>exact (Kd.R_reads' HO_7.out).2.1);(case side5=>exact zc_ (Kd.R_reads' HO_8.out).2.2);(case side6=>exact (Kd.R_reads' HO_8.out).2.1);rintro e w39 ⟨v30,rfl,ho0,hb⟩;refine ⟨_,rfl, ?_⟩;replace HO_7:=am_ (Kd.R_below (zr_ HO_7) hb);replace HO_8:=am_ (Kd.R_below (zr_ HO_8) hb);replace HO13:=am_ (Kd.R_below (zr_ HO13) hb);replace HO20:=am_ (Kd.R_below (zr_ HO20) hb);replace HO27:=am_ (Kd.R_below (zr_ HO27) hb);have HO31:=am_ (Kd.R_lower (Kd.R_new' (Kd.R_new' ho0 (Kd.R_lt (zr_ HO17))) (Kd.R_lt (zr_ HO24))) (below_size (zl0_ HB)));replace HO17:=am_ (Kd.R_elder' (zr_ HO17) (Kd.R_base ho0) hb);replace HO24:=am_ (Kd.R_elder' (zr_ HO24) (Kd.R_base ho0) hb);replace HB:=am_ (below_step (zl0_ HB) hb);(try clear hb);(try clear hb2);(try clear hk);(try clear hi);(try clear ho0)))
   (try simp only [Act.put,List.setIfInBounds_toArray,List.set_cons_zero,List.set_cons_succ])
   go_cut [18] (fun v18 wc=> ∃(kq:Nat) (x18_25:Int),v18= .int .i64 x18_25∧Aside0 (law18_PlanClash.j1 kq t15 t22 t29 x18_25=some r)∧Aside0 (kq≤k1)∧Aside0 (Below w.heap.size w wc))
   case first=>
    have H:=HC26.out
    clear HC26
    by_cases c40:x10_1=true
    ·subst c40
     have H1:(law18_PlanClash.j1 k1 t15 t22 t29 0)=some r:=by rw [if_pos rfl] at H;exact H
     clear H
     have H:=H1
     clear H1
     have H':=Aside0.mk H
     clear H
     go_wp2
     go_meet
     case rel=>exact ⟨_,(0),(by first|rfl|(simp;done)|(simp [*];done)),H',⟨by have:=HK1.out;first|omega|exact Nat.le_refl _⟩,⟨zl0_ HB⟩⟩
    replace c40:=Bool.eq_false_iff.mpr c40
    subst c40
    have H1:(law18_PlanClash.j1 k1 t15 t22 t29 3)=some r:=by rw [if_neg (show¬(false=true) by decide)] at H;exact H
    clear H
    have H:=H1
    clear H1
    have H':=Aside0.mk H
    clear H
    go_wp2
    go_meet
    case rel=>exact ⟨_,(3),(by first|rfl|(simp;done)|(simp [*];done)),H',⟨by have:=HK1.out;first|omega|exact Nat.le_refl _⟩,⟨zl0_ HB⟩⟩
   case rest=>
    clear HC26
    try clear c1
    try clear p1
    try clear q1
    try clear hx1
    try clear c2
    try clear p2
    try clear c4
    try clear c4b0
    try clear c4b1
    try clear c5
    try clear p6
    try clear c8
    try clear c8b0
    try clear c8b1
    try clear c8b2
    try clear p9
    try clear q9
    try clear hx9
    try clear p10
    try clear q10
    try clear hx10
    try clear c14
    try clear c14b0
    try clear c15
    try clear c15b0
    try clear c16
    try clear c18
    try clear c18b0
    try clear c19
    try clear c21
    try clear c21b0
    try clear c40
    try clear hx10_0
    try clear hx10_1
    try clear hx10_2
    try clear hx10_3
    try clear hx10_4
    try clear hx10_5
    try clear hx9_0
    try clear hx9_1
    try clear hx9_10
    try clear hx9_11
    try clear hx9_2
    try clear hx9_3
    try clear hx9_4
    try clear hx9_5
    try clear hx9_6
    try clear hx9_7
    try clear hx9_8
    try clear hx9_9
    try clear p10
    try clear p2
    try clear p6
    try clear p9
    try clear q10
    try clear q9
    obtain ⟨kq,x18_25,rfl,HA,HJ25,HB⟩:=hcut
    cases kq with
    |zero=>exact absurd HA.out (by simp [law18_PlanClash.j1])
    |succ kj25=>
     have H:=HA.out
     clear HA
     simp only [law18_PlanClash.j1] at H
     replace H:=Option.bind_eq_some_iff.mp H
     obtain ⟨t32,A410,H⟩:=H
     try dsimp only at H
     have A41:=Aside0.mk A410
     clear A410
     by_cases c42:t32=x18_25
     rotate_left
     ·rw [if_neg c42] at H
      have c42b0:(t32==x18_25)=false:=beq_eq_false_iff_ne.mpr c42
      have c42b1:(t32 !=x18_25)=true:=bne_iff_ne.mpr c42
      obtain rfl:=Option.some.inj H
      go_wp2_with (first|((with_reducible refine gate_callee (f:=25) rfl ?_);refine gl_ (some 87) Try.func25 #[.int .i64 t15] ?_;(with_reducible refine (law1_Num.calls t15 t32 _ A41.out).mono ?_);rintro e w' ⟨rfl,⟨nd,rfl⟩⟩;refine ⟨_,rfl, ?_⟩))
      go_ret
      exact ⟨by first|rfl|(simp [errW_none,errW_some]<;>rfl)|(simp only [←hji13];first|rfl|(simp [errW_none,errW_some]<;>rfl))|(simp [*,errW_none,errW_some]<;>rfl),zl0_ HB⟩
     rw [if_pos c42] at H
     have c42b0:(t32==x18_25)=true:=beq_iff_eq.mpr c42
     have c42b1:(t32 !=x18_25)=false:=bne_eq_false_iff_eq.mpr c42
     clear c42
     replace H:=Option.bind_eq_some_iff.mp H
     obtain ⟨t33,A430,H⟩:=H
     try dsimp only at H
     have A43:=Aside0.mk A430
     clear A430
     by_cases c44:t33=3
     rotate_left
     ·rw [if_neg c44] at H
      have c44b0:(t33==3)=false:=beq_eq_false_iff_ne.mpr c44
      have c44b1:(t33 !=3)=true:=bne_iff_ne.mpr c44
      obtain rfl:=Option.some.inj H
      go_wp2_with (first|((with_reducible refine gate_callee (f:=25) rfl ?_);refine gl_ (some 87) Try.func25 #[.int .i64 t15] ?_;(with_reducible refine (law1_Num.calls t15 t32 _ A41.out).mono ?_);rintro e w' ⟨rfl,⟨nd,rfl⟩⟩;refine ⟨_,rfl, ?_⟩)|(go_at_call 25;(with_reducible refine (law1_Num.calls t22 t33 _ A43.out).mono ?_);rintro e w' ⟨rfl,⟨nd,rfl⟩⟩))
      go_ret
      exact ⟨by first|rfl|(simp [errW_none,errW_some]<;>rfl)|(simp only [←hji13];first|rfl|(simp [errW_none,errW_some]<;>rfl))|(simp [*,errW_none,errW_some]<;>rfl),zl0_ HB⟩
     rw [if_pos c44] at H
     have c44b0:(t33==3)=true:=beq_iff_eq.mpr c44
     have c44b1:(t33 !=3)=false:=bne_eq_false_iff_eq.mpr c44
     clear c44
     replace H:=Option.bind_eq_some_iff.mp H
     obtain ⟨t34,A450,H⟩:=H
     try dsimp only at H
     have A45:=Aside0.mk A450
     clear A450
     by_cases c46:t34=2
     rotate_left
     ·rw [if_neg c46] at H
      have c46b0:(t34==2)=false:=beq_eq_false_iff_ne.mpr c46
      have c46b1:(t34 !=2)=true:=bne_iff_ne.mpr c46
      obtain rfl:=Option.some.inj H
      go_wp2_with (first|((with_reducible refine gate_callee (f:=25) rfl ?_);refine gl_ (some 87) Try.func25 #[.int .i64 t15] ?_;(with_reducible refine (law1_Num.calls t15 t32 _ A41.out).mono ?_);rintro e w' ⟨rfl,⟨nd,rfl⟩⟩;refine ⟨_,rfl, ?_⟩)|(go_at_call 25;(with_reducible refine (law1_Num.calls t22 t33 _ A43.out).mono ?_);rintro e w' ⟨rfl,⟨nd,rfl⟩⟩)|(go_at_call 25;(with_reducible refine (law1_Num.calls t29 t34 _ A45.out).mono ?_);rintro e w' ⟨rfl,⟨nd,rfl⟩⟩))
      go_ret
      exact ⟨by first|rfl|(simp [errW_none,errW_some]<;>rfl)|(simp only [←hji13];first|rfl|(simp [errW_none,errW_some]<;>rfl))|(simp [*,errW_none,errW_some]<;>rfl),zl0_ HB⟩
     rw [if_pos c46] at H
     have c46b0:(t34==2)=true:=beq_iff_eq.mpr c46
     have c46b1:(t34 !=2)=false:=bne_eq_false_iff_eq.mpr c46
     clear c46
     replace H:=Option.bind_eq_some_iff.mp H
     obtain ⟨t35,A470,H⟩:=H
     try dsimp only at H
     have A47:=Aside0.mk A470
     clear A470
     obtain rfl:=Option.some.inj H
     go_wp2_with (first|((with_reducible refine gate_callee (f:=25) rfl ?_);refine gl_ (some 87) Try.func25 #[.int .i64 t15] ?_;(with_reducible refine (law1_Num.calls t15 t32 _ A41.out).mono ?_);rintro e w' ⟨rfl,⟨nd,rfl⟩⟩;refine ⟨_,rfl, ?_⟩)|(go_at_call 25;(with_reducible refine (law1_Num.calls t22 t33 _ A43.out).mono ?_);rintro e w' ⟨rfl,⟨nd,rfl⟩⟩)|(go_at_call 25;(with_reducible refine (law1_Num.calls t29 t34 _ A45.out).mono ?_);rintro e w' ⟨rfl,⟨nd,rfl⟩⟩)|(go_at_call 47;(with_reducible refine (law18_awake.calls t35 _ A47.out).mono ?_);rintro e w48 ⟨rfl,hb⟩;replace HB:=am_ (below_step (zl0_ HB) hb);(try clear hb);(try clear hb2);(try clear hk);(try clear hi)))
     go_ret
     exact ⟨by first|rfl|(simp [errW_none,errW_some]<;>rfl)|(simp only [←hji13];first|rfl|(simp [errW_none,errW_some]<;>rfl))|(simp [*,errW_none,errW_some]<;>rfl),zl0_ HB⟩
noncomputable def law18_PlanClash.Pure:Prop:= ∀(l0:List Int) (a1:Int) (a2:Int),l0.length≤maxLen→l0.length*1≤140737488351232→(∀x∈l0,(Lit.int .u8 x).wf=true)→(Lit.int .u8 a1).wf=true→(Lit.int .u8 a2).wf=true→ ∃k,law18_PlanClash.f k l0 a1 a2=some true
theorem law18_PlanClash.walk (P:law18_PlanClash.Pure) (a0:Option Addr) (len0 cap0:Nat) (z0:List Int) (a1:Int) (a2:Int) (w:World) (w0:(a0=none∧len0=0∧cap0=0∧z0=[])∨ ∃x,a0=some x∧len0≤cap0∧cap0≤maxLen∧z0.length=cap0∧(∀i,i<z0.length→w.cell? (x.add i)=some (.int .u8 (z0.getD i 0)))∧ ∀n∈z0,(Lit.int .u8 n).wf=true) (y0:len0*1≤140737488351232) (w1:(Lit.int .u8 a1).wf=true) (w2:(Lit.int .u8 a2).wf=true):
  Calls Try.prog 16 #[.slice a0 len0 cap0, .int .u8 a1, .int .u8 a2] w fun e w'=>e= .returned (.bool true)∧Below w.heap.size w w':=by
 obtain ⟨l0,rfl,hr0,hm0,hw0,hc0⟩:=ReadsInt.ofRowC w0
 obtain ⟨k,h⟩:=P l0 a1 a2 hm0 y0 hw0 w1 w2
 refine (law18_PlanClash.calls k _ _ l0 a1 a2 true w (Kd.C_of_reads (d:=(0:Int)) (h1:=fun _=>rfl) hr0) hc0 h).mono ?_
 rintro e w' ⟨rfl,hd⟩
 exact ⟨rfl,hd⟩

def slices_Clone_Item.f (l0:List (S79)):Option (List (S79)):=if l0.length<1256584717458 then some l0 else none
def shape_made.f (l0:List (S79)) (a1:ByteArray):Option ((List (S79))×Int):=(slices_Clone_Item.f l0).bind fun t2=>((tree_Find.f l0 a1).bind fun t5=>(some (t2,t5)))
def shape_change_parent.f (l0_0:List (S79)) (a0_1:Int) (a1:ByteArray):Option (Bool):=if a1.toList=([]:List UInt8) then (some true) else ((tree_Find.f l0_0 a1).bind fun t2=>(some (decide (t2≥0))))
def guardF (l:List S79) (j ver:Int):Option Int:=if j<0 then some 2 else if j<(l.length:Int) then (if 0≤ver∧(rd_T79 l j).f5≠ver then some 14 else some 0) else none
def verF (y:S79):S79:=⟨y.f0,y.f1,y.f2,y.f3,y.f4,wrap64 (y.f5+1)⟩
def olderF (l:List S79) (j:Int):Option (Int×List S79):=if 0≤j∧j<(l.length:Int) then (if (rd_T79 l j).f5≥9007199254740992 then some (4,l) else some (0,l.set j.toNat (verF (rd_T79 l j)))) else none
structure Turned (W w':World) (base:Nat) (v:Value):Prop where
 below:Below base W w'
 block: ∀(k:Nat) o,W.heap[k]?=some o→some k≠v.ownBlock→w'.heap[k]?=some o
theorem Turned.of_below {W w':World} {base:Nat} {v:Value} (h:Below W.heap.size W w') (hb:base≤W.heap.size):Turned W w' base v:=⟨⟨h.os,h.tape,h.output,h.size,fun k hk=>h.block k (Nat.lt_of_lt_of_le hk hb)⟩,fun k o hk _=>blk_below hk h⟩
end Go.Proofs.Ytahidkjncljkaaa.Print

namespace Go.Proofs.Ytahidkjncljkaaa.Print
open Go.RowKit Go.Proofs.YtahidkjncljkaaaW.PrintWords Go.Proofs.YtahidkjncljkaaaW.PrintLast Go.Proofs.YtahidkjncljkaaaW.PrintMore
end Go.Proofs.Ytahidkjncljkaaa.Print

namespace Go.Proofs.Ytahidkjncljkaaa.Print
open Go.RowKit Go.Proofs.YtahidkjncljkaaaW.PrintWords Go.Proofs.YtahidkjncljkaaaW.PrintLast Go.Proofs.YtahidkjncljkaaaW.PrintMore
attribute [local go_sem] max2_int min2_int max_two min_two max_three min_three max_four min_four
def placeL (l:List S79) (n:ByteArray):Nat:=(l.takeWhile fun y=>Op.bytesLess y.f0.toList n.toList).length
def shape_Create.f (l0:List (S79)) (a1:ByteArray) (a2:ByteArray) (a3_0:Int) (a3_1:Int) (a3_2:Int):Option ((List (S79))×Int):=
 (shape_made.f l0 a1).bind fun p=>if a1.toList=([]:List UInt8) then some ([],1) else if (a1.size:Int)>24 then some ([],1) else (vec_May.f a3_0 a3_1 a3_2).bind fun m=>if m=false then some ([],1) else
  if p.2≥0 then some ([],3) else (shape_change_parent.f p.1 p.2 a2).bind fun q=>if q=false then some ([],2) else if (l0.length:Int)≥120 then some ([],4) else
   some (p.1.take (placeL l0 a1)++⟨a1,a2,⟨a3_0,a3_1,a3_2⟩,⟨0,0,0⟩,⟨0,0,0⟩,1⟩::p.1.drop (placeL l0 a1),0)
end Go.Proofs.Ytahidkjncljkaaa.Print

namespace Go.Proofs.Ytahidkjncljkaaa.Print
open Go.RowKit Go.Proofs.YtahidkjncljkaaaW.PrintWords Go.Proofs.YtahidkjncljkaaaW.PrintLast Go.Proofs.YtahidkjncljkaaaW.PrintMore
def shSub (op:S37→S37) (y:S79):S79:=⟨y.f0,y.f1,y.f2,y.f3,op y.f4,y.f5⟩
def shiftF (op:S37→S37):List ByteArray→List S79→Option (List S79)
 |[],out=>some out
 |s::us,out=>(tree_Find.f out s).bind fun j=>if 0≤j∧j<(out.length:Int) then shiftF op us (out.set j.toNat (shSub op (rd_T79 out j))) else none
end Go.Proofs.Ytahidkjncljkaaa.Print

namespace Go.Proofs.Ytahidkjncljkaaa.Print
open Go.RowKit Go.Proofs.YtahidkjncljkaaaW.PrintWords Go.Proofs.YtahidkjncljkaaaW.PrintLast Go.Proofs.YtahidkjncljkaaaW.PrintMore
attribute [local go_sem] max2_int min2_int max_two min_two max_three min_three max_four min_four

def limF (v:S37) (y:S79):S79:=⟨y.f0,y.f1,v,y.f3,y.f4,y.f5⟩
def shape_Limit.f (l0:List (S79)) (a1:ByteArray) (a2_0:Int) (a2_1:Int) (a2_2:Int) (a3:Int):Option ((List (S79))×Int):=
 (vec_May.f a2_0 a2_1 a2_2).bind fun m=>if m=false then some ([],1) else (shape_made.f l0 a1).bind fun p=>(guardF p.1 p.2 a3).bind fun e=>if e≠0 then some ([],e) else (olderF p.1 p.2).bind fun q=>if q.1≠0 then some ([],q.1) else
  (vec_Le.f (rd_T79 q.2 p.2).f4.f0 (rd_T79 q.2 p.2).f4.f1 (rd_T79 q.2 p.2).f4.f2 a2_0 a2_1 a2_2).bind fun b=>if b=false then some ([],12) else some (q.2.set p.2.toNat (limF ⟨a2_0,a2_1,a2_2⟩ (rd_T79 q.2 p.2)),0)
def slices_Index_string_string.l0:Nat→List ByteArray→ByteArray→Int→Int→Option (Int)
 |0,_,_,_,_=>none
 |k+1,x0,x1,x7,x8=>if x8<x7 then (if 0≤x8 then (if x8<(x0.length:Int) then (if x1.toList=(rdOf ByteArray.empty x0 x8).toList then (some x8) else (slices_Index_string_string.l0 k x0 x1 x7 (wrap64 (x8+1)))) else (none)) else (none)) else (some (-1))
def slices_Index_string_string.f (k:Nat) (l0:List ByteArray) (a1:ByteArray):Option (Int):=slices_Index_string_string.l0 k l0 a1 (l0.length:Int) 0
theorem slices_Index_string_string.mono_l: ∀k,(∀y0 y1 y2 y3,LeO (slices_Index_string_string.l0 k y0 y1 y2 y3) (slices_Index_string_string.l0 (k+1) y0 y1 y2 y3))
 |0=>fun _ _ _ _ r h=>by simp [slices_Index_string_string.l0] at h
 |k+1=>by
  have ih0:=slices_Index_string_string.mono_l k
  intro y0 y1 y2 y3
  unfold slices_Index_string_string.l0
  repeat' first
  |(with_reducible exact ih0 _ _ _ _)
  |(with_reducible exact LeO.refl _)
  |(with_reducible exact LeO.none _)
  |(with_reducible refine LeO.ite ?_ ?_)
  |(with_reducible refine LeO.bind ?_ (fun _=> ?_))
  |exact ih0 _ _ _ _
  |exact LeO.none _
  |refine LeO.ite ?_ ?_
  |refine LeO.bind ?_ (fun _=> ?_)
theorem slices_Index_string_string.mono: ∀a0 a1 k,LeO (slices_Index_string_string.f k a0 a1) (slices_Index_string_string.f (k+1) a0 a1):=by
 intro a0 a1 k
 have ih0:=slices_Index_string_string.mono_l k
 unfold slices_Index_string_string.f
 repeat' first
  |(with_reducible exact ih0 _ _ _ _)
  |(with_reducible exact LeO.refl _)
  |(with_reducible exact LeO.none _)
  |(with_reducible refine LeO.ite ?_ ?_)
  |(with_reducible refine LeO.bind ?_ (fun _=> ?_))
  |exact ih0 _ _ _ _
  |exact LeO.none _
  |refine LeO.ite ?_ ?_
  |refine LeO.bind ?_ (fun _=> ?_)
def slices_Contains_string_string.f (k:Nat) (l0:List ByteArray) (a1:ByteArray):Option (Bool):=(slices_Index_string_string.f k l0 a1).bind fun t1=>(some (decide (t1≥0)))
theorem slices_Contains_string_string.mono: ∀a0 a1 k,LeO (slices_Contains_string_string.f k a0 a1) (slices_Contains_string_string.f (k+1) a0 a1):=by
 intro a0 a1 k
 unfold slices_Contains_string_string.f
 repeat' first
  |(with_reducible exact slices_Index_string_string.mono _ _ _)
  |(with_reducible exact LeO.refl _)
  |(with_reducible exact LeO.none _)
  |(with_reducible refine LeO.ite ?_ ?_)
  |(with_reducible refine LeO.bind ?_ (fun _=> ?_))
  |exact slices_Index_string_string.mono _ _ _
  |exact LeO.none _
  |refine LeO.ite ?_ ?_
  |refine LeO.bind ?_ (fun _=> ?_)
def mvAdd (v u:S37):S37:=⟨((vec_Add.f [u,v]).getD (0,0,0)).1,((vec_Add.f [u,v]).getD (0,0,0)).2.1,((vec_Add.f [u,v]).getD (0,0,0)).2.2⟩
def mvSub (v u:S37):S37:=⟨wrap64 (u.f0 - v.f0),wrap64 (u.f1 - v.f1),wrap64 (u.f2 - v.f2)⟩
def fitsF (k:Nat) (l:List S79) (from_:List ByteArray) (sub:S37):List ByteArray→Option Bool
  |[]=>some true
  | s :: us => (tree_Find.f l s).bind fun j => if 0 ≤ j ∧ j < (l.length : Int) then (slices_Contains_string_string.f k from_ s).bind fun c => if c = true then fitsF k l from_ sub us else
      (vec_Le.f (mvAdd sub (rd_T79 l j).f4).f0 (mvAdd sub (rd_T79 l j).f4).f1 (mvAdd sub (rd_T79 l j).f4).f2 (rd_T79 l j).f2.f0 (rd_T79 l j).f2.f1 (rd_T79 l j).f2.f2).bind fun b=>if b=true then fitsF k l from_ sub us else some false else none
theorem fitsF_mono (l:List S79) (from_:List ByteArray) (sub:S37) (k:Nat): ∀us,LeO (fitsF k l from_ sub us) (fitsF (k+1) l from_ sub us)
  |[]=>LeO.refl _
  | s :: us => by
    unfold fitsF
    refine LeO.bind (LeO.refl _) (fun j=>LeO.ite (LeO.bind (slices_Contains_string_string.mono _ _ _) (fun c=>LeO.ite (fitsF_mono l from_ sub k us) (LeO.bind (LeO.refl _) (fun b=>LeO.ite (fitsF_mono l from_ sub k us) (LeO.refl _))))) (LeO.refl _))
def parF (p:ByteArray) (y:S79):S79:=⟨y.f0,p,y.f2,y.f3,y.f4,y.f5⟩
def shape_Move.f (k:Nat) (l0:List (S79)) (a1:ByteArray) (a2:ByteArray) (a3:Int):Option ((List (S79))×Int):=
 (shape_made.f l0 a1).bind fun p=>(guardF p.1 p.2 a3).bind fun e=>if e≠0 then some ([],e) else (tree_Up.f k l0 a2).bind fun ts=>(shape_change_parent.f p.1 p.2 a2).bind fun q=>if q=false then some ([],2) else
  (slices_Contains_string_string.f k ts a1).bind fun c=>if c=true then some ([],10) else (olderF p.1 p.2).bind fun o=>if o.1≠0 then some ([],o.1) else
   (tree_Up.f k l0 (rd_T79 o.2 p.2).f1).bind fun fs=>(fitsF k l0 fs (rd_T79 o.2 p.2).f4 ts).bind fun b=>if b=false then some ([],12) else
    (shiftF (mvSub (rd_T79 o.2 p.2).f4) fs o.2).bind fun l3=>(shiftF (mvAdd (rd_T79 o.2 p.2).f4) ts l3).bind fun l4=>some (l4.set p.2.toNat (parF a2 (rd_T79 l4 p.2)),0)
theorem shape_Move.mono: ∀a0 a1 a2 a3 k,LeO (shape_Move.f k a0 a1 a2 a3) (shape_Move.f (k+1) a0 a1 a2 a3):=by
 intro a0 a1 a2 a3 k
 unfold shape_Move.f
 repeat' first
  |(with_reducible exact tree_Up.mono _ _ _)
  |(with_reducible exact slices_Contains_string_string.mono _ _ _)
  |(with_reducible exact fitsF_mono _ _ _ _ _)
  |(with_reducible exact LeO.refl _)
  |(with_reducible exact LeO.none _)
  |(with_reducible refine LeO.ite ?_ ?_)
  |(with_reducible refine LeO.bind ?_ (fun _=> ?_))
def tree_Below.l0:Nat→ByteArray→List ByteArray→List (S79)→Int→Int→Option (List ByteArray)
 |0,_,_,_,_,_=>none
 |k+1,x1,x5,x8,x9,x10=>if x10<x9 then (if 0≤x10 then (if x10<(x8.length:Int) then (if ((rd_T79 x8 x10).f1).toList=x1.toList then (if x5.length<8796093022208 then (tree_Below.l0 k x1 (x5++ [(rd_T79 x8 x10).f0]) x8 x9 (wrap64 (x10+1))) else (none)) else (tree_Below.l0 k x1 x5 x8 x9 (wrap64 (x10+1)))) else (none)) else (none)) else (some x5)
def tree_Below.f (k:Nat) (l0:List (S79)) (a1:ByteArray):Option (List ByteArray):=tree_Below.l0 k a1 ([]:List ByteArray) l0 (l0.length:Int) 0
theorem tree_Below.mono_l: ∀k,(∀y0 y1 y2 y3 y4,LeO (tree_Below.l0 k y0 y1 y2 y3 y4) (tree_Below.l0 (k+1) y0 y1 y2 y3 y4))
 |0=>fun _ _ _ _ _ r h=>by simp [tree_Below.l0] at h
 |k+1=>by
  have ih0:=tree_Below.mono_l k
  intro y0 y1 y2 y3 y4
  unfold tree_Below.l0
  repeat' first
  |(with_reducible exact ih0 _ _ _ _ _)
  |(with_reducible exact LeO.refl _)
  |(with_reducible exact LeO.none _)
  |(with_reducible refine LeO.ite ?_ ?_)
  |(with_reducible refine LeO.bind ?_ (fun _=> ?_))
  |exact ih0 _ _ _ _ _
  |exact LeO.none _
  |refine LeO.ite ?_ ?_
  |refine LeO.bind ?_ (fun _=> ?_)
theorem tree_Below.mono: ∀a0 a1 k,LeO (tree_Below.f k a0 a1) (tree_Below.f (k+1) a0 a1):=by
 intro a0 a1 k
 have ih0:=tree_Below.mono_l k
 unfold tree_Below.f
 repeat' first
  |(with_reducible exact ih0 _ _ _ _ _)
  |(with_reducible exact LeO.refl _)
  |(with_reducible exact LeO.none _)
  |(with_reducible refine LeO.ite ?_ ?_)
  |(with_reducible refine LeO.bind ?_ (fun _=> ?_))
  |exact ih0 _ _ _ _ _
  |exact LeO.none _
  |refine LeO.ite ?_ ?_
  |refine LeO.bind ?_ (fun _=> ?_)
def shape_Delete.f (k:Nat) (l0:List (S79)) (a1:ByteArray) (a2:Int):Option ((List (S79))×Int):=
 (shape_made.f l0 a1).bind fun p=>(guardF p.1 p.2 a2).bind fun e=>if e≠0 then some ([],e) else (tree_Below.f k l0 a1).bind fun b=>if (b.length:Int)>0 then some ([],13) else
  if (rd_T79 p.1 p.2).f3.f0=0∧(rd_T79 p.1 p.2).f3.f1=0∧(rd_T79 p.1 p.2).f3.f2=0 then some (p.1.take p.2.toNat++p.1.drop (p.2.toNat+1),0) else some ([],13)
theorem shape_Delete.mono: ∀a0 a1 a2 k,LeO (shape_Delete.f k a0 a1 a2) (shape_Delete.f (k+1) a0 a1 a2):=by
 intro a0 a1 a2 k
 unfold shape_Delete.f
 repeat' first
  |(with_reducible exact tree_Below.mono _ _ _)
  |(with_reducible exact LeO.refl _)
  |(with_reducible exact LeO.none _)
  |(with_reducible refine LeO.ite ?_ ?_)
  |(with_reducible refine LeO.bind ?_ (fun _=> ?_))
def shape_Do.f (k:Nat) (l0:List (S79)) (a1_0:Int) (a1_1:ByteArray) (a1_2:ByteArray) (a1_3:Int) (a1_4:Int) (a1_5:Int) (a2:Int):Option ((List (S79))×Int):=if a1_0=1 then ((shape_Create.f l0 a1_1 a1_2 a1_3 a1_4 a1_5).bind fun bt2=>(some (bt2.1,bt2.2))) else (if a1_0=2 then ((shape_Limit.f l0 a1_1 a1_3 a1_4 a1_5 a2).bind fun bt6=>(some (bt6.1,bt6.2))) else (if a1_0=3 then ((shape_Move.f k l0 a1_1 a1_2 a2).bind fun bt10=>(some (bt10.1,bt10.2))) else (if a1_0=4 then ((shape_Delete.f k l0 a1_1 a2).bind fun bt14=>(some (bt14.1,bt14.2))) else (some (([]:List (S79)),1)))))
theorem shape_Do.mono: ∀a0 a1 a2 a3 a4 a5 a6 a7 k,LeO (shape_Do.f k a0 a1 a2 a3 a4 a5 a6 a7) (shape_Do.f (k+1) a0 a1 a2 a3 a4 a5 a6 a7):=by
 intro a0 a1 a2 a3 a4 a5 a6 a7 k
 unfold shape_Do.f
 repeat' first
  |(with_reducible exact shape_Delete.mono _ _ _ _)
  |(with_reducible exact shape_Move.mono _ _ _ _ _)
  |(with_reducible exact LeO.refl _)
  |(with_reducible exact LeO.none _)
  |(with_reducible refine LeO.ite ?_ ?_)
  |(with_reducible refine LeO.bind ?_ (fun _=> ?_))
  |exact shape_Delete.mono _ _ _ _
  |exact shape_Move.mono _ _ _ _ _
  |exact LeO.none _
  |refine LeO.ite ?_ ?_
  |refine LeO.bind ?_ (fun _=> ?_)
def Kept (b:Nat) (W w:World):Prop:=(∀g ob,g≠b→W.heap[g]?=some ob→w.heap[g]?=some ob)∧W.heap.size≤w.heap.size
def trial_try.l0:Nat→List (S76)→Int→List (S79)→Int→Option ((List (S79))×Int×Int)
 |0,_,_,_,_=>none
 |k+1,ss,x,lc,dc=>if x<(ss.length:Int) then (if 0≤x then ((shape_Do.f k lc (rd_T76 ss x).f0 (rd_T76 ss x).f1 (rd_T76 ss x).f2 (rd_T76 ss x).f3.f0 (rd_T76 ss x).f3.f1 (rd_T76 ss x).f3.f2 (-1)).bind fun bt7=>if bt7.2=0 then trial_try.l0 k ss (wrap64 (x+1)) bt7.1 (wrap64 (dc+1)) else some (lc,dc,bt7.2)) else none) else some (lc,dc,0)
theorem trial_try.mono_l: ∀k y0 y1 y2 y3,LeO (trial_try.l0 k y0 y1 y2 y3) (trial_try.l0 (k+1) y0 y1 y2 y3)
  |0=>fun _ _ _ _ r h=>by simp [trial_try.l0] at h
  | k + 1 => by
    have ih0:=trial_try.mono_l k
    intro y0 y1 y2 y3
    unfold trial_try.l0
    repeat' first
      |(with_reducible exact ih0 _ _ _ _)
      |(with_reducible exact shape_Do.mono _ _ _ _ _ _ _ _ _)
      |(with_reducible exact LeO.refl _)
      |(with_reducible exact LeO.none _)
      |(with_reducible refine LeO.ite ?_ ?_)
      |(with_reducible refine LeO.bind ?_ (fun _=> ?_))
theorem eqA79 (d:Nat) (w:World) (x0 y0:ByteArray) (x1 y1:ByteArray) (x2 y2:Int) (x3 y3:Int) (x4 y4:Int) (x5 y5:Int) (x6 y6:Int) (x7 y7:Int) (x8 y8:Int) (x9 y9:Int) (x10 y10:Int) (x11 y11:Int):
  (Op.equalIn (d+3) 79 (.agg #[.string x0, .string x1, .int .i64 x2, .int .i64 x3, .int .i64 x4, .int .i64 x5, .int .i64 x6, .int .i64 x7, .int .i64 x8, .int .i64 x9, .int .i64 x10, .int .i64 x11]) (.agg #[.string y0, .string y1, .int .i64 y2, .int .i64 y3, .int .i64 y4, .int .i64 y5, .int .i64 y6, .int .i64 y7, .int .i64 y8, .int .i64 y9, .int .i64 y10, .int .i64 y11])).run Try.prog w= .ok (x0.toList==y0.toList && (x1.toList==y1.toList && ((x2==y2 && (x3==y3 && (x4==y4))) && ((x5==y5 && (x6==y6 && (x7==y7))) && ((x8==y8 && (x9==y9 && (x10==y10))) && (x11==y11)))))) w:=by
 refine eqA_of Try.underlying79 (by kernel_rfl) ?_
 refine eqf_cons (by rfl) (by go_simp;rfl) (by go_simp;rfl) (by go_simp) ?_
 refine eqf_cons (by rfl) (by go_simp;rfl) (by go_simp;rfl) (by go_simp) ?_
 refine eqf_cons (by rfl) (by go_simp) (by go_simp) (eqA37 (d+0) w _ _ _ _ _ _) ?_
 refine eqf_cons (by rfl) (by go_simp) (by go_simp) (eqA37 (d+0) w _ _ _ _ _ _) ?_
 refine eqf_cons (by rfl) (by go_simp) (by go_simp) (eqA37 (d+0) w _ _ _ _ _ _) ?_
 exact eqf_last (by rfl) (by go_simp;rfl) (by go_simp;rfl) (by go_simp)
attribute [local go_sem high] eqA79
end Go.Proofs.Ytahidkjncljkaaa.Print

namespace Go.Proofs.Ytahidkjncljkaaa.Print
open Go.RowKit Go.Proofs.YtahidkjncljkaaaW.PrintWords Go.Proofs.YtahidkjncljkaaaW.PrintLast Go.Proofs.YtahidkjncljkaaaW.PrintMore
end Go.Proofs.Ytahidkjncljkaaa.Print

namespace Go.Proofs.Ytahidkjncljkaaa.Print
open Go.RowKit Go.Proofs.YtahidkjncljkaaaW.PrintWords Go.Proofs.YtahidkjncljkaaaW.PrintLast Go.Proofs.YtahidkjncljkaaaW.PrintMore
attribute [local go_sem] max2_int min2_int max_two min_two max_three min_three max_four min_four

end Go.Proofs.Ytahidkjncljkaaa.Print

namespace Go.Proofs.Ytahidkjncljkaaa.Print
open Go.RowKit Go.Proofs.YtahidkjncljkaaaW.PrintWords Go.Proofs.YtahidkjncljkaaaW.PrintLast Go.Proofs.YtahidkjncljkaaaW.PrintMore
end Go.Proofs.Ytahidkjncljkaaa.Print

namespace Go.Proofs.Ytahidkjncljkaaa.Print
open Go.RowKit Go.Proofs.YtahidkjncljkaaaW.PrintWords Go.Proofs.YtahidkjncljkaaaW.PrintLast Go.Proofs.YtahidkjncljkaaaW.PrintMore
attribute [local go_sem] max2_int min2_int max_two min_two max_three min_three max_four min_four

end Go.Proofs.Ytahidkjncljkaaa.Print

namespace Go.Proofs.Ytahidkjncljkaaa.Print
open Go.RowKit Go.Proofs.YtahidkjncljkaaaW.PrintWords Go.Proofs.YtahidkjncljkaaaW.PrintLast Go.Proofs.YtahidkjncljkaaaW.PrintMore
end Go.Proofs.Ytahidkjncljkaaa.Print

namespace Go.Proofs.Ytahidkjncljkaaa.Print
open Go.RowKit Go.Proofs.YtahidkjncljkaaaW.PrintWords Go.Proofs.YtahidkjncljkaaaW.PrintLast Go.Proofs.YtahidkjncljkaaaW.PrintMore
attribute [local go_sem] max2_int min2_int max_two min_two max_three min_three max_four min_four

attribute [local go_sem high] eqA37
end Go.Proofs.Ytahidkjncljkaaa.Print

namespace Go.Proofs.Ytahidkjncljkaaa.Print
open Go.RowKit Go.Proofs.YtahidkjncljkaaaW.PrintWords Go.Proofs.YtahidkjncljkaaaW.PrintLast Go.Proofs.YtahidkjncljkaaaW.PrintMore
end Go.Proofs.Ytahidkjncljkaaa.Print

namespace Go.Proofs.Ytahidkjncljkaaa.Print
open Go.RowKit Go.Proofs.YtahidkjncljkaaaW.PrintWords Go.Proofs.YtahidkjncljkaaaW.PrintLast Go.Proofs.YtahidkjncljkaaaW.PrintMore
attribute [local go_sem] max2_int min2_int max_two min_two max_three min_three max_four min_four

end Go.Proofs.Ytahidkjncljkaaa.Print

namespace Go.Proofs.Ytahidkjncljkaaa.Print
open Go.RowKit Go.Proofs.YtahidkjncljkaaaW.PrintWords Go.Proofs.YtahidkjncljkaaaW.PrintLast Go.Proofs.YtahidkjncljkaaaW.PrintMore
end Go.Proofs.Ytahidkjncljkaaa.Print

namespace Go.Proofs.Ytahidkjncljkaaa.Print
open Go.RowKit Go.Proofs.YtahidkjncljkaaaW.PrintWords Go.Proofs.YtahidkjncljkaaaW.PrintLast Go.Proofs.YtahidkjncljkaaaW.PrintMore
attribute [local go_sem] max2_int min2_int max_two min_two max_three min_three max_four min_four

end Go.Proofs.Ytahidkjncljkaaa.Print

namespace Go.Proofs.Ytahidkjncljkaaa.Print
open Go.RowKit Go.Proofs.YtahidkjncljkaaaW.PrintWords Go.Proofs.YtahidkjncljkaaaW.PrintLast Go.Proofs.YtahidkjncljkaaaW.PrintMore
end Go.Proofs.Ytahidkjncljkaaa.Print

namespace Go.Proofs.Ytahidkjncljkaaa.Print
open Go.RowKit Go.Proofs.YtahidkjncljkaaaW.PrintWords Go.Proofs.YtahidkjncljkaaaW.PrintLast Go.Proofs.YtahidkjncljkaaaW.PrintMore
attribute [local go_sem] max2_int min2_int max_two min_two max_three min_three max_four min_four

end Go.Proofs.Ytahidkjncljkaaa.Print

namespace Go.Proofs.Ytahidkjncljkaaa.Print
open Go.RowKit Go.Proofs.YtahidkjncljkaaaW.PrintWords Go.Proofs.YtahidkjncljkaaaW.PrintLast Go.Proofs.YtahidkjncljkaaaW.PrintMore
end Go.Proofs.Ytahidkjncljkaaa.Print

namespace Go.Proofs.Ytahidkjncljkaaa.Print
open Go.RowKit Go.Proofs.YtahidkjncljkaaaW.PrintWords Go.Proofs.YtahidkjncljkaaaW.PrintLast
def idle (x:Item):Item:=⟨x.f0,x.f1,x.f2,⟨0,0,0⟩,⟨0,0,0⟩,x.f5⟩
structure St (t:List Item) (v m:Nat) (A:ByteArray→Option ByteArray):Prop where
 right:RightP t
 idle: ∀x∈t,x.f3=⟨0,0,0⟩∧x.f4=⟨0,0,0⟩
 ver: ∀x∈t,x.f5≤v
 len:t.length≤m
 par: ∀n,(look t n).map (·.f1)=A n
theorem St.some {t:List Item} {v m:Nat} {A:ByteArray→Option ByteArray} (S:St t v m A) {n p:ByteArray} (h:A n=some p): ∃x,look t n=some x∧x.f1=p:=by
  have:=S.par n
  rw [h] at this
  cases e:look t n with
  |none=>rw [e] at this;cases this
  | some x =>
    rw [e] at this
    exact ⟨x,rfl,Option.some.inj this⟩
theorem St.none {t:List Item} {v m:Nat} {A:ByteArray→Option ByteArray} (S:St t v m A) {n:ByteArray} (h:A n=none):look t n=none:=by
 have:=S.par n
 rw [h] at this
 cases e:look t n with
 |none=>rfl
 |some x=>rw [e] at this;cases this
theorem St.le {t:List Item} {v m v' m':Nat} {A:ByteArray→Option ByteArray} (S:St t v m A) (h:v≤v') (k:m≤m'):St t v' m' A:=⟨S.right,S.idle,fun x hx=>by have:=S.ver x hx;omega,by have:=S.len;omega,S.par⟩
theorem St.congr {t:List Item} {v m:Nat} {A B:ByteArray→Option ByteArray} (S:St t v m A) (h: ∀n,A n=B n):St t v m B:=⟨S.right,S.idle,S.ver,S.len,fun n=>(S.par n).trans (h n)⟩
theorem zero_le {v:Vec} (h:MayP v):LeP (⟨0,0,0⟩:Vec) v:=by
 obtain ⟨a,b,c⟩:=v
 rw [mayP_iff] at h
 rw [leP_iff]
 omega
structure TopOK (top:List Want):Prop where
 nodup:(top.map (·.f0)).Nodup
 par: ∀(pre post:List Want) (w:Want),top=pre++w::post→w.f1=⟨#[]⟩∨ ∃u∈pre,u.f0=w.f1
 may: ∀w∈top,(w.f0≠⟨#[]⟩∧w.f0.size≤24)∧MayP w.f2
def A0 (l:List Item) (n:ByteArray):Option ByteArray:=(look l n).map (·.f1)
section
variable {l:List Item} {top:List Want}
end
theorem befG_iff {l:List Item} {n a:ByteArray}:befG l n a=true↔depU l n<depU l a∨(depU l a=depU l n∧lt a n=true):=by unfold befG;simp
theorem befG_trans {l:List Item} {a b c:ByteArray} (h:befG l b a=true) (k:befG l c b=true):befG l c a=true:=by
  rw [befG_iff] at h k ⊢
  rcases h with h|⟨h,h'⟩<;>rcases k with k|⟨k,k'⟩
  · exact .inl (by omega)
  · exact .inl (by omega)
  · exact .inl (by omega)
  exact .inr ⟨by omega,lt_trans h' k'⟩
theorem befG_total {l:List Item} {a n:ByteArray} (h:befG l n a=false) (hn:a≠n):befG l a n=true:=by
  rw [←Bool.not_eq_true,befG_iff] at h
  rw [befG_iff]
  by_cases e:depU l a=depU l n
  rotate_left
  · exact .inl (by have: ¬depU l n<depU l a:=fun q=>h (.inl q);omega)
  refine .inr ⟨e.symm,lt_total ?_ hn⟩
  rw [←Bool.not_eq_true]
  exact fun q=>h (.inr ⟨e,q⟩)
theorem insG_perm (l:List Item) (n:ByteArray) (out:List ByteArray):(insG l n out).Perm (n::out):=by
 unfold insG
 have:=List.perm_middle (a:=n) (l₁:=out.takeWhile (befG l n)) (l₂:=out.dropWhile (befG l n))
 rwa [List.takeWhile_append_dropWhile] at this
def goneN (ws:List Want) (ms:List PMark):List ByteArray:=(ms.filter (fun m=> !isWant ws m.f0)).map (·.f0)
theorem goesGo_perm (ws:List Want) (l:List Item): ∀(ms:List PMark) (out:List ByteArray),(goesGo ws l out ms).Perm (out++goneN ws ms)
  |[],out=>by rw [goesGo];show List.Perm out (out++ []);rw [List.append_nil]
  | m :: ms, out => by
    rw [goesGo]
    by_cases c:isWant ws m.f0=true
    · rw [if_pos c]
      have:goneN ws (m::ms)=goneN ws ms:=by unfold goneN;rw [List.filter_cons_of_neg (by rw [c];simp)]
      rw [this]
      exact goesGo_perm ws l ms out
    rw [if_neg c]
    have:goneN ws (m::ms)=m.f0::goneN ws ms:=by unfold goneN;rw [List.filter_cons_of_pos (by rw [Bool.eq_false_iff.2 c];rfl)];rfl
    rw [this]
    refine (goesGo_perm ws l ms _).trans (((insG_perm l m.f0 out).append_right _).trans ?_)
    exact List.perm_middle.symm
end Go.Proofs.Ytahidkjncljkaaa.Print

namespace Go.Proofs.Ytahidkjncljkaaa.Print
open Go.RowKit Go.Proofs.YtahidkjncljkaaaW.PrintWords Go.Proofs.YtahidkjncljkaaaW.PrintLast Go.Proofs.YtahidkjncljkaaaW.PrintMore
theorem mx_zero {a:Int} (h:0≤a):mx 0 a=a:=by unfold mx;split<;>omega
theorem mx3 {a b:Int} (h:0≤b):mx (mx 0 a) b=mx a b:=by unfold mx;repeat' split<;>omega
theorem nowG_eq {l:List Item} (wide:Bool) {y:Want} (h:MayP y.f2):nowG wide (goalOf l y)=upV l wide y:=by
  have h0:=(mayP_iff.1 h).1.1
  have h1:=(mayP_iff.1 h).2.1.1
  have h2:=(mayP_iff.1 h).2.2.1
  unfold nowG upV
  cases wide with
  |true=>rfl
  | false =>
    rw [if_neg (by simp),if_neg (by simp)]
    unfold goalOf
    cases look l y.f0 with
    | none =>
      show (⟨mx (mx 0 0) y.f2.f0,mx (mx 0 0) y.f2.f1,mx (mx 0 0) y.f2.f2⟩:Vec)=y.f2
      rw [mx3 h0,mx3 h1,mx3 h2,mx_zero h0,mx_zero h1,mx_zero h2]
    | some x =>
      show (⟨mx (mx 0 x.f2.f0) y.f2.f0,mx (mx 0 x.f2.f1) y.f2.f1,mx (mx 0 x.f2.f2) y.f2.f2⟩:Vec)=_
      rw [mx3 h0,mx3 h1,mx3 h2]
theorem bq (a b:Int):(a==b)=(b==a):=by
 rw [Bool.eq_iff_iff,beq_iff_eq,beq_iff_eq]
 exact ⟨Eq.symm,Eq.symm⟩
theorem neG_neV (a b:Vec):neG a b=neV b a:=by
 unfold neG neV
 rw [show (a.f0==b.f0)=(b.f0==a.f0) from bq _ _,show (a.f1==b.f1)=(b.f1==a.f1) from bq _ _,show (a.f2==b.f2)=(b.f2==a.f2) from bq _ _]
theorem upG_f (l:List Item) (wide:Bool) (y:Want):(upG wide (goalOf l y)).f0=y∧(upG wide (goalOf l y)).f1=(goalOf l y).f1∧(upG wide (goalOf l y)).f2=(goalOf l y).f2∧(goalOf l y).f0=y:=by
 have:(goalOf l y).f0=y:=by unfold goalOf;split<;>rfl
 exact ⟨this,rfl,rfl,this⟩
theorem raise_eq {l:List Item} (wide:Bool) {y:Want} (h:MayP y.f2):raiseG wide (goalOf l y)=raiseS l wide y:=by
 have e:=nowG_eq (l:=l) wide h
 have q: ∀z:PGoal,raiseG wide z=if z.f2=false then [⟨1,z.f0.f0,z.f0.f1,nowG wide z⟩] else if neG (nowG wide z) z.f1.f2=true then [⟨2,z.f0.f0,⟨#[]⟩,nowG wide z⟩] else []:=fun z=>rfl
 rw [q,e,neG_neV,(upG_f l wide y).2.2.2]
 unfold raiseS goalOf
 cases look l y.f0 with
 |none=>exact if_pos rfl
 |some x=>exact if_neg (by simp)
theorem move_eq {l:List Item} (wide:Bool) (y:Want):moveG (upG wide (goalOf l y))=moveS l y:=by
  have q: ∀z:PGoal,moveG (upG wide z)=if z.f2=true∧z.f1.f1.toList≠z.f0.f1.toList then [⟨3,z.f0.f0,z.f0.f1,⟨0,0,0⟩⟩] else []:=fun z=>rfl
  rw [q,(upG_f l wide y).2.2.2]
  unfold moveS goalOf
  cases look l y.f0 with
  |none=>exact if_neg (by simp [gzero])
  | some x =>
    dsimp only
    by_cases c:x.f1=y.f1
    · rw [if_pos c,if_neg (by rw [c];simp)]
    rw [if_neg c,if_pos ⟨rfl,nm_ne.2 c⟩]
theorem lower_eq {l:List Item} (wide:Bool) {y:Want} (h:MayP y.f2):lowerG (upG wide (goalOf l y))=lowerS l wide y:=by
 have q: ∀z:PGoal,lowerG (upG wide z)=if neG (nowG wide z) z.f0.f2=true then [⟨2,z.f0.f0,⟨#[]⟩,z.f0.f2⟩] else []:=fun z=>rfl
 rw [q,nowG_eq wide h,neG_neV,(upG_f l wide y).2.2.2]
 unfold lowerS
 rw [show neV y.f2 (upV l wide y)=neV (upV l wide y) y.f2 from Bool.eq_iff_iff.2 (by rw [neV_iff,neV_iff];exact ⟨fun a b=>a b.symm,fun a b=>a b.symm⟩)]
theorem wide_eq (l:List Item) (ms:List PMark): ∀(ys:List Want) (b:Bool),wideP l ms b ys=wideGo l ms b ys
  |[],b=>rfl
  | y :: ys, b => by
    have q:(ms.any (fun m=>m.f0.toList==y.f0.toList))=(mlook ms y.f0).isSome:=by
      unfold mlook
      rw [List.isSome_find?]
      congr 1
      funext m
      exact nm_beq _ _
    unfold wideP wideGo badW wideOf
    rw [q,wide_eq l ms ys]
    cases look l y.f0 with
    |none=>rw [if_neg (by simp)];dsimp only;rw [Bool.or_false]
    | some x =>
      dsimp only
      cases mlook ms y.f0 with
      |none=>rw [if_pos (by simp),if_pos rfl]
      | some m =>
        rw [if_neg (by simp),if_neg (by simp)]
        rw [show (x.f1.toList !=y.f1.toList)= !decide (x.f1=y.f1) from by unfold bne;rw [nm_beq]]
theorem flat_congr {α β:Type} {f g:α→List β}: ∀{l:List α},(∀x∈l,f x=g x)→l.flatMap f=l.flatMap g
  |[],_=>rfl
  | x :: l, h => by
    rw [List.flatMap_cons,List.flatMap_cons,h x (by simp),flat_congr fun y hy=>h y (List.mem_cons_of_mem _ hy)]
theorem befG_asym {l:List Item} {a b:ByteArray} (h:befG l a b=true):befG l b a=false:=by
  rw [←Bool.not_eq_true]
  intro k
  rw [befG_iff] at h k
  rcases h with h|⟨h,h'⟩<;>rcases k with k|⟨k,k'⟩
  · omega
  · omega
  · omega
  exact absurd (lt_trans h' k') (by rw [lt_irrefl];simp)
theorem befG_neg {l:List Item} {a b c:ByteArray} (h:befG l a b=false) (k:befG l b c=false):befG l a c=false:=by
  rw [←Bool.not_eq_true]
  intro q
  by_cases e:b=a
  · subst e;rw [q] at k;cases k
  have h1:=befG_total h e
  have h2:=befG_trans q h1
  rw [h2] at k;cases k
theorem insG_weak {l:List Item} {n:ByteArray}: ∀{out:List ByteArray},out.Pairwise (fun a b=>befG l a b=false)→(insG l n out).Pairwise (fun a b=>befG l a b=false)
  |[],h=>by simp [insG]
  | x :: out, h => by
    rw [List.pairwise_cons] at h
    unfold insG
    rw [List.takeWhile_cons,List.dropWhile_cons]
    by_cases c:befG l n x=true
    · rw [c]
      show (x::insG l n out).Pairwise _
      rw [List.pairwise_cons]
      refine ⟨fun a ha=> ?_,insG_weak h.2⟩
      rcases List.mem_cons.1 ((insG_perm l n out).mem_iff.1 ha) with rfl|ha
      · exact befG_asym c
      exact h.1 a ha
    rw [Bool.eq_false_iff.2 c]
    show (n::x::out).Pairwise _
    rw [List.pairwise_cons,List.pairwise_cons]
    refine ⟨fun a ha=> ?_,h⟩
    rcases List.mem_cons.1 ha with rfl|ha
    · exact Bool.eq_false_iff.2 c
    exact befG_neg (Bool.eq_false_iff.2 c) (h.1 a ha)
theorem goesGo_weak (ws:List Want) (l:List Item): ∀(ms:List PMark) (out:List ByteArray),out.Pairwise (fun a b=>befG l a b=false)→(goesGo ws l out ms).Pairwise (fun a b=>befG l a b=false)
  |[],out,h=>by rw [goesGo];exact h
  | m :: ms, out, h => by
    rw [goesGo]
    by_cases c:isWant ws m.f0=true
    · rw [if_pos c];exact goesGo_weak ws l ms out h
    rw [if_neg c];exact goesGo_weak ws l ms _ (insG_weak h)
theorem drop_eq (l:List Item) (wide:Bool) (ws:List Want): ∀ms:List PMark,dropN (((topR ws).map (goalOf l)).map (upG wide)) ms=goneN ws ms
  |[]=>rfl
  | m :: ms => by
    have q:hasG (((topR ws).map (goalOf l)).map (upG wide)) m=isWant ws m.f0:=by
      unfold hasG isWant
      rw [List.any_map,List.any_map,Bool.eq_iff_iff,List.any_eq_true,List.any_eq_true]
      constructor
      · rintro ⟨y, hy, e⟩
        refine ⟨y,(topR_perm ws).mem_iff.1 hy, ?_⟩
        have e2:(y.f0.toList==m.f0.toList)=true:=by rw [←(upG_f l wide y).1];exact e
        rwa [nm_beq] at e2
      rintro ⟨y,hy,e⟩
      refine ⟨y,(topR_perm ws).mem_iff.2 hy, ?_⟩
      show ((upG wide (goalOf l y)).f0.f0.toList==m.f0.toList)=true
      rw [(upG_f l wide y).1,nm_beq]
      exact e
    show (if hasG _ m=true then dropN _ ms else m.f0::dropN _ ms)=_
    rw [q,drop_eq l wide ws ms]
    unfold goneN
    by_cases c:isWant ws m.f0=true
    · rw [if_pos c,List.filter_cons_of_neg (by rw [c];simp)]
    rw [if_neg c,List.filter_cons_of_pos (by rw [Bool.eq_false_iff.2 c];rfl)];rfl
theorem gone_eq {l:List Item} {wide:Bool} {ws:List Want} {ms:List PMark} {ns:List ByteArray} (h:GoneIs (((topR ws).map (goalOf l)).map (upG wide)) ms l ns):ns=goesR ws ms l:=by
  obtain ⟨h1,h2⟩:=h
  rw [drop_eq] at h1
  have k1:(goesR ws ms l).Perm (goneN ws ms):=(goesGo_perm ws l ms []).trans (by rw [List.nil_append])
  have k2:=goesGo_weak ws l ms [] List.Pairwise.nil
  refine List.Perm.eq_of_pairwise (le:=fun a b=>befG l a b=false) ?_ ?_ k2 (h1.trans k1.symm)
  · intro a b _ _ hab hba
    by_cases e:a=b
    · exact e
    have:=befG_total hba e
    rw [hab] at this;cases this
  refine h2.imp ?_
  intro a b hab
  rw [←Bool.not_eq_true]
  intro q
  refine hab (cmpW_neg.2 ?_)
  rw [befG_iff] at q
  unfold depN
  rcases q with q|⟨q,q'⟩
  · exact .inl (by omega)
  exact .inr ⟨by omega,q'⟩
theorem gone_is (l:List Item) (wide:Bool) (ws:List Want) (ms:List PMark):GoneIs (((topR ws).map (goalOf l)).map (upG wide)) ms l (goesR ws ms l):=by
  refine ⟨?_, ?_⟩
  · rw [drop_eq]
    exact (goesGo_perm ws l ms []).trans (by rw [List.nil_append])
  refine (goesGo_weak ws l ms [] List.Pairwise.nil).imp ?_
  intro a b hab q
  rw [←Bool.not_eq_true] at hab
  refine hab (befG_iff.2 ?_)
  have q:=cmpW_neg.1 q
  unfold depN at q
  rcases q with q|⟨q,q'⟩
  · exact .inl (by omega)
  exact .inr ⟨by omega,q'⟩
theorem mayW_may {y:Want} (h:mayW y=true):MayP y.f2:=by
 unfold mayW at h
 exact (of_decide_eq_true h).2
theorem plan_is {ws:List Want} {ms:List PMark} {l:List Item} (r:List PStep) (e:Int):PlanIs ws (topR ws) ms l r e↔(r,e)=planR ws ms l:=by
  unfold PlanIs planR
  by_cases hz:checkR ws=0
  rotate_left
  · rw [if_neg hz, if_neg hz]
    exact ⟨fun ⟨a,b⟩=>by rw [a,b],fun h=>by injection h with a b;exact ⟨a,b⟩⟩
  rw [if_pos hz,if_pos hz,wide_eq]
  have T:=checkR_tree (.inl hz)
  have hm: ∀y∈topR ws,MayP y.f2:=fun y hy=>mayW_may (T.may y ((topR_perm ws).mem_iff.1 hy))
  cases wideGo l ms false (topR ws) with
  |none=>exact ⟨fun ⟨a,b⟩=>by rw [a,b],fun h=>by injection h with a b;exact ⟨a,b⟩⟩
  | some wide =>
    dsimp only
    have e1:((topR ws).map (goalOf l)).flatMap (raiseG wide)=(topR ws).flatMap (raiseS l wide):=by
      rw [List.flatMap_map]
      exact flat_congr fun y hy=>raise_eq wide (hm y hy)
    have e2:(((topR ws).map (goalOf l)).map (upG wide)).flatMap moveG=(topR ws).flatMap (moveS l):=by
      rw [List.flatMap_map,List.flatMap_map]
      exact flat_congr fun y hy=>move_eq wide y
    have e3:(((topR ws).map (goalOf l)).map (upG wide)).reverse.flatMap lowerG=(topR ws).reverse.flatMap (lowerS l wide):=by
      rw [←List.map_reverse,←List.map_reverse,List.flatMap_map,List.flatMap_map]
      exact flat_congr fun y hy=>lower_eq wide (hm y (List.mem_reverse.1 hy))
    rw [e1,e2,e3]
    constructor
    · rintro ⟨rfl, ns, hg, rfl⟩
      rw [gone_eq hg]
    intro h
    injection h with a b
    exact ⟨b,_,gone_is l wide ws ms,a⟩
theorem plan_Steps_ev {ws:List Want} {ms:List PMark} {l:List Item} (hs:smallW ws) (hl:l.length<10000) (hm:ms.length<10000):plan_Steps.f ws ms l=some (planR ws ms l):=by
 have hx:(smallW ws∧l.length<10000∧ms.length<10000)∧ ∃p:List PStep×Int,PlanIs ws (topR ws) ms l p.1 p.2∧ ∀q:List PStep×Int,PlanIs ws (topR ws) ms l q.1 q.2→q=p:=
  ⟨⟨hs,hl,hm⟩,planR ws ms l,(plan_is _ _).2 rfl,fun q hq=>(plan_is q.1 q.2).1 hq⟩
 unfold plan_Steps.f
 rw [dif_pos hx]
 have:=hx.2.choose_spec.1
 rw [plan_is] at this
 exact congrArg some this
def creS (w:Want):PStep:=⟨1,w.f0,w.f1,w.f2⟩
theorem wide_nil (ms:List PMark): ∀ys:List Want,wideGo [] ms false ys=some false
 |[]=>rfl
 |y::ys=>wide_nil ms ys
theorem plan_fresh {ws:List Want} (h:checkR ws=0):planR ws [] []=((topR ws).map creS,0):=by
 unfold planR
 rw [if_pos h,wide_nil]
 dsimp only
 have e1:(topR ws).flatMap (raiseS [] false)=(topR ws).map creS:=by
  rw [List.map_eq_flatMap]
  rfl
 have e2:(topR ws).flatMap (moveS [])=[]:=by
  rw [List.flatMap_eq_nil_iff]
  intro y _
  rfl
 have e3:(topR ws).reverse.flatMap (lowerS [] false)=[]:=by
  rw [List.flatMap_eq_nil_iff]
  intro y _
  exact if_neg (by rw [show upV [] false y=y.f2 from rfl,neV_iff];simp)
 rw [e1,e2,e3]
 show (_++_++_++List.map delS [],0)=_
 rw [List.map_nil,List.append_nil,List.append_nil,List.append_nil]
def exS:List Want:=[⟨⟨#[97]⟩,⟨#[]⟩,⟨0,0,0⟩⟩]
theorem exS_small:smallW exS:=by
 intro w hw
 unfold exS at hw
 simp only [List.mem_cons,List.not_mem_nil,or_false] at hw
 subst hw
 exact ⟨by decide,by decide⟩
theorem awake18:law18_awake.f=some true:=by
 have h1:=(plan_Steps_ev (ws:=exS) (ms:=[]) (l:=[]) exS_small (by decide) (by decide)).trans (congrArg some (plan_fresh (ws:=exS) (by decide)))
 have h2:=(plan_Steps_ev (ws:=[]) (ms:=[]) (l:=[]) nil_small (by decide) (by decide)).trans (congrArg some (plan_fresh (ws:=[]) (by decide)))
 rw [show topR exS=exS from by kernel_rfl] at h1
 rw [show topR []=[] from rfl] at h2
 unfold law18_awake.f
 rw [show exS=[⟨⟨#[97]⟩,⟨#[]⟩,⟨0,0,0⟩⟩] from rfl] at h1
 rw [h1,h2]
 refine Eq.trans (b:=some true) ?_ rfl
 kernel_rfl
theorem awake18_ev:Ev (fun _=>(law18_awake.f).bind fun t=>some t) true:=by
 rw [awake18]
 exact Ev.const rfl
theorem wideP_none (l:List Item) (ms:List PMark): ∀(ys:List Want) (b:Bool),(wideP l ms b ys).isNone=ys.any (badW l ms)
  |[],b=>rfl
  | y :: ys, b => by
    unfold wideP
    rw [List.any_cons]
    cases h:badW l ms y with
    |true=>rw [if_pos rfl];rfl
    |false=>rw [if_neg (by simp),wideP_none l ms ys];rfl
theorem plan_err {ws:List Want} (h:checkR ws=0) (ms:List PMark) (l:List Item):(planR ws ms l).2=if ws.any (badW l ms)=true then 3 else 0:=by
 have hp:(topR ws).any (badW l ms)=ws.any (badW l ms):=by
  rw [Bool.eq_iff_iff,List.any_eq_true,List.any_eq_true]
  exact ⟨fun ⟨x,a,b⟩=>⟨x,(topR_perm ws).mem_iff.1 a,b⟩,fun ⟨x,a,b⟩=>⟨x,(topR_perm ws).mem_iff.2 a,b⟩⟩
 have hn:=wideP_none l ms (topR ws) false
 rw [hp,wide_eq] at hn
 unfold planR
 rw [if_pos h,←hn]
 cases wideGo l ms false (topR ws)<;>rfl
theorem plan_bad {ws:List Want} (h:checkR ws≠0) (ms:List PMark) (l:List Item):(planR ws ms l).2=checkR ws:=by
 unfold planR
 rw [if_neg h]
theorem live_l0 {l:List Item} (hl:l.length≤1000) (a:Int): ∀(d i:Nat) (m0:List PMark),l.length - i=d→i≤l.length→m0.length≤i→ ∃m,m.length≤l.length+1∧Ev (fun k=>law18_Live.l0 k a l m0 (i:Int)) (m,l)
  | 0, i, m0, hd, hi, hm => by
    by_cases c:Int.tmod a 5=0
    · exact ⟨m0++ [⟨⟨#[122,122]⟩,⟨#[]⟩,⟨0,0,0⟩,1⟩],by rw [List.length_append,List.length_singleton];omega,Ev.step (fun k=>law18_Live.l0.eq_2 (k:=k) ..) (Ev.congr (fun k=>by rw [if_neg (by omega),if_pos c,if_pos (by omega)]) (Ev.now _))⟩
    exact ⟨m0,by omega,Ev.step (fun k=>law18_Live.l0.eq_2 (k:=k) ..) (Ev.congr (fun k=>by rw [if_neg (by omega),if_neg c]) (Ev.now _))⟩
  | d + 1, i, m0, hd, hi, hm => by
    have e1:wrap64 ((i:Int)+1)=((i+1:Nat):Int):=by rw [w64 (by omega) (by omega)];rfl
    by_cases c:Int.tmod (wrap64 ((i:Int)+wrap64 a)) 4>0
    · obtain ⟨m, h1, h2⟩ := live_l0 hl a d (i + 1) (m0 ++ [⟨(rd_T79 l (i : Int)).f0, (rd_T79 l (i : Int)).f1, ⟨(rd_T79 l (i : Int)).f2.f0, (rd_T79 l (i : Int)).f2.f1, (rd_T79 l (i : Int)).f2.f2⟩, (rd_T79 l (i : Int)).f5⟩]) (by omega) (by omega) (by rw [List.length_append, List.length_singleton]; omega)
      exact ⟨m,h1,Ev.step (fun k=>law18_Live.l0.eq_2 (k:=k) ..) (Ev.congr (fun k=>by rw [if_pos (by omega),if_pos c,if_pos (by omega),if_pos (by omega),e1]) h2)⟩
    obtain ⟨m,h1,h2⟩:=live_l0 hl a d (i+1) m0 (by omega) (by omega) (by omega)
    exact ⟨m,h1,Ev.step (fun k=>law18_Live.l0.eq_2 (k:=k) ..) (Ev.congr (fun k=>by rw [if_pos (by omega),if_neg c,e1]) h2)⟩
theorem live_ev {ns:List Int} {l:List Item} (hev:Ev (fun k=>law12_Make.f k ns) l) (hl:l.length≤1000) (a:Int): ∃m,m.length≤l.length+1∧Ev (fun k=>law18_Live.f k ns a) (m,l):=by
 obtain ⟨m,h1,h2⟩:=live_l0 hl a l.length 0 [] (by omega) (by omega) (by simp)
 refine ⟨m,h1, ?_⟩
 unfold law18_Live.f
 exact Ev.bind hev h2
theorem pc_u8 {x:Int} (h:(Lit.int .u8 x).wf=true):0≤x∧x≤255:=by
 simp only [Lit.wf,Bool.and_eq_true,decide_eq_true_eq] at h
 obtain ⟨h1,h2⟩:=h
 exact ⟨h1,h2⟩
def q1W:Want:=⟨⟨#[113,49]⟩,⟨#[]⟩,⟨0,0,0⟩⟩
def nmW (n:ByteArray):Want:=⟨n,⟨#[]⟩,⟨0,0,0⟩⟩
def q1N:Want:=⟨⟨#[113,49]⟩,⟨#[110,111,110,101]⟩,⟨0,0,0⟩⟩
theorem pc_checks:(List.range 24).all (fun c=>decide (checkR [q1W,nmW (one (97+(c:Nat)))]=0))=true:=by kernel_rfl
theorem pc_check {c:Int} (h:97≤c∧c≤120):checkR [q1W,nmW (one c)]=0:=by
 have:=List.all_eq_true.1 pc_checks (c - 97).toNat (List.mem_range.2 (by omega))
 have e:(97:Int)+((c - 97).toNat:Nat)=c:=by omega
 rw [e] at this
 exact of_decide_eq_true this
theorem pc_two:checkR [q1W,q1W]=3:=by decide
theorem pc_loose:checkR [q1N]=2:=by decide
theorem pc_small {ws:List Want} (h: ∀w∈ws,w.f0.size≤2∧w.f1.size≤4):smallW ws:=fun w hw=>by
 have:=h w hw
 exact ⟨by omega,by omega⟩
theorem pc_l0 {m:List PMark} {l:List Item} {n:ByteArray} (hm:m.length≤1000) (hr:Ev (fun k=>law18_PlanClash.l0 k m l n (m.any (fun x=>x.f0.toList==n.toList)) (m.length:Int)) true): ∀(d i:Nat) (b:Bool),m.length - i=d→i≤m.length→(b||(m.drop i).any (fun x=>x.f0.toList==n.toList))=m.any (fun x=>x.f0.toList==n.toList)→Ev (fun k=>law18_PlanClash.l0 k m l n b (i:Int)) true
  | 0, i, b, hd, hi, hb => by
    obtain rfl:i=m.length:=by omega
    rw [List.drop_length,List.any_nil,Bool.or_false] at hb
    rw [hb]
    exact hr
  | d + 1, i, b, hd, hi, hb => by
    have hlt:i<m.length:=by omega
    have e1:wrap64 ((i:Int)+1)=((i+1:Nat):Int):=by rw [w64 (by omega) (by omega)];rfl
    rw [List.drop_eq_getElem_cons hlt,List.any_cons] at hb
    cases b with
    | true =>
      exact Ev.step (fun k=>law18_PlanClash.l0.eq_2 (k:=k) ..) (Ev.congr (fun k=>by rw [if_pos (by omega),if_pos rfl,e1]) (pc_l0 hm hr d (i+1) true (by omega) (by omega) (by rw [Bool.true_or] at hb ⊢;exact hb)))
    | false =>
      exact Ev.step (fun k=>law18_PlanClash.l0.eq_2 (k:=k) ..) (Ev.congr (fun k=>by rw [if_pos (by omega),if_neg (by simp),if_pos (by omega),rd_pmarkN m hlt,e1]) (pc_l0 hm hr d (i+1) _ (by omega) (by omega) (by rw [Bool.false_or] at hb;exact hb)))
theorem planClash_pure:law18_PlanClash.Pure:=by
  intro ns a1 a2 _ _ hw w1 w2
  have b2:=pc_u8 w2
  unfold law18_PlanClash.f
  refine Ev.rounds ?_
  by_cases h:(ns.length:Int)>60
  · exact Ev.congr (fun k=>if_pos h) awake18_ev
  refine Ev.congr (fun k=>if_neg h) ?_
  obtain ⟨l,hev,M⟩:=made_all (ns:=ns) (fun x hx=>pc_u8 (hw x hx)) (by omega)
  have hlen:=M.len
  obtain ⟨m,hml,hlv⟩:=live_ev hev (by omega) a1
  refine Ev.bind hlv ?_
  dsimp only
  by_cases hz:(l.length:Int)=0
  · exact Ev.congr (fun k=>if_pos hz) awake18_ev
  have q:=tmod_in (a:=a2) (b:=(l.length:Int)) b2.1 (by omega)
  have e2:wrap64 a2=a2:=w64 (by omega) (by omega)
  rw [e2]
  refine Ev.congr (fun k=>by rw [if_neg hz,if_pos q.1,if_pos q.2]) ?_
  obtain ⟨j,hj⟩: ∃j:Nat,Int.tmod a2 (l.length:Int)=(j:Int):=⟨(Int.tmod a2 (l.length:Int)).toNat,by omega⟩
  rw [hj] at q ⊢
  have hjl:j<l.length:=by omega
  rw [rd_itemN l hjl]
  have hx:l[j]∈l:=List.getElem_mem hjl
  generalize l[j]=x at hx
  obtain ⟨c,c1,c2,hc⟩:=M.name x hx
  have hsz:x.f0.size=1:=by rw [hc];exact (one_name c1).2
  have hck:checkR [q1W,nmW x.f0]=0:=by rw [hc];exact pc_check ⟨c1,c2⟩
  have hlk:look l x.f0=some x:=look_of_mem M.right.nodup hx
  have hq:look l ⟨#[113,49]⟩=none:=look_none.2 fun y hy e=>by
    obtain ⟨c',c1',_,hc'⟩:=M.name y hy
    have:=(one_name c1').2
    rw [←hc',e] at this
    exact absurd this (by decide)
  have s1:smallW [q1W,nmW x.f0]:=pc_small fun w hw=>by
    simp only [List.mem_cons,List.not_mem_nil,or_false] at hw
    rcases hw with rfl|rfl
    · decide
    exact ⟨show x.f0.size≤2 by omega,show (⟨#[]⟩:ByteArray).size≤4 by decide⟩
  have s2:smallW [q1W,q1W]:=pc_small fun w hw=>by
    simp only [List.mem_cons,List.not_mem_nil,or_false] at hw
    rcases hw with rfl|rfl<;>decide
  have s3:smallW [q1N]:=pc_small fun w hw=>by
    simp only [List.mem_cons,List.not_mem_nil,or_false] at hw
    subst hw
    decide
  have p1:=plan_Steps_ev s1 (l:=l) (ms:=m) (by omega) (by omega)
  have p2:=plan_Steps_ev s2 (l:=l) (ms:=m) (by omega) (by omega)
  have p3:=plan_Steps_ev s3 (l:=l) (ms:=m) (by omega) (by omega)
  have r1:=plan_err hck m l
  have r2:=(plan_bad (ws:=[q1W,q1W]) (by rw [pc_two];decide) m l).trans pc_two
  have r3:=(plan_bad (ws:=[q1N]) (by rw [pc_loose];decide) m l).trans pc_loose
  have hb:[q1W,nmW x.f0].any (badW l m)= !(m.any (fun y=>y.f0.toList==x.f0.toList)):=by
    have g1:badW l m q1W=false:=by unfold badW;rw [show q1W.f0=⟨#[113,49]⟩ from rfl,hq];rfl
    have g2:badW l m (nmW x.f0)= !(m.any (fun y=>y.f0.toList==x.f0.toList)):=by unfold badW;rw [show (nmW x.f0).f0=x.f0 from rfl,hlk];rfl
    rw [List.any_cons,List.any_cons,List.any_nil,g1,g2,Bool.false_or,Bool.or_false]
  rw [hb] at r1
  refine pc_l0 (by omega) ?_ m.length 0 false (by omega) (by omega) (by rw [List.drop_zero,Bool.false_or])
  refine Ev.step (fun k=>law18_PlanClash.l0.eq_2 (k:=k) ..) (Ev.congr (fun k=>if_neg (by omega)) ?_)
  unfold q1W nmW at p1
  unfold q1W at p2
  unfold q1N at p3
  rw [p1,p2,p3]
  simp only [Option.bind_some]
  have fin: ∀e:Int,Ev (fun k=>law18_PlanClash.j1 k e 3 2 e) true:=fun e=>by
    refine Ev.step (fun k=>law18_PlanClash.j1.eq_2 (k:=k) ..) ?_
    rw [show law1_Num.f e=some e from rfl,show law1_Num.f 3=some 3 from rfl,show law1_Num.f 2=some 2 from rfl]
    simp only [Option.bind_some,if_true]
    exact awake18_ev
  unfold q1W nmW at r1
  unfold q1W at r2
  unfold q1N at r3
  rw [r1,r2,r3]
  cases m.any (fun y=>y.f0.toList==x.f0.toList) with
  |true=>exact Ev.congr (fun k=>if_pos rfl) (fin 0)
  |false=>exact Ev.congr (fun k=>if_neg (by simp)) (fin 3)
end Go.Proofs.Ytahidkjncljkaaa.Print
namespace Go.Proofs.Ytahidkjncljkaaa.Pure
open Go.Proofs.Ytahidkjncljkaaa.Print
theorem PlanClash:law18_PlanClash.Pure:=planClash_pure
end Go.Proofs.Ytahidkjncljkaaa.Pure

namespace Go.Proofs.Ytahidkjncljkaaa.Head
def signs:List Char:=(List.map Char.ofNat [104,97,114,110,101,115,115,32,52,48,100,98,98,98,100,57,102,99,56,49,51,57,52,102,98,101,100,54,48,53,102,48,101,50,51,100,52,101,50,55,97,52,48,52,98,97,49,55,57,48,56,57,54,99,56,100,54,100,100,54,56,102,97,52,102,101,49,48,50,99,55,57,32,99,117,116,32,97,116,32,100,111,111,114,107,101,101,112,101,114,47,100,111,111,114,107,101,101,112,101,114,108,97,119,49,49,46,87,97,110,116,65,108,108,32,100,111,111,114,107,101,101,112,101,114,47,100,111,111,114,107,101,101,112,101,114,108,97,119,49,49,46,87,97,110,116,77,97,100,101,32,100,111,111,114,107,101,101,112,101,114,47,100,111,111,114,107,101,101,112,101,114,108,97,119,49,49,46,87,97,110,116,84,111,112,32,100,111,111,114,107,101,101,112,101,114,47,100,111,111,114,107,101,101,112,101,114,108,97,119,49,49,46,87,97,110,116,67,105,114,99,108,101,32,100,111,111,114,107,101,101,112,101,114,47,100,111,111,114,107,101,101,112,101,114,108,97,119,49,49,46,87,97,110,116,83,117,109,115,32,100,111,111,114,107,101,101,112,101,114,47,100,111,111,114,107,101,101,112,101,114,108,97,119,49,57,46,84,114,105,97,108,67,117,116,115,32,100,111,111,114,107,101,101,112,101,114,47,100,111,111,114,107,101,101,112,101,114,108,97,119,49,56,46,80,108,97,110,65,108,108,32,100,111,111,114,107,101,101,112,101,114,47,100,111,111,114,107,101,101,112,101,114,108,97,119,49,56,46,80,108,97,110,77,97,100,101,32,100,111,111,114,107,101,101,112,101,114,47,100,111,111,114,107,101,101,112,101,114,108,97,119,49,56,46,80,108,97,110,76,101,97,100,115,32,100,111,111,114,107,101,101,112,101,114,47,100,111,111,114,107,101,101,112,101,114,108,97,119,49,56,46,80,108,97,110,69,109,112,116,121,32,100,111,111,114,107,101,101,112,101,114,47,100,111,111,114,107,101,101,112,101,114,108,97,119,49,56,46,80,108,97,110,79,114,100,101,114,32,100,111,111,114,107,101,101,112,101,114,47,100,111,111,114,107,101,101,112,101,114,108,97,119,49,56,46,80,108,97,110,70,114,101,115,104,32,100,111,111,114,107,101,101,112,101,114,47,100,111,111,114,107,101,101,112,101,114,108,97,119,49,56,46,80,108,97,110,78,111,110,101,32,100,111,111,114,107,101,101,112,101,114,47,100,111,111,114,107,101,101,112,101,114,108,97,119,49,56,46,80,108,97,110,67,108,97,115,104,32,100,111,111,114,107,101,101,112,101,114,47,100,111,111,114,107,101,101,112,101,114,108,97,119,49,56,46,80,108,97,110,87,105,100,101,32,100,111,111,114,107,101,101,112,101,114,47,100,111,111,114,107,101,101,112,101,114,108,97,119,50,51,46,65,112,112,108,121,65,108,108,32,100,111,111,114,107,101,101,112,101,114,47,100,111,111,114,107,101,101,112,101,114,108,97,119,50,51,46,65,112,112,108,121,77,97,100,101,32,100,111,111,114,107,101,101,112,101,114,47,100,111,111,114,107,101,101,112,101,114,108,97,119,50,51,46,65,112,112,108,121,65,103,97,105,110,32,100,111,111,114,107,101,101,112,101,114,47,100,111,111,114,107,101,101,112,101,114,108,97,119,50,51,46,65,112,112,108,121,69,110,100,115])
set_option maxRecDepth 100000 in
theorem word:Try.prog.initOrder=String.ofList signs:=by kernel_rfl
theorem list:Try.prog.initOrder.toList=signs:=by rw [word,String.toList_ofList]
theorem words_app: ∀(w r:List Char),(∀c∈w,c≠Char.ofNat 32)→wordsSigns (w++Char.ofNat 32::r)=w::wordsSigns r
  |[],r,_=>rfl
  | c :: w, r, h => by
    have hc:c≠Char.ofNat 32:=h c (by simp)
    have ih:=words_app w r (fun d hd=>h d (by simp [hd]))
    show wordsSigns (c::(w++Char.ofNat 32::r))=_
    rw [wordsSigns.eq_3 _ _ (fun q=>hc q),ih]
def w1:List Char:=[Char.ofNat 104,Char.ofNat 97,Char.ofNat 114,Char.ofNat 110,Char.ofNat 101,Char.ofNat 115,Char.ofNat 115]
def w2:List Char:=(List.map Char.ofNat [52,48,100,98,98,98,100,57,102,99,56,49,51,57,52,102,98,101,100,54,48,53,102,48,101,50,51,100,52,101,50,55,97,52,48,52,98,97,49,55,57,48,56,57,54,99,56,100,54,100,100,54,56,102,97,52,102,101,49,48,50,99,55,57])
def w3:List Char:=[Char.ofNat 99,Char.ofNat 117,Char.ofNat 116]
def rest:List Char:=(List.map Char.ofNat [97,116,32,100,111,111,114,107,101,101,112,101,114,47,100,111,111,114,107,101,101,112,101,114,108,97,119,49,49,46,87,97,110,116,65,108,108,32,100,111,111,114,107,101,101,112,101,114,47,100,111,111,114,107,101,101,112,101,114,108,97,119,49,49,46,87,97,110,116,77,97,100,101,32,100,111,111,114,107,101,101,112,101,114,47,100,111,111,114,107,101,101,112,101,114,108,97,119,49,49,46,87,97,110,116,84,111,112,32,100,111,111,114,107,101,101,112,101,114,47,100,111,111,114,107,101,101,112,101,114,108,97,119,49,49,46,87,97,110,116,67,105,114,99,108,101,32,100,111,111,114,107,101,101,112,101,114,47,100,111,111,114,107,101,101,112,101,114,108,97,119,49,49,46,87,97,110,116,83,117,109,115,32,100,111,111,114,107,101,101,112,101,114,47,100,111,111,114,107,101,101,112,101,114,108,97,119,49,57,46,84,114,105,97,108,67,117,116,115,32,100,111,111,114,107,101,101,112,101,114,47,100,111,111,114,107,101,101,112,101,114,108,97,119,49,56,46,80,108,97,110,65,108,108,32,100,111,111,114,107,101,101,112,101,114,47,100,111,111,114,107,101,101,112,101,114,108,97,119,49,56,46,80,108,97,110,77,97,100,101,32,100,111,111,114,107,101,101,112,101,114,47,100,111,111,114,107,101,101,112,101,114,108,97,119,49,56,46,80,108,97,110,76,101,97,100,115,32,100,111,111,114,107,101,101,112,101,114,47,100,111,111,114,107,101,101,112,101,114,108,97,119,49,56,46,80,108,97,110,69,109,112,116,121,32,100,111,111,114,107,101,101,112,101,114,47,100,111,111,114,107,101,101,112,101,114,108,97,119,49,56,46,80,108,97,110,79,114,100,101,114,32,100,111,111,114,107,101,101,112,101,114,47,100,111,111,114,107,101,101,112,101,114,108,97,119,49,56,46,80,108,97,110,70,114,101,115,104,32,100,111,111,114,107,101,101,112,101,114,47,100,111,111,114,107,101,101,112,101,114,108,97,119,49,56,46,80,108,97,110,78,111,110,101,32,100,111,111,114,107,101,101,112,101,114,47,100,111,111,114,107,101,101,112,101,114,108,97,119,49,56,46,80,108,97,110,67,108,97,115,104,32,100,111,111,114,107,101,101,112,101,114,47,100,111,111,114,107,101,101,112,101,114,108,97,119,49,56,46,80,108,97,110,87,105,100,101,32,100,111,111,114,107,101,101,112,101,114,47,100,111,111,114,107,101,101,112,101,114,108,97,119,50,51,46,65,112,112,108,121,65,108,108,32,100,111,111,114,107,101,101,112,101,114,47,100,111,111,114,107,101,101,112,101,114,108,97,119,50,51,46,65,112,112,108,121,77,97,100,101,32,100,111,111,114,107,101,101,112,101,114,47,100,111,111,114,107,101,101,112,101,114,108,97,119,50,51,46,65,112,112,108,121,65,103,97,105,110,32,100,111,111,114,107,101,101,112,101,114,47,100,111,111,114,107,101,101,112,101,114,108,97,119,50,51,46,65,112,112,108,121,69,110,100,115])
theorem parts:signs=w1++Char.ofNat 32::(w2++Char.ofNat 32::(w3++Char.ofNat 32::rest)):=by kernel_rfl
theorem behind: ∃r,behindMainWord (wordsSigns Try.prog.initOrder.toList)=w3::r:=by
 refine ⟨wordsSigns rest, ?_⟩
 rw [list,parts,words_app w1 _ (by decide),words_app w2 _ (by decide),words_app w3 _ (by decide)]
 generalize wordsSigns rest=r
 rfl
theorem strip (r:List (List Char)):stripLifts liftWords (w3::r)=([],w3::r):=by kernel_rfl
theorem not_carried (r:List (List Char)):((w3::r).head?==some "carried".toList)=false:=by kernel_rfl
theorem is_cut (r:List (List Char)):((w3::r).head?==some "cut".toList)=true:=by kernel_rfl
theorem not_gc:(w3== "gc".toList||w3== "spec".toList)=false:=by kernel_rfl
theorem cut_:(w3== "cut".toList)=true:=by kernel_rfl
theorem lifts_of {P:Program} {r:List (List Char)} (h:behindMainWord (wordsSigns P.initOrder.toList)=w3::r):P.liftsFinal=false:=by
 unfold Program.liftsFinal Program.headLifts
 simp only [h,strip,not_carried,is_cut,if_true,Bool.false_and,Bool.false_or,List.contains_nil]
theorem make_of {P:Program} {r:List (List Char)} (h:behindMainWord (wordsSigns P.initOrder.toList)=w3::r):P.make=some .cut:=by
 unfold Program.make
 simp only [h,not_gc,cut_,Bool.true_or,if_true,Bool.false_eq_true,if_false]
theorem lifts:Try.prog.liftsFinal=false:=by obtain ⟨r,h⟩:=behind;exact lifts_of h
theorem make:Try.prog.make=some .cut:=by obtain ⟨r,h⟩:=behind;exact make_of h
theorem later:Try.prog.laysLater=false:=by kernel_rfl
theorem reflects:Try.prog.bearsReflect=false:=by kernel_rfl
theorem door:Try.prog.doorFits []=true:=by kernel_rfl
theorem may_of {P:Program} {r:List (List Char)} (h:behindMainWord (wordsSigns P.initOrder.toList)=w3::r) (h1:P.laysLater=false) (h2:P.bearsReflect=false) (h3:P.doorFits []=true):P.mayEnter=true:=by
 unfold Program.mayEnter
 simp only [h,strip,is_cut,h1,h2,h3,List.contains_nil,Bool.not_false,Bool.or_true,Bool.and_true,Bool.and_self]
theorem mayEnter:Try.prog.mayEnter=true:=by obtain ⟨r,h⟩:=behind;exact may_of h later reflects door
theorem stopsHeard:Try.prog.stopsHeard=true:=by kernel_rfl
theorem laidOut:laidOutB Try.prog=true:=by kernel_rfl
theorem mapsRowed:mapsRowed Try.prog=true:=by kernel_rfl
theorem stops:(Try.prog.stops==[])=true:=by kernel_rfl
theorem stopKnobs:(Try.prog.stopKnobs==[])=true:=by kernel_rfl
end Go.Proofs.Ytahidkjncljkaaa.Head

-- PRINTED WORDS (module Derived/Print/Sized.lean): go-gate-2's, for the rows of laws over slices: an AI agent of Go's test side, Tue Nov 17 2026; no person has read it. Lean checks it.
namespace Go.Proofs.YtahidkjncljkaaaW.PrintWords
open Go.ChangeShapes Go.WideShapes
theorem sized_ints {H:Type} {enc:TypeId×Value→H} {P:Program} {W:World} {base:Nat} {spare:Nat→Bool} {held:Bool} {t e:TypeId} {k:IntKind} {a:Option Addr} {len cap:Nat} {d:DataW H} {ps:List MemPlace} {ts:List TypeId} {ds:List (DataW H)} {j:Nat}
    (hsz:(DataW.weightsEach P ts ds).all (· ≤reachBytes)=true) (ht:ts[j]?=some t) (hd:ds[j]?=some d) (hu:P.underlying t=some (.slice e)) (he:P.underlying e=some (.int k)) (hc:P.cellsOf e=1) {B:Nat} (hB:P.bytesOf e=B)
    (h:DataW.Trod enc P W base spare held t (.slice a len cap) d ps):len*B≤140737488351232:=by
  obtain ⟨fuel,hf⟩:=h
  rcases open_ints hu he hc hf with ⟨hcs,_⟩|⟨x,l,c,zs,hcs,_,hl,_,hz,hx,_,_⟩
  · simp [Value.cells] at hcs
    obtain ⟨rfl,rfl,rfl⟩:=hcs
    simp
  · simp [Value.cells] at hcs
    obtain ⟨rfl,rfl,rfl⟩:=hcs
    obtain ⟨hx,_⟩:=Prod.mk.inj hx
    subst hx
    have z:=sized_slice hsz ht hd hu
    rw [hB] at z
    have hl2:len≤zs.length:=by
      rw [hz]
      split
      · exact hl
      · exact Nat.le_refl _
    have h1:(lits (H:=H) k (zs.take len)).length+(lits (H:=H) k (zs.drop len)).length=zs.length:=by
      simp [lits]
      omega
    rw [h1] at z
    exact Nat.le_trans (Nat.mul_le_mul_right _ hl2) z
end Go.Proofs.YtahidkjncljkaaaW.PrintWords
