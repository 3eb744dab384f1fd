/- PlanWide: a part -/
import Derived.WalkSpells
import Derived.Laws.Cover1
import Derived.Shelf.Abstract
import Derived.Lib.SliceRun
import Derived.Lib.JoinLaws
import Derived.Lib.AppendZerosOnto
import Derived.Lib.Overlaps
import Derived.Laws.Externs
import Derived.Laws.IdiomCopy
import Derived.Laws.NewBlocks
import Derived.Deep.RegionLaw
import Derived.Shelf.RegionOpenPlain
import Derived.Test.YtahidkjncljkaaaRows
import Derived.WalkKit
import Derived.ProofKit
import Derived.OpenShut
import Derived.JoinedOf
import Derived.SizedLaws
import Derived.ChangeSlices
import Derived.Test.YtahidkjncljkaaaBPlanWide0
import Derived.Test.YtahidkjncljkaaaBPlanWide1
import Derived.Test.YtahidkjncljkaaaBPlanWide3
import Derived.Test.YtahidkjncljkaaaBPlanWide4
import Derived.Test.YtahidkjncljkaaaBPlanWide5
set_option linter.unusedVariables false
set_option linter.unusedSimpArgs false
namespace Go.Proofs.Ytahidkjncljkaaa.Print
open Go.RowKit Go.Proofs.YtahidkjncljkaaaW.PrintWords Go.Proofs.YtahidkjncljkaaaW.PrintLast Go.Proofs.YtahidkjncljkaaaW.PrintMore
attribute [local go_sem] max2_int min2_int max_two min_two max_three min_three max_four min_four

attribute [local go_sem high] eqA76
noncomputable def law18_awake.f:Option (Bool):=(plan_Steps.f (([(⟨(⟨#[97]⟩:ByteArray),(⟨#[]⟩:ByteArray),(⟨0,0,0⟩:S37)⟩:S39)]:List (S39))) ([]:List (S84)) ([]:List (S79))).bind fun bt4=>((plan_Steps.f ([]:List (S39)) ([]:List (S84)) ([]:List (S79))).bind fun bt8=>((law1_Num.f bt4.2).bind fun t12=>(if t12=0 then (if (bt4.1.length:Int)=1 then (if 0<(bt4.1.length:Int) then (if (((rd_T76 bt4.1 0).f0)==1 && ((((rd_T76 bt4.1 0).f1).toList)==([97]:List UInt8) && ((((rd_T76 bt4.1 0).f2).toList)==([]:List UInt8) && ((((rd_T76 bt4.1 0).f3.f0)==0 && (((rd_T76 bt4.1 0).f3.f1)==0 && (((rd_T76 bt4.1 0).f3.f2)==0)))))))=true then ((law1_Num.f bt8.2).bind fun t14=>(if t14=0 then (some ((bt8.1.length:Int)==0)) else (some false))) else (some false)) else (none)) else (some false)) else (some false))))
set_option maxHeartbeats 8000000 in
set_option maxRecDepth 100000 in
theorem law18_awake.calls (r:Bool) (w:World) (h:law18_awake.f=some r):
  Calls Try.prog 47 #[] w fun e w'=>e= .returned (.bool r)∧Below w.heap.size w w':=by
 have hu39:=Try.underlying39
 have hu76:=Try.underlying76
 have HB:=am_ (Below.refl w.heap.size w)
 have H:((plan_Steps.f (([(⟨(⟨#[97]⟩:ByteArray),(⟨#[]⟩:ByteArray),(⟨0,0,0⟩:S37)⟩:S39)]:List (S39))) ([]:List (S84)) ([]:List (S79))).bind fun bt4=>((plan_Steps.f ([]:List (S39)) ([]:List (S84)) ([]:List (S79))).bind fun bt8=>((law1_Num.f bt4.2).bind fun t12=>(if t12=0 then (if (bt4.1.length:Int)=1 then (if 0<(bt4.1.length:Int) then (if (((rd_T76 bt4.1 0).f0)==1 && ((((rd_T76 bt4.1 0).f1).toList)==([97]:List UInt8) && ((((rd_T76 bt4.1 0).f2).toList)==([]:List UInt8) && ((((rd_T76 bt4.1 0).f3.f0)==0 && (((rd_T76 bt4.1 0).f3.f1)==0 && (((rd_T76 bt4.1 0).f3.f2)==0)))))))=true then ((law1_Num.f bt8.2).bind fun t14=>(if t14=0 then (some ((bt8.1.length:Int)==0)) else (some false))) else (some false)) else (none)) else (some false)) else (some false)))))=some r:=h
 clear h
 obtain ⟨y1,hy1⟩: ∃y_:List (S39),y_=(([(⟨(⟨#[97]⟩:ByteArray),(⟨#[]⟩:ByteArray),(⟨0,0,0⟩:S37)⟩:S39)]:List (S39))):=⟨_,rfl⟩
 replace H:((plan_Steps.f y1 ([]:List (S84)) ([]:List (S79))).bind fun bt4=>((plan_Steps.f ([]:List (S39)) ([]:List (S84)) ([]:List (S79))).bind fun bt8=>((law1_Num.f bt4.2).bind fun t12=>(if t12=0 then (if (bt4.1.length:Int)=1 then (if 0<(bt4.1.length:Int) then (if (((rd_T76 bt4.1 0).f0)==1 && ((((rd_T76 bt4.1 0).f1).toList)==([97]:List UInt8) && ((((rd_T76 bt4.1 0).f2).toList)==([]:List UInt8) && ((((rd_T76 bt4.1 0).f3.f0)==0 && (((rd_T76 bt4.1 0).f3.f1)==0 && (((rd_T76 bt4.1 0).f3.f2)==0)))))))=true then ((law1_Num.f bt8.2).bind fun t14=>(if t14=0 then (some ((bt8.1.length:Int)==0)) else (some false))) else (some false)) else (none)) else (some false)) else (some false)))))=some r:=by first|(rw [hy1];with_reducible exact H)|(have H2_:=(Option.bind_some _ _).symm.trans H;rw [hy1];with_reducible exact H2_)|(have H2_:=(Option.bind_some _ _).symm.trans H;with_reducible exact H2_)|with_reducible exact H|(rw [hy1];exact H)|exact H
 have Ny1:=Aside0.mk hy1
 clear hy1
 replace H:=Option.bind_eq_some_iff.mp H
 obtain ⟨⟨t4,t5⟩,A10,H⟩:=H
 try dsimp only at H
 have A1:=Aside0.mk A10
 clear A10
 replace H:=Option.bind_eq_some_iff.mp H
 obtain ⟨⟨t8,t9⟩,A20,H⟩:=H
 try dsimp only at H
 have A2:=Aside0.mk A20
 clear A20
 replace H:=Option.bind_eq_some_iff.mp H
 obtain ⟨t12,A30,H⟩:=H
 try dsimp only at H
 have A3:=Aside0.mk A30
 clear A30
 by_cases c4:t12=0
 rotate_left
 ·rw [if_neg c4] at H
  have c4b0:(t12==0)=false:=beq_eq_false_iff_ne.mpr c4
  have c4b1:(t12 !=0)=true:=bne_iff_ne.mpr c4
  obtain rfl:=Option.some.inj H
  go_enter Try.func47,Try.ntmps47
  go_wp2_with (first|((with_reducible refine gate_dst (N:=7) rfl ?_);(try (refine gate_guard (by rfl) ?_;dsimp only));refine Kd.R_lit k39 _ 39 ?hg (N:=7) ?hd (xs:=([(⟨(⟨#[97]⟩:ByteArray),(⟨#[]⟩:ByteArray),(⟨0,0,0⟩:S37)⟩:S39)]:List (S39))) (inner:=[.string (⟨#[97]⟩:ByteArray), .string (⟨#[]⟩:ByteArray), .int .i64 0, .int .i64 0, .int .i64 0]) (ok:=fun _=>True) (okp:=fun _=>True) ?hr ?hp (fun _ hk=>hk) trivial (Below.refl _ _) (Nat.le_refl _) (by simp) ?_;(case hd=>rfl);(case hg=>rfl);(case hr=>first|(go_simp;done)|(go_simp;rfl));(case hp=>exact (Reps.c5 (show Kd.M k39 _ _ _ (⟨(⟨#[97]⟩:ByteArray),(⟨#[]⟩:ByteArray),(⟨0,0,0⟩:S37)⟩:S39) [.string (⟨#[97]⟩:ByteArray), .string (⟨#[]⟩:ByteArray), .int .i64 0, .int .i64 0, .int .i64 0] from (k39_mkM _ _ _ (⟨(⟨#[97]⟩:ByteArray),(⟨#[]⟩:ByteArray),(⟨0,0,0⟩:S37)⟩:S39))) (Reps.none _ _)));intro v2 w35 ho36 hb hg_ hnew_;clear hg_ hnew_;(first|rw [←Ny1.out] at ho36|(simp only [Int.reduceToNat] at ho36;rw [←Ny1.out] at ho36));have HO3:=am_ (Kd.R_lower ho36 (below_size (zl0_ HB)));replace HB:=am_ (below_step (zl0_ HB) hb);clear hb ho36;obtain ⟨Ao37,co37,eo37⟩:=Kd.R_slice HO3.out;subst eo37)|((with_reducible refine gate_callee (f:=48) rfl ?_);refine gl_ (some 8) Try.func48 #[.slice Ao37 y1.length co37, .slice none 0 0, .slice none 0 0] ?_;(refine (plan_Steps.calls _ _ y1 _ _ ([]:List (S84)) _ _ ([]:List (S79)) t4 t5 _ ?side1 ?side2 ?side3 ?side4 ?side5 ?side6 A1.out).mono ?_);(case side1=>exact zc_ (Kd.R_reads' HO3.out).2.2);(case side2=>exact (Kd.R_reads' HO3.out).2.1);(case side3=>exact Kd.C_nil _ _);(case side4=>exact Nat.le_refl _);(case side5=>exact Kd.C_nil _ _);(case side6=>exact Nat.le_refl _);rintro e w38 ⟨v6,rfl,ho0,hb⟩;refine ⟨_,rfl, ?_⟩;replace HO3:=am_ (Kd.R_below (zr_ HO3) hb);have HO7:=am_ (Kd.R_lower ho0 (below_size (zl0_ HB)));replace HB:=am_ (below_step (zl0_ HB) hb);(try clear hb);(try clear hb2);(try clear hk);(try clear hi);(try clear ho0))|((with_reducible refine gate_callee (f:=48) rfl ?_);refine gl_ (some 12) Try.func48 #[.slice none 0 0, .slice none 0 0, .slice none 0 0] ?_;(refine (plan_Steps.calls _ _ ([]:List (S39)) _ _ ([]:List (S84)) _ _ ([]:List (S79)) t8 t9 _ ?side1 ?side2 ?side3 ?side4 ?side5 ?side6 A2.out).mono ?_);(case side1=>exact Kd.C_nil _ _);(case side2=>exact Nat.le_refl _);(case side3=>exact Kd.C_nil _ _);(case side4=>exact Nat.le_refl _);(case side5=>exact Kd.C_nil _ _);(case side6=>exact Nat.le_refl _);rintro e w39 ⟨v10,rfl,ho0,hb⟩;refine ⟨_,rfl, ?_⟩;replace HO3:=am_ (Kd.R_below (zr_ HO3) hb);have HO11:=am_ (Kd.R_lower (Kd.R_new' ho0 (Kd.R_lt (zr_ HO7))) (below_size (zl0_ HB)));replace HO7:=am_ (Kd.R_elder' (zr_ HO7) (Kd.R_base ho0) hb);replace HB:=am_ (below_step (zl0_ HB) hb);(try clear hb);(try clear hb2);(try clear hk);(try clear hi);(try clear ho0))|((with_reducible refine gate_callee (f:=25) rfl ?_);refine gl_ (some 16) Try.func25 #[.int .i64 t5] ?_;(with_reducible refine (law1_Num.calls t5 t12 _ A3.out).mono ?_);rintro e w' ⟨rfl,⟨nd,rfl⟩⟩;refine ⟨_,rfl, ?_⟩))
  go_ret
  exact ⟨by first|rfl|(simp [errW_none,errW_some]<;>rfl)|(simp [*,errW_none,errW_some]<;>rfl),zl0_ HB⟩

 rw [if_pos c4] at H
 have c4b0:(t12==0)=true:=beq_iff_eq.mpr c4
 have c4b1:(t12 !=0)=false:=bne_eq_false_iff_eq.mpr c4
 clear c4
 by_cases c5:(t4.length:Int)=1
 rotate_left
 ·rw [if_neg c5] at H
  have c5b0:((t4.length:Int)==1)=false:=beq_eq_false_iff_ne.mpr c5
  have c5b1:((t4.length:Int) !=1)=true:=bne_iff_ne.mpr c5
  obtain rfl:=Option.some.inj H
  go_enter Try.func47,Try.ntmps47
  go_wp2_with (first|((with_reducible refine gate_dst (N:=7) rfl ?_);(try (refine gate_guard (by rfl) ?_;dsimp only));refine Kd.R_lit k39 _ 39 ?hg (N:=7) ?hd (xs:=([(⟨(⟨#[97]⟩:ByteArray),(⟨#[]⟩:ByteArray),(⟨0,0,0⟩:S37)⟩:S39)]:List (S39))) (inner:=[.string (⟨#[97]⟩:ByteArray), .string (⟨#[]⟩:ByteArray), .int .i64 0, .int .i64 0, .int .i64 0]) (ok:=fun _=>True) (okp:=fun _=>True) ?hr ?hp (fun _ hk=>hk) trivial (Below.refl _ _) (Nat.le_refl _) (by simp) ?_;(case hd=>rfl);(case hg=>rfl);(case hr=>first|(go_simp;done)|(go_simp;rfl));(case hp=>exact (Reps.c5 (show Kd.M k39 _ _ _ (⟨(⟨#[97]⟩:ByteArray),(⟨#[]⟩:ByteArray),(⟨0,0,0⟩:S37)⟩:S39) [.string (⟨#[97]⟩:ByteArray), .string (⟨#[]⟩:ByteArray), .int .i64 0, .int .i64 0, .int .i64 0] from (k39_mkM _ _ _ (⟨(⟨#[97]⟩:ByteArray),(⟨#[]⟩:ByteArray),(⟨0,0,0⟩:S37)⟩:S39))) (Reps.none _ _)));intro v2 w29 ho30 hb hg_ hnew_;clear hg_ hnew_;(first|rw [←Ny1.out] at ho30|(simp only [Int.reduceToNat] at ho30;rw [←Ny1.out] at ho30));have HO3:=am_ (Kd.R_lower ho30 (below_size (zl0_ HB)));replace HB:=am_ (below_step (zl0_ HB) hb);clear hb ho30;obtain ⟨Ao31,co31,eo31⟩:=Kd.R_slice HO3.out;subst eo31)|((with_reducible refine gate_callee (f:=48) rfl ?_);refine gl_ (some 8) Try.func48 #[.slice Ao31 y1.length co31, .slice none 0 0, .slice none 0 0] ?_;(refine (plan_Steps.calls _ _ y1 _ _ ([]:List (S84)) _ _ ([]:List (S79)) t4 t5 _ ?side1 ?side2 ?side3 ?side4 ?side5 ?side6 A1.out).mono ?_);(case side1=>exact zc_ (Kd.R_reads' HO3.out).2.2);(case side2=>exact (Kd.R_reads' HO3.out).2.1);(case side3=>exact Kd.C_nil _ _);(case side4=>exact Nat.le_refl _);(case side5=>exact Kd.C_nil _ _);(case side6=>exact Nat.le_refl _);rintro e w32 ⟨v6,rfl,ho0,hb⟩;refine ⟨_,rfl, ?_⟩;replace HO3:=am_ (Kd.R_below (zr_ HO3) hb);have HO7:=am_ (Kd.R_lower ho0 (below_size (zl0_ HB)));replace HB:=am_ (below_step (zl0_ HB) hb);(try clear hb);(try clear hb2);(try clear hk);(try clear hi);(try clear ho0))|((with_reducible refine gate_callee (f:=48) rfl ?_);refine gl_ (some 12) Try.func48 #[.slice none 0 0, .slice none 0 0, .slice none 0 0] ?_;(refine (plan_Steps.calls _ _ ([]:List (S39)) _ _ ([]:List (S84)) _ _ ([]:List (S79)) t8 t9 _ ?side1 ?side2 ?side3 ?side4 ?side5 ?side6 A2.out).mono ?_);(case side1=>exact Kd.C_nil _ _);(case side2=>exact Nat.le_refl _);(case side3=>exact Kd.C_nil _ _);(case side4=>exact Nat.le_refl _);(case side5=>exact Kd.C_nil _ _);(case side6=>exact Nat.le_refl _);rintro e w33 ⟨v10,rfl,ho0,hb⟩;refine ⟨_,rfl, ?_⟩;replace HO3:=am_ (Kd.R_below (zr_ HO3) hb);have HO11:=am_ (Kd.R_lower (Kd.R_new' ho0 (Kd.R_lt (zr_ HO7))) (below_size (zl0_ HB)));replace HO7:=am_ (Kd.R_elder' (zr_ HO7) (Kd.R_base ho0) hb);replace HB:=am_ (below_step (zl0_ HB) hb);(try clear hb);(try clear hb2);(try clear hk);(try clear hi);(try clear ho0))|((with_reducible refine gate_callee (f:=25) rfl ?_);refine gl_ (some 16) Try.func25 #[.int .i64 t5] ?_;(with_reducible refine (law1_Num.calls t5 t12 _ A3.out).mono ?_);rintro e w' ⟨rfl,⟨nd,rfl⟩⟩;refine ⟨_,rfl, ?_⟩;obtain ⟨Ao34,co34,eo34⟩:=Kd.R_slice HO7.out;subst eo34))
  go_ret
  exact ⟨by first|rfl|(simp [errW_none,errW_some]<;>rfl)|(simp [*,errW_none,errW_some]<;>rfl),zl0_ HB⟩
 rw [if_pos c5] at H
 have c5b0:((t4.length:Int)==1)=true:=beq_iff_eq.mpr c5
 have c5b1:((t4.length:Int) !=1)=false:=bne_eq_false_iff_eq.mpr c5
 clear c5
 by_cases c6:0<(t4.length:Int)
 rotate_left
 ·rw [if_neg c6] at H
  exact absurd H (by simp)
 rw [if_pos c6] at H
 have c6b0:decide (0<(t4.length:Int))=true:=decide_eq_true c6
 have c6b1:decide (0<t4.length)=true:=decide_eq_true (by omega)
 clear c6
 by_cases c7:(((rd_T76 t4 0).f0)==1 && ((((rd_T76 t4 0).f1).toList)==([97]:List UInt8) && ((((rd_T76 t4 0).f2).toList)==([]:List UInt8) && ((((rd_T76 t4 0).f3.f0)==0 && (((rd_T76 t4 0).f3.f1)==0 && (((rd_T76 t4 0).f3.f2)==0)))))))=true
 rotate_left
 ·rw [if_neg c7] at H
  have c7b0:(((rd_T76 t4 0).f0)==1 && ((((rd_T76 t4 0).f1).toList)==([97]:List UInt8) && ((((rd_T76 t4 0).f2).toList)==([]:List UInt8) && ((((rd_T76 t4 0).f3.f0)==0 && (((rd_T76 t4 0).f3.f1)==0 && (((rd_T76 t4 0).f3.f2)==0)))))))=false:=by simpa using c7
  have c7b9:(((rd_T76 t4 0).f0)==1 && ((((rd_T76 t4 0).f1).toList)==([97]:List UInt8) && ((((rd_T76 t4 0).f2).toList).isEmpty && ((((rd_T76 t4 0).f3.f0)==0 && (((rd_T76 t4 0).f3.f1)==0 && (((rd_T76 t4 0).f3.f2)==0)))))))=false:=by
    have e_: ∀l:List UInt8,l.isEmpty=(l==([]:List UInt8)):=fun l=>by cases l<;>rfl
    rw [e_]
    exact c7b0
  (try (have c7b1:decide (((rd_T76 t4 0).f0)=1 && ((((rd_T76 t4 0).f1).toList)==([97]:List UInt8) && ((((rd_T76 t4 0).f2).toList)==([]:List UInt8) && ((((rd_T76 t4 0).f3.f0)==0 && (((rd_T76 t4 0).f3.f1)==0 && (((rd_T76 t4 0).f3.f2)==0)))))))=false:=by simpa using c7))
  (try (have c7b2:(((rd_T76 t4 0).f0)==1 && ((((rd_T76 t4 0).f1).toList)==([97]:List UInt8) && ((((rd_T76 t4 0).f2).toList)==([]:List UInt8) && ((((rd_T76 t4 0).f3.f0)==0 && (((rd_T76 t4 0).f3.f1)==0 && (((rd_T76 t4 0).f3.f2)==0)))))))=false:=by simpa using c7))
  (try (have c7b3: ¬(((rd_T76 t4 0).f0)=1 && ((((rd_T76 t4 0).f1).toList)==([97]:List UInt8) && ((((rd_T76 t4 0).f2).toList)==([]:List UInt8) && ((((rd_T76 t4 0).f3.f0)==0 && (((rd_T76 t4 0).f3.f1)==0 && (((rd_T76 t4 0).f3.f2)==0))))))):=by simpa using c7))
  clear c7
  obtain rfl:=Option.some.inj H
  go_enter Try.func47,Try.ntmps47
  go_wp2_with (first|((with_reducible refine gate_dst (N:=7) rfl ?_);(try (refine gate_guard (by rfl) ?_;dsimp only));refine Kd.R_lit k39 _ 39 ?hg (N:=7) ?hd (xs:=([(⟨(⟨#[97]⟩:ByteArray),(⟨#[]⟩:ByteArray),(⟨0,0,0⟩:S37)⟩:S39)]:List (S39))) (inner:=[.string (⟨#[97]⟩:ByteArray), .string (⟨#[]⟩:ByteArray), .int .i64 0, .int .i64 0, .int .i64 0]) (ok:=fun _=>True) (okp:=fun _=>True) ?hr ?hp (fun _ hk=>hk) trivial (Below.refl _ _) (Nat.le_refl _) (by simp) ?_;(case hd=>rfl);(case hg=>rfl);(case hr=>first|(go_simp;done)|(go_simp;rfl));(case hp=>exact (Reps.c5 (show Kd.M k39 _ _ _ (⟨(⟨#[97]⟩:ByteArray),(⟨#[]⟩:ByteArray),(⟨0,0,0⟩:S37)⟩:S39) [.string (⟨#[97]⟩:ByteArray), .string (⟨#[]⟩:ByteArray), .int .i64 0, .int .i64 0, .int .i64 0] from (k39_mkM _ _ _ (⟨(⟨#[97]⟩:ByteArray),(⟨#[]⟩:ByteArray),(⟨0,0,0⟩:S37)⟩:S39))) (Reps.none _ _)));intro v2 w23 ho24 hb hg_ hnew_;clear hg_ hnew_;(first|rw [←Ny1.out] at ho24|(simp only [Int.reduceToNat] at ho24;rw [←Ny1.out] at ho24));have HO3:=am_ (Kd.R_lower ho24 (below_size (zl0_ HB)));replace HB:=am_ (below_step (zl0_ HB) hb);clear hb ho24;obtain ⟨Ao25,co25,eo25⟩:=Kd.R_slice HO3.out;subst eo25)|((with_reducible refine gate_callee (f:=48) rfl ?_);refine gl_ (some 8) Try.func48 #[.slice Ao25 y1.length co25, .slice none 0 0, .slice none 0 0] ?_;(refine (plan_Steps.calls _ _ y1 _ _ ([]:List (S84)) _ _ ([]:List (S79)) t4 t5 _ ?side1 ?side2 ?side3 ?side4 ?side5 ?side6 A1.out).mono ?_);(case side1=>exact zc_ (Kd.R_reads' HO3.out).2.2);(case side2=>exact (Kd.R_reads' HO3.out).2.1);(case side3=>exact Kd.C_nil _ _);(case side4=>exact Nat.le_refl _);(case side5=>exact Kd.C_nil _ _);(case side6=>exact Nat.le_refl _);rintro e w26 ⟨v6,rfl,ho0,hb⟩;refine ⟨_,rfl, ?_⟩;replace HO3:=am_ (Kd.R_below (zr_ HO3) hb);have HO7:=am_ (Kd.R_lower ho0 (below_size (zl0_ HB)));replace HB:=am_ (below_step (zl0_ HB) hb);(try clear hb);(try clear hb2);(try clear hk);(try clear hi);(try clear ho0))|((with_reducible refine gate_callee (f:=48) rfl ?_);refine gl_ (some 12) Try.func48 #[.slice none 0 0, .slice none 0 0, .slice none 0 0] ?_;(refine (plan_Steps.calls _ _ ([]:List (S39)) _ _ ([]:List (S84)) _ _ ([]:List (S79)) t8 t9 _ ?side1 ?side2 ?side3 ?side4 ?side5 ?side6 A2.out).mono ?_);(case side1=>exact Kd.C_nil _ _);(case side2=>exact Nat.le_refl _);(case side3=>exact Kd.C_nil _ _);(case side4=>exact Nat.le_refl _);(case side5=>exact Kd.C_nil _ _);(case side6=>exact Nat.le_refl _);rintro e w27 ⟨v10,rfl,ho0,hb⟩;refine ⟨_,rfl, ?_⟩;replace HO3:=am_ (Kd.R_below (zr_ HO3) hb);have HO11:=am_ (Kd.R_lower (Kd.R_new' ho0 (Kd.R_lt (zr_ HO7))) (below_size (zl0_ HB)));replace HO7:=am_ (Kd.R_elder' (zr_ HO7) (Kd.R_base ho0) hb);replace HB:=am_ (below_step (zl0_ HB) hb);(try clear hb);(try clear hb2);(try clear hk);(try clear hi);(try clear ho0))|((with_reducible refine gate_callee (f:=25) rfl ?_);refine gl_ (some 16) Try.func25 #[.int .i64 t5] ?_;(with_reducible refine (law1_Num.calls t5 t12 _ A3.out).mono ?_);rintro e w' ⟨rfl,⟨nd,rfl⟩⟩;refine ⟨_,rfl, ?_⟩;obtain ⟨Ao28,co28,eo28⟩:=Kd.R_slice HO7.out;subst eo28;have p13:0≤(0:Int):=(by omega);have q13:0<(t4.length:Int):=of_decide_eq_true zq_;obtain ⟨ad13,e13,hx13_0,hx13_1,hx13_2,hx13_3,hx13_4,hx13_5⟩:=at_T76 (Kd.R_reads' HO7.out).2.2 0 p13 q13;cases e13;have qi13:(0<t4.length)=True:=eq_true (by omega);(try rw [show ((0:Int)).toNat=0 from rfl] at hx13_0);(try rw [show 0*6=0 from rfl] at hx13_0);(try rw [Addr.add_zero'] at hx13_0);(try rw [show ((0:Int)).toNat=0 from rfl] at hx13_1);(try rw [show 0*6=0 from rfl] at hx13_1);(try rw [Addr.add_zero'] at hx13_1);(try rw [show ((0:Int)).toNat=0 from rfl] at hx13_2);(try rw [show 0*6=0 from rfl] at hx13_2);(try rw [Addr.add_zero'] at hx13_2);(try rw [show ((0:Int)).toNat=0 from rfl] at hx13_3);(try rw [show 0*6=0 from rfl] at hx13_3);(try rw [Addr.add_zero'] at hx13_3);(try rw [show ((0:Int)).toNat=0 from rfl] at hx13_4);(try rw [show 0*6=0 from rfl] at hx13_4);(try rw [Addr.add_zero'] at hx13_4);(try rw [show ((0:Int)).toNat=0 from rfl] at hx13_5);(try rw [show 0*6=0 from rfl] at hx13_5);(try rw [Addr.add_zero'] at hx13_5);replace p13:=eq_true p13;replace q13:=eq_true q13))
  go_ret
  exact ⟨by first|rfl|(simp [errW_none,errW_some]<;>rfl)|(simp [*,errW_none,errW_some]<;>rfl),zl0_ HB⟩
 rw [if_pos c7] at H
 have c7b0:(((rd_T76 t4 0).f0)==1 && ((((rd_T76 t4 0).f1).toList)==([97]:List UInt8) && ((((rd_T76 t4 0).f2).toList)==([]:List UInt8) && ((((rd_T76 t4 0).f3.f0)==0 && (((rd_T76 t4 0).f3.f1)==0 && (((rd_T76 t4 0).f3.f2)==0)))))))=true:=c7
 have c7b9:(((rd_T76 t4 0).f0)==1 && ((((rd_T76 t4 0).f1).toList)==([97]:List UInt8) && ((((rd_T76 t4 0).f2).toList).isEmpty && ((((rd_T76 t4 0).f3.f0)==0 && (((rd_T76 t4 0).f3.f1)==0 && (((rd_T76 t4 0).f3.f2)==0)))))))=true:=by
   have e_: ∀l:List UInt8,l.isEmpty=(l==([]:List UInt8)):=fun l=>by cases l<;>rfl
   rw [e_]
   exact c7b0
 (try (have c7b1:decide (((rd_T76 t4 0).f0)=1 && ((((rd_T76 t4 0).f1).toList)==([97]:List UInt8) && ((((rd_T76 t4 0).f2).toList)==([]:List UInt8) && ((((rd_T76 t4 0).f3.f0)==0 && (((rd_T76 t4 0).f3.f1)==0 && (((rd_T76 t4 0).f3.f2)==0)))))))=true:=by simpa using c7))
 (try (have c7b2:(((rd_T76 t4 0).f0)==1 && ((((rd_T76 t4 0).f1).toList)==([97]:List UInt8) && ((((rd_T76 t4 0).f2).toList)==([]:List UInt8) && ((((rd_T76 t4 0).f3.f0)==0 && (((rd_T76 t4 0).f3.f1)==0 && (((rd_T76 t4 0).f3.f2)==0)))))))=true:=by simpa using c7))
 clear c7
 replace H:=Option.bind_eq_some_iff.mp H
 obtain ⟨t14,A80,H⟩:=H
 try dsimp only at H
 have A8:=Aside0.mk A80
 clear A80
 by_cases c9:t14=0
 ·rw [if_pos c9] at H
  have c9b0:(t14==0)=true:=beq_iff_eq.mpr c9
  have c9b1:(t14 !=0)=false:=bne_eq_false_iff_eq.mpr c9
  clear c9
  obtain rfl:=Option.some.inj H
  go_enter Try.func47,Try.ntmps47
  go_wp2_with (first|((with_reducible refine gate_dst (N:=7) rfl ?_);(try (refine gate_guard (by rfl) ?_;dsimp only));refine Kd.R_lit k39 _ 39 ?hg (N:=7) ?hd (xs:=([(⟨(⟨#[97]⟩:ByteArray),(⟨#[]⟩:ByteArray),(⟨0,0,0⟩:S37)⟩:S39)]:List (S39))) (inner:=[.string (⟨#[97]⟩:ByteArray), .string (⟨#[]⟩:ByteArray), .int .i64 0, .int .i64 0, .int .i64 0]) (ok:=fun _=>True) (okp:=fun _=>True) ?hr ?hp (fun _ hk=>hk) trivial (Below.refl _ _) (Nat.le_refl _) (by simp) ?_;(case hd=>rfl);(case hg=>rfl);(case hr=>first|(go_simp;done)|(go_simp;rfl));(case hp=>exact (Reps.c5 (show Kd.M k39 _ _ _ (⟨(⟨#[97]⟩:ByteArray),(⟨#[]⟩:ByteArray),(⟨0,0,0⟩:S37)⟩:S39) [.string (⟨#[97]⟩:ByteArray), .string (⟨#[]⟩:ByteArray), .int .i64 0, .int .i64 0, .int .i64 0] from (k39_mkM _ _ _ (⟨(⟨#[97]⟩:ByteArray),(⟨#[]⟩:ByteArray),(⟨0,0,0⟩:S37)⟩:S39))) (Reps.none _ _)));intro v2 w10 ho11 hb hg_ hnew_;clear hg_ hnew_;(first|rw [←Ny1.out] at ho11|(simp only [Int.reduceToNat] at ho11;rw [←Ny1.out] at ho11));have HO3:=am_ (Kd.R_lower ho11 (below_size (zl0_ HB)));replace HB:=am_ (below_step (zl0_ HB) hb);clear hb ho11;obtain ⟨Ao12,co12,eo12⟩:=Kd.R_slice HO3.out;subst eo12)|((with_reducible refine gate_callee (f:=48) rfl ?_);refine gl_ (some 8) Try.func48 #[.slice Ao12 y1.length co12, .slice none 0 0, .slice none 0 0] ?_;(refine (plan_Steps.calls _ _ y1 _ _ ([]:List (S84)) _ _ ([]:List (S79)) t4 t5 _ ?side1 ?side2 ?side3 ?side4 ?side5 ?side6 A1.out).mono ?_);(case side1=>exact zc_ (Kd.R_reads' HO3.out).2.2);(case side2=>exact (Kd.R_reads' HO3.out).2.1);(case side3=>exact Kd.C_nil _ _);(case side4=>exact Nat.le_refl _);(case side5=>exact Kd.C_nil _ _);(case side6=>exact Nat.le_refl _);rintro e w13 ⟨v6,rfl,ho0,hb⟩;refine ⟨_,rfl, ?_⟩;replace HO3:=am_ (Kd.R_below (zr_ HO3) hb);have HO7:=am_ (Kd.R_lower ho0 (below_size (zl0_ HB)));replace HB:=am_ (below_step (zl0_ HB) hb);(try clear hb);(try clear hb2);(try clear hk);(try clear hi);(try clear ho0))|((with_reducible refine gate_callee (f:=48) rfl ?_);refine gl_ (some 12) Try.func48 #[.slice none 0 0, .slice none 0 0, .slice none 0 0] ?_;(refine (plan_Steps.calls _ _ ([]:List (S39)) _ _ ([]:List (S84)) _ _ ([]:List (S79)) t8 t9 _ ?side1 ?side2 ?side3 ?side4 ?side5 ?side6 A2.out).mono ?_);(case side1=>exact Kd.C_nil _ _);(case side2=>exact Nat.le_refl _);(case side3=>exact Kd.C_nil _ _);(case side4=>exact Nat.le_refl _);(case side5=>exact Kd.C_nil _ _);(case side6=>exact Nat.le_refl _);rintro e w14 ⟨v10,rfl,ho0,hb⟩;refine ⟨_,rfl, ?_⟩;replace HO3:=am_ (Kd.R_below (zr_ HO3) hb);have HO11:=am_ (Kd.R_lower (Kd.R_new' ho0 (Kd.R_lt (zr_ HO7))) (below_size (zl0_ HB)));replace HO7:=am_ (Kd.R_elder' (zr_ HO7) (Kd.R_base ho0) hb);replace HB:=am_ (below_step (zl0_ HB) hb);(try clear hb);(try clear hb2);(try clear hk);(try clear hi);(try clear ho0))|((with_reducible refine gate_callee (f:=25) rfl ?_);refine gl_ (some 16) Try.func25 #[.int .i64 t5] ?_;(with_reducible refine (law1_Num.calls t5 t12 _ A3.out).mono ?_);rintro e w' ⟨rfl,⟨nd,rfl⟩⟩;refine ⟨_,rfl, ?_⟩;obtain ⟨Ao15,co15,eo15⟩:=Kd.R_slice HO7.out;subst eo15;have p13:0≤(0:Int):=(by omega);have q13:0<(t4.length:Int):=of_decide_eq_true zq_;obtain ⟨ad13,e13,hx13_0,hx13_1,hx13_2,hx13_3,hx13_4,hx13_5⟩:=at_T76 (Kd.R_reads' HO7.out).2.2 0 p13 q13;cases e13;have qi13:(0<t4.length)=True:=eq_true (by omega);(try rw [show ((0:Int)).toNat=0 from rfl] at hx13_0);(try rw [show 0*6=0 from rfl] at hx13_0);(try rw [Addr.add_zero'] at hx13_0);(try rw [show ((0:Int)).toNat=0 from rfl] at hx13_1);(try rw [show 0*6=0 from rfl] at hx13_1);(try rw [Addr.add_zero'] at hx13_1);(try rw [show ((0:Int)).toNat=0 from rfl] at hx13_2);(try rw [show 0*6=0 from rfl] at hx13_2);(try rw [Addr.add_zero'] at hx13_2);(try rw [show ((0:Int)).toNat=0 from rfl] at hx13_3);(try rw [show 0*6=0 from rfl] at hx13_3);(try rw [Addr.add_zero'] at hx13_3);(try rw [show ((0:Int)).toNat=0 from rfl] at hx13_4);(try rw [show 0*6=0 from rfl] at hx13_4);(try rw [Addr.add_zero'] at hx13_4);(try rw [show ((0:Int)).toNat=0 from rfl] at hx13_5);(try rw [show 0*6=0 from rfl] at hx13_5);(try rw [Addr.add_zero'] at hx13_5);replace p13:=eq_true p13;replace q13:=eq_true q13)|(go_at_call 25;(with_reducible refine (law1_Num.calls t9 t14 _ A8.out).mono ?_);rintro e w' ⟨rfl,⟨nd,rfl⟩⟩;obtain ⟨Ao16,co16,eo16⟩:=Kd.R_slice HO11.out;subst eo16))
  go_ret
  exact ⟨by first|rfl|(simp [errW_none,errW_some]<;>rfl)|(simp [*,errW_none,errW_some]<;>rfl),zl0_ HB⟩
 rw [if_neg c9] at H
 have c9b0:(t14==0)=false:=beq_eq_false_iff_ne.mpr c9
 have c9b1:(t14 !=0)=true:=bne_iff_ne.mpr c9
 obtain rfl:=Option.some.inj H
 go_enter Try.func47,Try.ntmps47
 go_wp2_with (first|((with_reducible refine gate_dst (N:=7) rfl ?_);(try (refine gate_guard (by rfl) ?_;dsimp only));refine Kd.R_lit k39 _ 39 ?hg (N:=7) ?hd (xs:=([(⟨(⟨#[97]⟩:ByteArray),(⟨#[]⟩:ByteArray),(⟨0,0,0⟩:S37)⟩:S39)]:List (S39))) (inner:=[.string (⟨#[97]⟩:ByteArray), .string (⟨#[]⟩:ByteArray), .int .i64 0, .int .i64 0, .int .i64 0]) (ok:=fun _=>True) (okp:=fun _=>True) ?hr ?hp (fun _ hk=>hk) trivial (Below.refl _ _) (Nat.le_refl _) (by simp) ?_;(case hd=>rfl);(case hg=>rfl);(case hr=>first|(go_simp;done)|(go_simp;rfl));(case hp=>exact (Reps.c5 (show Kd.M k39 _ _ _ (⟨(⟨#[97]⟩:ByteArray),(⟨#[]⟩:ByteArray),(⟨0,0,0⟩:S37)⟩:S39) [.string (⟨#[97]⟩:ByteArray), .string (⟨#[]⟩:ByteArray), .int .i64 0, .int .i64 0, .int .i64 0] from (k39_mkM _ _ _ (⟨(⟨#[97]⟩:ByteArray),(⟨#[]⟩:ByteArray),(⟨0,0,0⟩:S37)⟩:S39))) (Reps.none _ _)));intro v2 w17 ho18 hb hg_ hnew_;clear hg_ hnew_;(first|rw [←Ny1.out] at ho18|(simp only [Int.reduceToNat] at ho18;rw [←Ny1.out] at ho18));have HO3:=am_ (Kd.R_lower ho18 (below_size (zl0_ HB)));replace HB:=am_ (below_step (zl0_ HB) hb);clear hb ho18;obtain ⟨Ao19,co19,eo19⟩:=Kd.R_slice HO3.out;subst eo19)|((with_reducible refine gate_callee (f:=48) rfl ?_);refine gl_ (some 8) Try.func48 #[.slice Ao19 y1.length co19, .slice none 0 0, .slice none 0 0] ?_;(refine (plan_Steps.calls _ _ y1 _ _ ([]:List (S84)) _ _ ([]:List (S79)) t4 t5 _ ?side1 ?side2 ?side3 ?side4 ?side5 ?side6 A1.out).mono ?_);(case side1=>exact zc_ (Kd.R_reads' HO3.out).2.2);(case side2=>exact (Kd.R_reads' HO3.out).2.1);(case side3=>exact Kd.C_nil _ _);(case side4=>exact Nat.le_refl _);(case side5=>exact Kd.C_nil _ _);(case side6=>exact Nat.le_refl _);rintro e w20 ⟨v6,rfl,ho0,hb⟩;refine ⟨_,rfl, ?_⟩;replace HO3:=am_ (Kd.R_below (zr_ HO3) hb);have HO7:=am_ (Kd.R_lower ho0 (below_size (zl0_ HB)));replace HB:=am_ (below_step (zl0_ HB) hb);(try clear hb);(try clear hb2);(try clear hk);(try clear hi);(try clear ho0))|((with_reducible refine gate_callee (f:=48) rfl ?_);refine gl_ (some 12) Try.func48 #[.slice none 0 0, .slice none 0 0, .slice none 0 0] ?_;(refine (plan_Steps.calls _ _ ([]:List (S39)) _ _ ([]:List (S84)) _ _ ([]:List (S79)) t8 t9 _ ?side1 ?side2 ?side3 ?side4 ?side5 ?side6 A2.out).mono ?_);(case side1=>exact Kd.C_nil _ _);(case side2=>exact Nat.le_refl _);(case side3=>exact Kd.C_nil _ _);(case side4=>exact Nat.le_refl _);(case side5=>exact Kd.C_nil _ _);(case side6=>exact Nat.le_refl _);rintro e w21 ⟨v10,rfl,ho0,hb⟩;refine ⟨_,rfl, ?_⟩;replace HO3:=am_ (Kd.R_below (zr_ HO3) hb);have HO11:=am_ (Kd.R_lower (Kd.R_new' ho0 (Kd.R_lt (zr_ HO7))) (below_size (zl0_ HB)));replace HO7:=am_ (Kd.R_elder' (zr_ HO7) (Kd.R_base ho0) hb);replace HB:=am_ (below_step (zl0_ HB) hb);(try clear hb);(try clear hb2);(try clear hk);(try clear hi);(try clear ho0))|((with_reducible refine gate_callee (f:=25) rfl ?_);refine gl_ (some 16) Try.func25 #[.int .i64 t5] ?_;(with_reducible refine (law1_Num.calls t5 t12 _ A3.out).mono ?_);rintro e w' ⟨rfl,⟨nd,rfl⟩⟩;refine ⟨_,rfl, ?_⟩;obtain ⟨Ao22,co22,eo22⟩:=Kd.R_slice HO7.out;subst eo22;have p13:0≤(0:Int):=(by omega);have q13:0<(t4.length:Int):=of_decide_eq_true zq_;obtain ⟨ad13,e13,hx13_0,hx13_1,hx13_2,hx13_3,hx13_4,hx13_5⟩:=at_T76 (Kd.R_reads' HO7.out).2.2 0 p13 q13;cases e13;have qi13:(0<t4.length)=True:=eq_true (by omega);(try rw [show ((0:Int)).toNat=0 from rfl] at hx13_0);(try rw [show 0*6=0 from rfl] at hx13_0);(try rw [Addr.add_zero'] at hx13_0);(try rw [show ((0:Int)).toNat=0 from rfl] at hx13_1);(try rw [show 0*6=0 from rfl] at hx13_1);(try rw [Addr.add_zero'] at hx13_1);(try rw [show ((0:Int)).toNat=0 from rfl] at hx13_2);(try rw [show 0*6=0 from rfl] at hx13_2);(try rw [Addr.add_zero'] at hx13_2);(try rw [show ((0:Int)).toNat=0 from rfl] at hx13_3);(try rw [show 0*6=0 from rfl] at hx13_3);(try rw [Addr.add_zero'] at hx13_3);(try rw [show ((0:Int)).toNat=0 from rfl] at hx13_4);(try rw [show 0*6=0 from rfl] at hx13_4);(try rw [Addr.add_zero'] at hx13_4);(try rw [show ((0:Int)).toNat=0 from rfl] at hx13_5);(try rw [show 0*6=0 from rfl] at hx13_5);(try rw [Addr.add_zero'] at hx13_5);replace p13:=eq_true p13;replace q13:=eq_true q13)|(go_at_call 25;(with_reducible refine (law1_Num.calls t9 t14 _ A8.out).mono ?_);rintro e w' ⟨rfl,⟨nd,rfl⟩⟩))
 go_ret
 exact ⟨by first|rfl|(simp [errW_none,errW_some]<;>rfl)|(simp [*,errW_none,errW_some]<;>rfl),zl0_ HB⟩
attribute [local go_sem high] eqA37
mutual
noncomputable def law18_PlanWide.j0:Nat→List Int→List Int→Bool→Option (Bool)
 |0,_,_,_=>none
 |k+1,x0,x1,x23=>if x23=true then ((law18_awake.f).bind fun t1=>(some t1)) else ((law12_Make.f k x0).bind fun t2=>((law11_Make.f k x1 false).bind fun t5=>((law18_Loose.f k t2).bind fun t8=>((plan_Steps.f t5 t8 t2).bind fun bt11=>((law1_Num.f bt11.2).bind fun t15=>(if t15=0 then (law18_PlanWide.l0 k t5 bt11.1 0 0) else (some false)))))))
noncomputable def law18_PlanWide.l0:Nat→List (S39)→List (S76)→Int→Int→Option (Bool)
 |0,_,_,_,_=>none
 |k+1,x6,x7,x9,x10=>if x10<(x7.length:Int) then (if 0≤x10 then (if ((rd_T76 x7 x10).f0)=3 then (law18_PlanWide.l0 k x6 x7 (wrap64 (x9+1)) (wrap64 (x10+1))) else (law18_PlanWide.l0 k x6 x7 x9 (wrap64 (x10+1)))) else (none)) else (law18_PlanWide.l1 k x6 x7 x9 0)
noncomputable def law18_PlanWide.j4:Nat→List (S39)→List (S76)→Int→Option (Bool)
 |0,_,_,_=>none
 |k+1,x6,x7,x9=>law18_PlanWide.l2 k x6 x7 x9 0 (wrap64 ((x7.length:Int) - 1))
noncomputable def law18_PlanWide.l2:Nat→List (S39)→List (S76)→Int→Int→Int→Option (Bool)
 |0,_,_,_,_,_=>none
 |k+1,x6,x7,x9,x12,x13=>if x13≥0 then (if x9>0 then (if 0≤x13 then (if x13<(x7.length:Int) then (law18_PlanWide.j6 k x6 x7 x9 x12 x13 (((rd_T76 x7 x13).f0) !=3)) else (none)) else (none)) else (law18_PlanWide.j6 k x6 x7 x9 x12 x13 false)) else (law18_PlanWide.j6 k x6 x7 x9 x12 x13 false)
noncomputable def law18_PlanWide.j6:Nat→List (S39)→List (S76)→Int→Int→Int→Bool→Option (Bool)
 |0,_,_,_,_,_,_=>none
 |k+1,x6,x7,x9,x12,x13,x93=>if x93=true then (if 0≤x13 then (if x13<(x7.length:Int) then (if ((rd_T76 x7 x13).f0)=2 then (law18_PlanWide.l2 k x6 x7 x9 (wrap64 (x12+1)) (wrap64 (x13 - 1))) else (law18_PlanWide.l2 k x6 x7 x9 x12 (wrap64 (x13 - 1)))) else (none)) else (none)) else (law18_PlanWide.l3 k x6 x9 x12 0 0)
noncomputable def law18_PlanWide.l3:Nat→List (S39)→Int→Int→Int→Int→Option (Bool)
 |0,_,_,_,_,_=>none
 |k+1,x6,x9,x12,x14,x15=>if x15<(x6.length:Int) then (if 0≤x15 then ((r10_Most.f).bind fun bt25=>(if (!(((rd_T39 x6 x15).f2.f0)==bt25.1)||(!(((rd_T39 x6 x15).f2.f1)==bt25.2.1)||(!(((rd_T39 x6 x15).f2.f2)==bt25.2.2))))=true then (law18_PlanWide.l3 k x6 x9 x12 (wrap64 (x14+1)) (wrap64 (x15+1))) else (law18_PlanWide.l3 k x6 x9 x12 x14 (wrap64 (x15+1))))) else (none)) else (if x9=0 then ((law18_awake.f).bind fun t28=>(some t28)) else (if x12=x14 then ((law18_awake.f).bind fun t29=>(some t29)) else (some false)))
noncomputable def law18_PlanWide.l1:Nat→List (S39)→List (S76)→Int→Int→Option (Bool)
 |0,_,_,_,_=>none
 |k+1,x6,x7,x9,x11=>if x11<(x7.length:Int) then (law18_PlanWide.j3 k x6 x7 x9 x11 (decide (x9>0))) else (law18_PlanWide.j3 k x6 x7 x9 x11 false)
noncomputable def law18_PlanWide.j3:Nat→List (S39)→List (S76)→Int→Int→Bool→Option (Bool)
 |0,_,_,_,_,_=>none
 |k+1,x6,x7,x9,x11,x61=>if x61=true then (if 0≤x11 then (if x11<(x7.length:Int) then (if ((rd_T76 x7 x11).f0)=3 then (law18_PlanWide.j4 k x6 x7 x9) else ((r10_Most.f).bind fun bt19=>(if (!(((rd_T76 x7 x11).f3.f0)==bt19.1)||(!(((rd_T76 x7 x11).f3.f1)==bt19.2.1)||(!(((rd_T76 x7 x11).f3.f2)==bt19.2.2))))=true then (some false) else (law18_PlanWide.l1 k x6 x7 x9 (wrap64 (x11+1)))))) else (none)) else (none)) else (law18_PlanWide.j4 k x6 x7 x9)
end
noncomputable def law18_PlanWide.f (k:Nat) (l0:List Int) (l1:List Int):Option (Bool):=if (l0.length:Int)>60 then (law18_PlanWide.j0 k l0 l1 true) else (law18_PlanWide.j0 k l0 l1 (decide ((l1.length:Int)>60)))
theorem law18_PlanWide.mono_l: ∀k,(∀y0 y1 y2,LeO (law18_PlanWide.j0 k y0 y1 y2) (law18_PlanWide.j0 (k+1) y0 y1 y2))∧(∀y0 y1 y2 y3,LeO (law18_PlanWide.l0 k y0 y1 y2 y3) (law18_PlanWide.l0 (k+1) y0 y1 y2 y3))∧(∀y0 y1 y2,LeO (law18_PlanWide.j4 k y0 y1 y2) (law18_PlanWide.j4 (k+1) y0 y1 y2))∧(∀y0 y1 y2 y3 y4,LeO (law18_PlanWide.l2 k y0 y1 y2 y3 y4) (law18_PlanWide.l2 (k+1) y0 y1 y2 y3 y4))∧(∀y0 y1 y2 y3 y4 y5,LeO (law18_PlanWide.j6 k y0 y1 y2 y3 y4 y5) (law18_PlanWide.j6 (k+1) y0 y1 y2 y3 y4 y5))∧(∀y0 y1 y2 y3 y4,LeO (law18_PlanWide.l3 k y0 y1 y2 y3 y4) (law18_PlanWide.l3 (k+1) y0 y1 y2 y3 y4))∧(∀y0 y1 y2 y3,LeO (law18_PlanWide.l1 k y0 y1 y2 y3) (law18_PlanWide.l1 (k+1) y0 y1 y2 y3))∧(∀y0 y1 y2 y3 y4,LeO (law18_PlanWide.j3 k y0 y1 y2 y3 y4) (law18_PlanWide.j3 (k+1) y0 y1 y2 y3 y4))
 |0=>⟨fun _ _ _ r h=>by simp [law18_PlanWide.j0] at h,fun _ _ _ _ r h=>by simp [law18_PlanWide.l0] at h,fun _ _ _ r h=>by simp [law18_PlanWide.j4] at h,fun _ _ _ _ _ r h=>by simp [law18_PlanWide.l2] at h,fun _ _ _ _ _ _ r h=>by simp [law18_PlanWide.j6] at h,fun _ _ _ _ _ r h=>by simp [law18_PlanWide.l3] at h,fun _ _ _ _ r h=>by simp [law18_PlanWide.l1] at h,fun _ _ _ _ _ r h=>by simp [law18_PlanWide.j3] at h⟩
 |k+1=>by
  obtain ⟨ih0,ih1,ih2,ih3,ih4,ih5,ih6,ih7⟩:=law18_PlanWide.mono_l k
  refine ⟨?_, ?_, ?_, ?_, ?_, ?_, ?_, ?_⟩
  ·intro y0 y1 y2
   unfold law18_PlanWide.j0
   repeat' first
   |(with_reducible exact ih0 _ _ _)
   |(with_reducible exact ih1 _ _ _ _)
   |(with_reducible exact ih2 _ _ _)
   |(with_reducible exact ih3 _ _ _ _ _)
   |(with_reducible exact ih4 _ _ _ _ _ _)
   |(with_reducible exact ih5 _ _ _ _ _)
   |(with_reducible exact ih6 _ _ _ _)
   |(with_reducible exact ih7 _ _ _ _ _)
   |(with_reducible exact law11_Make.mono _ _ _)
   |(with_reducible exact law12_Make.mono _ _)
   |(with_reducible exact law18_Loose.mono _ _)
   |(with_reducible exact LeO.refl _)
   |(with_reducible exact LeO.none _)
   |(with_reducible refine LeO.ite ?_ ?_)
   |(with_reducible refine LeO.bind ?_ (fun _=> ?_))
   |exact ih0 _ _ _
   |exact ih1 _ _ _ _
   |exact ih2 _ _ _
   |exact ih3 _ _ _ _ _
   |exact ih4 _ _ _ _ _ _
   |exact ih5 _ _ _ _ _
   |exact ih6 _ _ _ _
   |exact ih7 _ _ _ _ _
   |exact law11_Make.mono _ _ _
   |exact law12_Make.mono _ _
   |exact law18_Loose.mono _ _
   |exact LeO.none _
   |refine LeO.ite ?_ ?_
   |refine LeO.bind ?_ (fun _=> ?_)
  ·intro y0 y1 y2 y3
   unfold law18_PlanWide.l0
   repeat' first
   |(with_reducible exact ih0 _ _ _)
   |(with_reducible exact ih1 _ _ _ _)
   |(with_reducible exact ih2 _ _ _)
   |(with_reducible exact ih3 _ _ _ _ _)
   |(with_reducible exact ih4 _ _ _ _ _ _)
   |(with_reducible exact ih5 _ _ _ _ _)
   |(with_reducible exact ih6 _ _ _ _)
   |(with_reducible exact ih7 _ _ _ _ _)
   |(with_reducible exact law11_Make.mono _ _ _)
   |(with_reducible exact law12_Make.mono _ _)
   |(with_reducible exact law18_Loose.mono _ _)
   |(with_reducible exact LeO.refl _)
   |(with_reducible exact LeO.none _)
   |(with_reducible refine LeO.ite ?_ ?_)
   |(with_reducible refine LeO.bind ?_ (fun _=> ?_))
   |exact ih0 _ _ _
   |exact ih1 _ _ _ _
   |exact ih2 _ _ _
   |exact ih3 _ _ _ _ _
   |exact ih4 _ _ _ _ _ _
   |exact ih5 _ _ _ _ _
   |exact ih6 _ _ _ _
   |exact ih7 _ _ _ _ _
   |exact law11_Make.mono _ _ _
   |exact law12_Make.mono _ _
   |exact law18_Loose.mono _ _
   |exact LeO.none _
   |refine LeO.ite ?_ ?_
   |refine LeO.bind ?_ (fun _=> ?_)
  ·intro y0 y1 y2
   unfold law18_PlanWide.j4
   repeat' first
   |(with_reducible exact ih0 _ _ _)
   |(with_reducible exact ih1 _ _ _ _)
   |(with_reducible exact ih2 _ _ _)
   |(with_reducible exact ih3 _ _ _ _ _)
   |(with_reducible exact ih4 _ _ _ _ _ _)
   |(with_reducible exact ih5 _ _ _ _ _)
   |(with_reducible exact ih6 _ _ _ _)
   |(with_reducible exact ih7 _ _ _ _ _)
   |(with_reducible exact law11_Make.mono _ _ _)
   |(with_reducible exact law12_Make.mono _ _)
   |(with_reducible exact law18_Loose.mono _ _)
   |(with_reducible exact LeO.refl _)
   |(with_reducible exact LeO.none _)
   |(with_reducible refine LeO.ite ?_ ?_)
   |(with_reducible refine LeO.bind ?_ (fun _=> ?_))
   |exact ih0 _ _ _
   |exact ih1 _ _ _ _
   |exact ih2 _ _ _
   |exact ih3 _ _ _ _ _
   |exact ih4 _ _ _ _ _ _
   |exact ih5 _ _ _ _ _
   |exact ih6 _ _ _ _
   |exact ih7 _ _ _ _ _
   |exact law11_Make.mono _ _ _
   |exact law12_Make.mono _ _
   |exact law18_Loose.mono _ _
   |exact LeO.none _
   |refine LeO.ite ?_ ?_
   |refine LeO.bind ?_ (fun _=> ?_)
  ·intro y0 y1 y2 y3 y4
   unfold law18_PlanWide.l2
   repeat' first
   |(with_reducible exact ih0 _ _ _)
   |(with_reducible exact ih1 _ _ _ _)
   |(with_reducible exact ih2 _ _ _)
   |(with_reducible exact ih3 _ _ _ _ _)
   |(with_reducible exact ih4 _ _ _ _ _ _)
   |(with_reducible exact ih5 _ _ _ _ _)
   |(with_reducible exact ih6 _ _ _ _)
   |(with_reducible exact ih7 _ _ _ _ _)
   |(with_reducible exact law11_Make.mono _ _ _)
   |(with_reducible exact law12_Make.mono _ _)
   |(with_reducible exact law18_Loose.mono _ _)
   |(with_reducible exact LeO.refl _)
   |(with_reducible exact LeO.none _)
   |(with_reducible refine LeO.ite ?_ ?_)
   |(with_reducible refine LeO.bind ?_ (fun _=> ?_))
   |exact ih0 _ _ _
   |exact ih1 _ _ _ _
   |exact ih2 _ _ _
   |exact ih3 _ _ _ _ _
   |exact ih4 _ _ _ _ _ _
   |exact ih5 _ _ _ _ _
   |exact ih6 _ _ _ _
   |exact ih7 _ _ _ _ _
   |exact law11_Make.mono _ _ _
   |exact law12_Make.mono _ _
   |exact law18_Loose.mono _ _
   |exact LeO.none _
   |refine LeO.ite ?_ ?_
   |refine LeO.bind ?_ (fun _=> ?_)
  ·intro y0 y1 y2 y3 y4 y5
   unfold law18_PlanWide.j6
   repeat' first
   |(with_reducible exact ih0 _ _ _)
   |(with_reducible exact ih1 _ _ _ _)
   |(with_reducible exact ih2 _ _ _)
   |(with_reducible exact ih3 _ _ _ _ _)
   |(with_reducible exact ih4 _ _ _ _ _ _)
   |(with_reducible exact ih5 _ _ _ _ _)
   |(with_reducible exact ih6 _ _ _ _)
   |(with_reducible exact ih7 _ _ _ _ _)
   |(with_reducible exact law11_Make.mono _ _ _)
   |(with_reducible exact law12_Make.mono _ _)
   |(with_reducible exact law18_Loose.mono _ _)
   |(with_reducible exact LeO.refl _)
   |(with_reducible exact LeO.none _)
   |(with_reducible refine LeO.ite ?_ ?_)
   |(with_reducible refine LeO.bind ?_ (fun _=> ?_))
   |exact ih0 _ _ _
   |exact ih1 _ _ _ _
   |exact ih2 _ _ _
   |exact ih3 _ _ _ _ _
   |exact ih4 _ _ _ _ _ _
   |exact ih5 _ _ _ _ _
   |exact ih6 _ _ _ _
   |exact ih7 _ _ _ _ _
   |exact law11_Make.mono _ _ _
   |exact law12_Make.mono _ _
   |exact law18_Loose.mono _ _
   |exact LeO.none _
   |refine LeO.ite ?_ ?_
   |refine LeO.bind ?_ (fun _=> ?_)
  ·intro y0 y1 y2 y3 y4
   unfold law18_PlanWide.l3
   repeat' first
   |(with_reducible exact ih0 _ _ _)
   |(with_reducible exact ih1 _ _ _ _)
   |(with_reducible exact ih2 _ _ _)
   |(with_reducible exact ih3 _ _ _ _ _)
   |(with_reducible exact ih4 _ _ _ _ _ _)
   |(with_reducible exact ih5 _ _ _ _ _)
   |(with_reducible exact ih6 _ _ _ _)
   |(with_reducible exact ih7 _ _ _ _ _)
   |(with_reducible exact law11_Make.mono _ _ _)
   |(with_reducible exact law12_Make.mono _ _)
   |(with_reducible exact law18_Loose.mono _ _)
   |(with_reducible exact LeO.refl _)
   |(with_reducible exact LeO.none _)
   |(with_reducible refine LeO.ite ?_ ?_)
   |(with_reducible refine LeO.bind ?_ (fun _=> ?_))
   |exact ih0 _ _ _
   |exact ih1 _ _ _ _
   |exact ih2 _ _ _
   |exact ih3 _ _ _ _ _
   |exact ih4 _ _ _ _ _ _
   |exact ih5 _ _ _ _ _
   |exact ih6 _ _ _ _
   |exact ih7 _ _ _ _ _
   |exact law11_Make.mono _ _ _
   |exact law12_Make.mono _ _
   |exact law18_Loose.mono _ _
   |exact LeO.none _
   |refine LeO.ite ?_ ?_
   |refine LeO.bind ?_ (fun _=> ?_)
  ·intro y0 y1 y2 y3
   unfold law18_PlanWide.l1
   repeat' first
   |(with_reducible exact ih0 _ _ _)
   |(with_reducible exact ih1 _ _ _ _)
   |(with_reducible exact ih2 _ _ _)
   |(with_reducible exact ih3 _ _ _ _ _)
   |(with_reducible exact ih4 _ _ _ _ _ _)
   |(with_reducible exact ih5 _ _ _ _ _)
   |(with_reducible exact ih6 _ _ _ _)
   |(with_reducible exact ih7 _ _ _ _ _)
   |(with_reducible exact law11_Make.mono _ _ _)
   |(with_reducible exact law12_Make.mono _ _)
   |(with_reducible exact law18_Loose.mono _ _)
   |(with_reducible exact LeO.refl _)
   |(with_reducible exact LeO.none _)
   |(with_reducible refine LeO.ite ?_ ?_)
   |(with_reducible refine LeO.bind ?_ (fun _=> ?_))
   |exact ih0 _ _ _
   |exact ih1 _ _ _ _
   |exact ih2 _ _ _
   |exact ih3 _ _ _ _ _
   |exact ih4 _ _ _ _ _ _
   |exact ih5 _ _ _ _ _
   |exact ih6 _ _ _ _
   |exact ih7 _ _ _ _ _
   |exact law11_Make.mono _ _ _
   |exact law12_Make.mono _ _
   |exact law18_Loose.mono _ _
   |exact LeO.none _
   |refine LeO.ite ?_ ?_
   |refine LeO.bind ?_ (fun _=> ?_)
  intro y0 y1 y2 y3 y4
  unfold law18_PlanWide.j3
  repeat' first
  |(with_reducible exact ih0 _ _ _)
  |(with_reducible exact ih1 _ _ _ _)
  |(with_reducible exact ih2 _ _ _)
  |(with_reducible exact ih3 _ _ _ _ _)
  |(with_reducible exact ih4 _ _ _ _ _ _)
  |(with_reducible exact ih5 _ _ _ _ _)
  |(with_reducible exact ih6 _ _ _ _)
  |(with_reducible exact ih7 _ _ _ _ _)
  |(with_reducible exact law11_Make.mono _ _ _)
  |(with_reducible exact law12_Make.mono _ _)
  |(with_reducible exact law18_Loose.mono _ _)
  |(with_reducible exact LeO.refl _)
  |(with_reducible exact LeO.none _)
  |(with_reducible refine LeO.ite ?_ ?_)
  |(with_reducible refine LeO.bind ?_ (fun _=> ?_))
  |exact ih0 _ _ _
  |exact ih1 _ _ _ _
  |exact ih2 _ _ _
  |exact ih3 _ _ _ _ _
  |exact ih4 _ _ _ _ _ _
  |exact ih5 _ _ _ _ _
  |exact ih6 _ _ _ _
  |exact ih7 _ _ _ _ _
  |exact law11_Make.mono _ _ _
  |exact law12_Make.mono _ _
  |exact law18_Loose.mono _ _
  |exact LeO.none _
  |refine LeO.ite ?_ ?_
  |refine LeO.bind ?_ (fun _=> ?_)
theorem law18_PlanWide.mono: ∀a0 a1 k,LeO (law18_PlanWide.f k a0 a1) (law18_PlanWide.f (k+1) a0 a1):=by
 intro a0 a1 k
 obtain ⟨ih0,ih1,ih2,ih3,ih4,ih5,ih6,ih7⟩:=law18_PlanWide.mono_l k
 unfold law18_PlanWide.f
 repeat' first
  |(with_reducible exact ih0 _ _ _)
  |(with_reducible exact ih1 _ _ _ _)
  |(with_reducible exact ih2 _ _ _)
  |(with_reducible exact ih3 _ _ _ _ _)
  |(with_reducible exact ih4 _ _ _ _ _ _)
  |(with_reducible exact ih5 _ _ _ _ _)
  |(with_reducible exact ih6 _ _ _ _)
  |(with_reducible exact ih7 _ _ _ _ _)
  |(with_reducible exact law11_Make.mono _ _ _)
  |(with_reducible exact law12_Make.mono _ _)
  |(with_reducible exact law18_Loose.mono _ _)
  |(with_reducible exact LeO.refl _)
  |(with_reducible exact LeO.none _)
  |(with_reducible refine LeO.ite ?_ ?_)
  |(with_reducible refine LeO.bind ?_ (fun _=> ?_))
  |exact ih0 _ _ _
  |exact ih1 _ _ _ _
  |exact ih2 _ _ _
  |exact ih3 _ _ _ _ _
  |exact ih4 _ _ _ _ _ _
  |exact ih5 _ _ _ _ _
  |exact ih6 _ _ _ _
  |exact ih7 _ _ _ _ _
  |exact law11_Make.mono _ _ _
  |exact law12_Make.mono _ _
  |exact law18_Loose.mono _ _
  |exact LeO.none _
  |refine LeO.ite ?_ ?_
  |refine LeO.bind ?_ (fun _=> ?_)
set_option maxHeartbeats 8000000 in
set_option maxRecDepth 100000 in
theorem law18_PlanWide.calls (k:Nat) (A0:Option Addr) (c0:Nat) (l0:List Int) (A1:Option Addr) (c1:Nat) (l1:List Int) (r:Bool) (w:World) (hr0:Kd.C (Kd.int .u8) w A0 l0.length l0) (hc0:l0.length≤c0) (hr1:Kd.C (Kd.int .u8) w A1 l1.length l1) (hc1:l1.length≤c1) (h:law18_PlanWide.f k l0 l1=some r):
  Calls Try.prog 17 #[.slice A0 l0.length c0, .slice A1 l1.length c1] w fun e w'=>e= .returned (.bool r)∧Below w.heap.size w w':=by
 have hu37:=Try.underlying37
 have HR0:=Aside0.mk hr0
 have HC0:=Aside0.mk hc0
 clear hr0 hc0
 have HR1:=Aside0.mk hr1
 have HC1:=Aside0.mk hc1
 clear hr1 hc1
 have HB:=am_ (Below.refl w.heap.size w)
 have H:(if (l0.length:Int)>60 then (law18_PlanWide.j0 k l0 l1 true) else (law18_PlanWide.j0 k l0 l1 (decide ((l1.length:Int)>60))))=some r:=h
 clear h
 have HC3:=Aside0.mk H
 clear H
 go_enter Try.func17,Try.ntmps17
 go_upto_region 1 with (fail)
 go_cut [23] (fun v23 wc=> ∃(kq:Nat) (x23_2:Bool),v23= .bool x23_2∧Aside0 (law18_PlanWide.j0 kq l0 l1 x23_2=some r)∧Aside0 (kq≤k)∧Aside0 (Below w.heap.size w wc))
 case first=>
  have H:=HC3.out
  clear HC3
  by_cases c4:(l0.length:Int)>60
  ·rw [if_pos c4] at H
   have c4b0:decide (60<(l0.length:Int))=true:=decide_eq_true c4
   have c4b1:decide (60<l0.length)=true:=decide_eq_true (by omega)
   clear c4
   (first|rw [c4b0]|(simp only [i64_w,i32_w];rw [c4b0])|skip)
   have H':=Aside0.mk H
   clear H
   go_wp2
   go_meet
   case rel=>exact ⟨_,(true),(by first|rfl|(simp;done)|(simp [*];done)),H',⟨by first|omega|exact Nat.le_refl _⟩,⟨zl0_ HB⟩⟩
  rw [if_neg c4] at H
  have c4b0:decide (60<(l0.length:Int))=false:=decide_eq_false c4
  have c4b1:decide (60<l0.length)=false:=decide_eq_false (by omega)
  clear c4
  (first|rw [c4b0]|(simp only [i64_w,i32_w];rw [c4b0])|skip)
  have H':=Aside0.mk H
  clear H
  go_wp2
  go_meet
  case rel=>exact ⟨_,(decide ((l1.length:Int)>60)),(by first|rfl|(simp;done)|(simp [*];done)),H',⟨by first|omega|exact Nat.le_refl _⟩,⟨zl0_ HB⟩⟩
 case rest=>
  clear HC3
  try clear c1
  try clear p2
  try clear c4
  try clear c4b0
  try clear c4b1
  obtain ⟨kq,x23_2,rfl,HA,HJ2,HB⟩:=hcut
  cases kq with
  |zero=>exact absurd HA.out (by simp [law18_PlanWide.j0])
  |succ kj2=>
   have H:=HA.out
   clear HA
   simp only [law18_PlanWide.j0] at H
   by_cases c5:x23_2=true
   ·subst c5
    have H1:((law18_awake.f).bind fun t1=>(some t1))=some r:=by rw [if_pos rfl] at H;exact H
    clear H
    have H:=H1
    clear H1
    replace H:=Option.bind_eq_some_iff.mp H
    obtain ⟨t1,A60,H⟩:=H
    try dsimp only at H
    have A6:=Aside0.mk A60
    clear A60
    obtain rfl:=Option.some.inj H
    go_wp2_with (first|((with_reducible refine gate_callee (f:=47) rfl ?_);refine gl_ (some 24) Try.func47 #[] ?_;(with_reducible refine (law18_awake.calls t1 _ A6.out).mono ?_);rintro e w7 ⟨rfl,hb⟩;refine ⟨_,rfl, ?_⟩;replace HB:=am_ (below_step (zl0_ HB) hb);(try clear hb);(try clear hb2);(try clear hk);(try clear hi)))
    go_ret
    exact ⟨by first|rfl|(simp [errW_none,errW_some]<;>rfl)|(simp [*,errW_none,errW_some]<;>rfl),zl0_ HB⟩
   replace c5:=Bool.eq_false_iff.mpr c5
   subst c5
   have H1:((law12_Make.f kj2 l0).bind fun t2=>((law11_Make.f kj2 l1 false).bind fun t5=>((law18_Loose.f kj2 t2).bind fun t8=>((plan_Steps.f t5 t8 t2).bind fun bt11=>((law1_Num.f bt11.2).bind fun t15=>(if t15=0 then (law18_PlanWide.l0 kj2 t5 bt11.1 0 0) else (some false)))))))=some r:=by rw [if_neg (show¬(false=true) by decide)] at H;exact H
   clear H
   have H:=H1
   clear H1
   replace H:=Option.bind_eq_some_iff.mp H
   obtain ⟨t2,A80,H⟩:=H
   try dsimp only at H
   have A8:=Aside0.mk A80
   clear A80
   replace H:=Option.bind_eq_some_iff.mp H
   obtain ⟨t5,A90,H⟩:=H
   try dsimp only at H
   have A9:=Aside0.mk A90
   clear A90
   replace H:=Option.bind_eq_some_iff.mp H
   obtain ⟨t8,A100,H⟩:=H
   try dsimp only at H
   have A10:=Aside0.mk A100
   clear A100
   replace H:=Option.bind_eq_some_iff.mp H
   obtain ⟨⟨t11,t12⟩,A110,H⟩:=H
   try dsimp only at H
   have A11:=Aside0.mk A110
   clear A110
   replace H:=Option.bind_eq_some_iff.mp H
   obtain ⟨t15,A120,H⟩:=H
   try dsimp only at H
   have A12:=Aside0.mk A120
   clear A120
   by_cases c13:t15=0
   rotate_left
   ·rw [if_neg c13] at H
    have c13b0:(t15==0)=false:=beq_eq_false_iff_ne.mpr c13
    have c13b1:(t15 !=0)=true:=bne_iff_ne.mpr c13
    obtain rfl:=Option.some.inj H
    go_wp2_with (first|((with_reducible refine gate_callee (f:=38) rfl ?_);refine gl_ (some 26) Try.func38 #[.slice A0 l0.length c0] ?_;(with_reducible refine (law12_Make.calls kj2 _ _ l0 t2 _ ?side1 ?side2 A8.out).mono ?_);(case side1=>exact zc_ (Kd.C_below HR0.out HB.out));(case side2=>exact HC0.out);rintro e w63 ⟨v3,rfl,ho0,hb⟩;refine ⟨_,rfl, ?_⟩;have HO4:=am_ (Kd.R_lower ho0 (below_size (zl0_ HB)));replace HB:=am_ (below_step (zl0_ HB) hb);(try clear hb);(try clear hb2);(try clear hk);(try clear hi);(try clear ho0))|((with_reducible refine gate_callee (f:=32) rfl ?_);refine gl_ (some 28) Try.func32 #[.slice A1 l1.length c1, .bool false] ?_;(with_reducible refine (law11_Make.calls kj2 _ _ l1 false t5 _ ?side1 ?side2 A9.out).mono ?_);(case side1=>exact zc_ (Kd.C_below HR1.out HB.out));(case side2=>exact HC1.out);rintro e w64 ⟨v6,rfl,ho0,hb⟩;refine ⟨_,rfl, ?_⟩;replace HO4:=am_ (Kd.R_below (zr_ HO4) hb);have HO7:=am_ (Kd.R_lower ho0 (below_size (zl0_ HB)));replace HB:=am_ (below_step (zl0_ HB) hb);(try clear hb);(try clear hb2);(try clear hk);(try clear hi);(try clear ho0);obtain ⟨Ao65,co65,eo65⟩:=Kd.R_slice HO4.out;subst eo65)|((with_reducible refine gate_callee (f:=40) rfl ?_);refine gl_ (some 32) Try.func40 #[.slice Ao65 t2.length co65] ?_;(with_reducible refine (law18_Loose.calls kj2 _ _ t2 t8 _ ?side1 ?side2 A10.out).mono ?_);(case side1=>exact zc_ (Kd.R_reads' HO4.out).2.2);(case side2=>exact (Kd.R_reads' HO4.out).2.1);rintro e w66 ⟨v9,rfl,ho0,hb⟩;refine ⟨_,rfl, ?_⟩;replace HO4:=am_ (Kd.R_below (zr_ HO4) hb);replace HO7:=am_ (Kd.R_below (zr_ HO7) hb);have HO10:=am_ (Kd.R_lower ho0 (below_size (zl0_ HB)));replace HB:=am_ (below_step (zl0_ HB) hb);(try clear hb);(try clear hb2);(try clear hk);(try clear hi);(try clear ho0);obtain ⟨Ao67,co67,eo67⟩:=Kd.R_slice HO7.out;subst eo67;obtain ⟨Ao68,co68,eo68⟩:=Kd.R_slice HO10.out;subst eo68)|((with_reducible refine gate_callee (f:=48) rfl ?_);refine gl_ (some 34) Try.func48 #[.slice Ao67 t5.length co67, .slice Ao68 t8.length co68, .slice Ao65 t2.length co65] ?_;(with_reducible refine (plan_Steps.calls _ _ t5 _ _ t8 _ _ t2 t11 t12 _ ?side1 ?side2 ?side3 ?side4 ?side5 ?side6 A11.out).mono ?_);(case side1=>exact zc_ (Kd.R_reads' HO7.out).2.2);(case side2=>exact (Kd.R_reads' HO7.out).2.1);(case side3=>exact zc_ (Kd.R_reads' HO10.out).2.2);(case side4=>exact (Kd.R_reads' HO10.out).2.1);(case side5=>exact zc_ (Kd.R_reads' HO4.out).2.2);(case side6=>exact (Kd.R_reads' HO4.out).2.1);rintro e w69 ⟨v13,rfl,ho0,hb⟩;refine ⟨_,rfl, ?_⟩;replace HO4:=am_ (Kd.R_below (zr_ HO4) hb);replace HO7:=am_ (Kd.R_below (zr_ HO7) hb);replace HO10:=am_ (Kd.R_below (zr_ HO10) hb);have HO14:=am_ (Kd.R_lower ho0 (below_size (zl0_ HB)));replace HB:=am_ (below_step (zl0_ HB) hb);(try clear hb);(try clear hb2);(try clear hk);(try clear hi);(try clear ho0))|((with_reducible refine gate_callee (f:=25) rfl ?_);refine gl_ (some 38) Try.func25 #[.int .i64 t12] ?_;(with_reducible refine (law1_Num.calls t12 t15 _ A12.out).mono ?_);rintro e w' ⟨rfl,⟨nd,rfl⟩⟩;refine ⟨_,rfl, ?_⟩))
    go_ret
    exact ⟨by first|rfl|(simp [errW_none,errW_some]<;>rfl)|(simp [*,errW_none,errW_some]<;>rfl),zl0_ HB⟩

   rw [if_pos c13] at H
   have c13b0:(t15==0)=true:=beq_iff_eq.mpr c13
   have c13b1:(t15 !=0)=false:=bne_eq_false_iff_eq.mpr c13
   clear c13
   have H':=Aside0.mk H
   clear H
   go_wp2_with (first|((with_reducible refine gate_callee (f:=38) rfl ?_);refine gl_ (some 26) Try.func38 #[.slice A0 l0.length c0] ?_;(with_reducible refine (law12_Make.calls kj2 _ _ l0 t2 _ ?side1 ?side2 A8.out).mono ?_);(case side1=>exact zc_ (Kd.C_below HR0.out HB.out));(case side2=>exact HC0.out);rintro e w14 ⟨v3,rfl,ho0,hb⟩;refine ⟨_,rfl, ?_⟩;have HO4:=am_ (Kd.R_lower ho0 (below_size (zl0_ HB)));replace HB:=am_ (below_step (zl0_ HB) hb);(try clear hb);(try clear hb2);(try clear hk);(try clear hi);(try clear ho0))|((with_reducible refine gate_callee (f:=32) rfl ?_);refine gl_ (some 28) Try.func32 #[.slice A1 l1.length c1, .bool false] ?_;(with_reducible refine (law11_Make.calls kj2 _ _ l1 false t5 _ ?side1 ?side2 A9.out).mono ?_);(case side1=>exact zc_ (Kd.C_below HR1.out HB.out));(case side2=>exact HC1.out);rintro e w15 ⟨v6,rfl,ho0,hb⟩;refine ⟨_,rfl, ?_⟩;replace HO4:=am_ (Kd.R_below (zr_ HO4) hb);have HO7:=am_ (Kd.R_lower ho0 (below_size (zl0_ HB)));replace HB:=am_ (below_step (zl0_ HB) hb);(try clear hb);(try clear hb2);(try clear hk);(try clear hi);(try clear ho0);obtain ⟨Ao16,co16,eo16⟩:=Kd.R_slice HO4.out;subst eo16)|((with_reducible refine gate_callee (f:=40) rfl ?_);refine gl_ (some 32) Try.func40 #[.slice Ao16 t2.length co16] ?_;(with_reducible refine (law18_Loose.calls kj2 _ _ t2 t8 _ ?side1 ?side2 A10.out).mono ?_);(case side1=>exact zc_ (Kd.R_reads' HO4.out).2.2);(case side2=>exact (Kd.R_reads' HO4.out).2.1);rintro e w17 ⟨v9,rfl,ho0,hb⟩;refine ⟨_,rfl, ?_⟩;replace HO4:=am_ (Kd.R_below (zr_ HO4) hb);replace HO7:=am_ (Kd.R_below (zr_ HO7) hb);have HO10:=am_ (Kd.R_lower ho0 (below_size (zl0_ HB)));replace HB:=am_ (below_step (zl0_ HB) hb);(try clear hb);(try clear hb2);(try clear hk);(try clear hi);(try clear ho0);obtain ⟨Ao18,co18,eo18⟩:=Kd.R_slice HO7.out;subst eo18;obtain ⟨Ao19,co19,eo19⟩:=Kd.R_slice HO10.out;subst eo19)|((with_reducible refine gate_callee (f:=48) rfl ?_);refine gl_ (some 34) Try.func48 #[.slice Ao18 t5.length co18, .slice Ao19 t8.length co19, .slice Ao16 t2.length co16] ?_;(with_reducible refine (plan_Steps.calls _ _ t5 _ _ t8 _ _ t2 t11 t12 _ ?side1 ?side2 ?side3 ?side4 ?side5 ?side6 A11.out).mono ?_);(case side1=>exact zc_ (Kd.R_reads' HO7.out).2.2);(case side2=>exact (Kd.R_reads' HO7.out).2.1);(case side3=>exact zc_ (Kd.R_reads' HO10.out).2.2);(case side4=>exact (Kd.R_reads' HO10.out).2.1);(case side5=>exact zc_ (Kd.R_reads' HO4.out).2.2);(case side6=>exact (Kd.R_reads' HO4.out).2.1);rintro e w20 ⟨v13,rfl,ho0,hb⟩;refine ⟨_,rfl, ?_⟩;replace HO4:=am_ (Kd.R_below (zr_ HO4) hb);replace HO7:=am_ (Kd.R_below (zr_ HO7) hb);replace HO10:=am_ (Kd.R_below (zr_ HO10) hb);have HO14:=am_ (Kd.R_lower ho0 (below_size (zl0_ HB)));replace HB:=am_ (below_step (zl0_ HB) hb);(try clear hb);(try clear hb2);(try clear hk);(try clear hi);(try clear ho0))|((with_reducible refine gate_callee (f:=25) rfl ?_);refine gl_ (some 38) Try.func25 #[.int .i64 t12] ?_;(with_reducible refine (law1_Num.calls t12 t15 _ A12.out).mono ?_);rintro e w' ⟨rfl,⟨nd,rfl⟩⟩;refine ⟨_,rfl, ?_⟩))
   go_loopg [9,10] kj2 (fun kq v9 v10 w'=> ∃(x9_2:Int) (x10_2:Int),v9= .int .i64 x9_2∧v10= .int .i64 x10_2∧Aside0 (law18_PlanWide.l0 kq t5 t11 x9_2 x10_2=some r)∧Aside0 (kq≤kj2)∧Aside0 (Kd.R k39 39 w' w.heap.size (fun _=>True) (.slice Ao18 t5.length co18) t5)∧Aside0 (Kd.R k76 76 w' w.heap.size (fun _=>True) v13 t11)∧Aside0 (Below w.heap.size w w'))
   case atStart=>exact ⟨(0),(0),(by first|rfl|(simp;done)|(simp [*];done)),(by first|rfl|(simp;done)|(simp [*];done)),H',⟨Nat.le_refl _⟩,⟨by (with_reducible repeat (first|apply Kd.R_alloc|apply Kd.R_drewN|apply Kd.R_drew));exact HO7.out⟩,⟨by (with_reducible repeat (first|apply Kd.R_alloc|apply Kd.R_drewN|apply Kd.R_drew));exact HO14.out⟩,⟨zl0_ HB⟩⟩
   case round=>
    clear H'
    try clear c1
    try clear c2
    try clear p2
    try clear c3
    try clear c4
    try clear c4b0
    try clear c4b1
    try clear c5
    try clear c13
    try clear c13b0
    try clear c13b1
    try clear c17
    try clear p2
    obtain ⟨x9_2,x10_2,rfl,rfl,HA,HK2,HO_6,HO_7,HB⟩:=hrel
    cases gk with
    |zero=>exact absurd HA.out (by simp [law18_PlanWide.l0])
    |succ k2=>
     have H:=HA.out
     clear HA
     simp only [law18_PlanWide.l0] at H
     by_cases c21:x10_2<(t11.length:Int)
     ·rw [if_pos c21] at H
      have c21b0:decide (x10_2<(t11.length:Int))=true:=decide_eq_true c21
      clear c21
      by_cases c22:0≤x10_2
      rotate_left
      ·rw [if_neg c22] at H
       exact absurd H (by simp)
      rw [if_pos c22] at H
      have c22b0:decide (0≤x10_2)=true:=decide_eq_true c22
      clear c22
      by_cases c23:((rd_T76 t11 x10_2).f0)=3
      ·rw [if_pos c23] at H
       have c23b0:(((rd_T76 t11 x10_2).f0)==3)=true:=beq_iff_eq.mpr c23
       have c23b1:(((rd_T76 t11 x10_2).f0) !=3)=false:=bne_eq_false_iff_eq.mpr c23
       clear c23
       have H':=Aside0.mk H
       clear H
       obtain ⟨Ao24,co24,eo24⟩:=Kd.R_slice HO_7.out
       subst eo24
       have p16:0≤(x10_2:Int):=of_decide_eq_true zq_
       have q16:x10_2<(t11.length:Int):=of_decide_eq_true zq_
       obtain ⟨ad16,e16,hx16_0,hx16_1,hx16_2,hx16_3,hx16_4,hx16_5⟩:=at_T76 (Kd.R_reads' HO_7.out).2.2 x10_2 p16 q16
       cases e16
       replace p16:=eq_true p16
       replace q16:=eq_true q16
       go_wp2
       go_roundg k2
       case measure=>have:=HJ2.out;have:=HK2.out;omega
       case rel=>exact ⟨(wrap64 (x9_2+1)),(wrap64 (x10_2+1)),(by first|rfl|(simp;done)|(simp [*];done)),(by first|rfl|(simp;done)|(simp [*];done)),H',⟨by have:=HJ2.out;have:=HK2.out;omega⟩,⟨by (with_reducible repeat (first|apply Kd.R_alloc|apply Kd.R_drewN|apply Kd.R_drew));exact HO_6.out⟩,⟨by (with_reducible repeat (first|apply Kd.R_alloc|apply Kd.R_drewN|apply Kd.R_drew));exact HO_7.out⟩,⟨zl0_ HB⟩⟩
      rw [if_neg c23] at H
      have c23b0:(((rd_T76 t11 x10_2).f0)==3)=false:=beq_eq_false_iff_ne.mpr c23
      have c23b1:(((rd_T76 t11 x10_2).f0) !=3)=true:=bne_iff_ne.mpr c23
      have H':=Aside0.mk H
      clear H
      obtain ⟨Ao25,co25,eo25⟩:=Kd.R_slice HO_7.out
      subst eo25
      have p16:0≤(x10_2:Int):=of_decide_eq_true zq_
      have q16:x10_2<(t11.length:Int):=of_decide_eq_true zq_
      obtain ⟨ad16,e16,hx16_0,hx16_1,hx16_2,hx16_3,hx16_4,hx16_5⟩:=at_T76 (Kd.R_reads' HO_7.out).2.2 x10_2 p16 q16
      cases e16
      replace p16:=eq_true p16
      replace q16:=eq_true q16
      go_wp2
      go_roundg k2
      case measure=>have:=HJ2.out;have:=HK2.out;omega
      case rel=>exact ⟨(x9_2),(wrap64 (x10_2+1)),(by first|rfl|(simp;done)|(simp [*];done)),(by first|rfl|(simp;done)|(simp [*];done)),H',⟨by have:=HJ2.out;have:=HK2.out;omega⟩,⟨by (with_reducible repeat (first|apply Kd.R_alloc|apply Kd.R_drewN|apply Kd.R_drew));exact HO_6.out⟩,⟨by (with_reducible repeat (first|apply Kd.R_alloc|apply Kd.R_drewN|apply Kd.R_drew));exact HO_7.out⟩,⟨zl0_ HB⟩⟩
     rw [if_neg c21] at H
     have c21b0:decide (x10_2<(t11.length:Int))=false:=decide_eq_false c21
     clear c21
     have HC26:=Aside0.mk H
     clear H
     obtain ⟨Ao27,co27,eo27⟩:=Kd.R_slice HO_7.out
     subst eo27
     go_upto_block 2 with (fail)
     go_cut [] (fun wc=> ∃(kq:Nat),Aside0 (law18_PlanWide.j4 kq t5 t11 x9_2=some r)∧Aside0 (kq≤k2)∧Aside0 (Kd.R k39 39 wc w.heap.size (fun _=>True) (.slice Ao18 t5.length co18) t5)∧Aside0 (Kd.R k76 76 wc w.heap.size (fun _=>True) (.slice Ao27 t11.length co27) t11)∧Aside0 (Below w.heap.size w wc))
     case first=>
      have H:=HC26.out
      clear HC26
      have H':=Aside0.mk H
      clear H
      go_wp2
      go_loopg [11] k2 (fun kq v11 w'=> ∃(x11_3:Int),v11= .int .i64 x11_3∧Aside0 (law18_PlanWide.l1 kq t5 t11 x9_2 x11_3=some r)∧Aside0 (kq≤k2)∧Aside0 (Kd.R k39 39 w' w.heap.size (fun _=>True) (.slice Ao18 t5.length co18) t5)∧Aside0 (Kd.R k76 76 w' w.heap.size (fun _=>True) (.slice Ao27 t11.length co27) t11)∧Aside0 (Below w.heap.size w w'))
      case atStart=>exact ⟨(0),(by first|rfl|(simp;done)|(simp [*];done)),H',⟨Nat.le_refl _⟩,⟨by (with_reducible repeat (first|apply Kd.R_alloc|apply Kd.R_drewN|apply Kd.R_drew));exact HO_6.out⟩,⟨by (with_reducible repeat (first|apply Kd.R_alloc|apply Kd.R_drewN|apply Kd.R_drew));exact HO_7.out⟩,⟨zl0_ HB⟩⟩
      case round=>
       clear H'
       try clear c1
       try clear p1
       try clear q1
       try clear hx1
       try clear c2
       try clear p2
       try clear c3
       try clear c4
       try clear c4b0
       try clear c4b1
       try clear c5
       try clear p6
       try clear c13
       try clear c13b0
       try clear c13b1
       try clear p16
       try clear q16
       try clear hx16
       try clear c17
       try clear c21
       try clear c21b0
       try clear c22
       try clear c22b0
       try clear c23
       try clear c23b0
       try clear c23b1
       try clear c25
       try clear hx16_0
       try clear hx16_1
       try clear hx16_2
       try clear hx16_3
       try clear hx16_4
       try clear hx16_5
       try clear p16
       try clear p2
       try clear q16
       obtain ⟨x11_3,rfl,HA,HK3,HO_6,HO_7,HB⟩:=hrel
       cases gk with
       |zero=>exact absurd HA.out (by simp [law18_PlanWide.l1])
       |succ k3=>
        have H:=HA.out
        clear HA
        simp only [law18_PlanWide.l1] at H
        have HC28:=Aside0.mk H
        clear H
        go_upto_region 15 with (fail)
        go_cut [61] (fun v61 wc=> ∃(kq:Nat) (x61_27:Bool),v61= .bool x61_27∧Aside0 (law18_PlanWide.j3 kq t5 t11 x9_2 x11_3 x61_27=some r)∧Aside0 (kq≤k3)∧Aside0 (Kd.R k39 39 wc w.heap.size (fun _=>True) (.slice Ao18 t5.length co18) t5)∧Aside0 (Kd.R k76 76 wc w.heap.size (fun _=>True) (.slice Ao27 t11.length co27) t11)∧Aside0 (Below w.heap.size w wc))
        case first=>
         have H:=HC28.out
         clear HC28
         by_cases c29:x11_3<(t11.length:Int)
         ·rw [if_pos c29] at H
          have c29b0:decide (x11_3<(t11.length:Int))=true:=decide_eq_true c29
          clear c29
          (first|rw [c29b0]|(simp only [i64_w,i32_w];rw [c29b0])|skip)
          have H':=Aside0.mk H
          clear H
          go_wp2
          go_meet
          case rel=>exact ⟨_,(decide (x9_2>0)),(by first|rfl|(simp;done)|(simp [*];done)),H',⟨by have:=HJ2.out;have:=HK2.out;have:=HK3.out;first|omega|exact Nat.le_refl _⟩,⟨by (with_reducible repeat (first|apply Kd.R_alloc|apply Kd.R_drewN|apply Kd.R_drew));exact HO_6.out⟩,⟨by (with_reducible repeat (first|apply Kd.R_alloc|apply Kd.R_drewN|apply Kd.R_drew));exact HO_7.out⟩,⟨zl0_ HB⟩⟩
         rw [if_neg c29] at H
         have c29b0:decide (x11_3<(t11.length:Int))=false:=decide_eq_false c29
         clear c29
         (first|rw [c29b0]|(simp only [i64_w,i32_w];rw [c29b0])|skip)
         have H':=Aside0.mk H
         clear H
         go_wp2
         go_meet
         case rel=>exact ⟨_,(false),(by first|rfl|(simp;done)|(simp [*];done)),H',⟨by have:=HJ2.out;have:=HK2.out;have:=HK3.out;first|omega|exact Nat.le_refl _⟩,⟨by (with_reducible repeat (first|apply Kd.R_alloc|apply Kd.R_drewN|apply Kd.R_drew));exact HO_6.out⟩,⟨by (with_reducible repeat (first|apply Kd.R_alloc|apply Kd.R_drewN|apply Kd.R_drew));exact HO_7.out⟩,⟨zl0_ HB⟩⟩
        case rest=>
         clear HC28
         try clear c1
         try clear p1
         try clear q1
         try clear hx1
         try clear c2
         try clear p2
         try clear c3
         try clear c4
         try clear c4b0
         try clear c4b1
         try clear c5
         try clear p6
         try clear c13
         try clear c13b0
         try clear c13b1
         try clear p16
         try clear q16
         try clear hx16
         try clear c17
         try clear c21
         try clear c21b0
         try clear c22
         try clear c22b0
         try clear c23
         try clear c23b0
         try clear c23b1
         try clear c25
         try clear c29
         try clear c29b0
         try clear hx16_0
         try clear hx16_1
         try clear hx16_2
         try clear hx16_3
         try clear hx16_4
         try clear hx16_5
         try clear p1
         try clear p16
         try clear p2
         try clear p6
         try clear q1
         try clear q16
         obtain ⟨kq,x61_27,rfl,HA,HJ27,HO_6,HO_7,HB⟩:=hcut
         cases kq with
         |zero=>exact absurd HA.out (by simp [law18_PlanWide.j3])
         |succ kj27=>
          have H:=HA.out
          clear HA
          simp only [law18_PlanWide.j3] at H
          by_cases c30:x61_27=true
          rotate_left
          ·replace c30:=Bool.eq_false_iff.mpr c30
           subst c30
           have H1:(law18_PlanWide.j4 kj27 t5 t11 x9_2)=some r:=by rw [if_neg (show¬(false=true) by decide)] at H;exact H
           clear H
           have H:=H1
           clear H1
           have H':=Aside0.mk H
           clear H
           go_wp2
           go_meet
           case rel=>exact ⟨_,H',⟨by have:=HJ2.out;have:=HK2.out;have:=HK3.out;have:=HJ27.out;first|omega|exact Nat.le_refl _⟩,⟨by (with_reducible repeat (first|apply Kd.R_alloc|apply Kd.R_drewN|apply Kd.R_drew));exact HO_6.out⟩,⟨by (with_reducible repeat (first|apply Kd.R_alloc|apply Kd.R_drewN|apply Kd.R_drew));exact HO_7.out⟩,⟨zl0_ HB⟩⟩
          subst c30
          have H1:(if 0≤x11_3 then (if x11_3<(t11.length:Int) then (if ((rd_T76 t11 x11_3).f0)=3 then (law18_PlanWide.j4 kj27 t5 t11 x9_2) else ((r10_Most.f).bind fun bt19=>(if (!(((rd_T76 t11 x11_3).f3.f0)==bt19.1)||(!(((rd_T76 t11 x11_3).f3.f1)==bt19.2.1)||(!(((rd_T76 t11 x11_3).f3.f2)==bt19.2.2))))=true then (some false) else (law18_PlanWide.l1 kj27 t5 t11 x9_2 (wrap64 (x11_3+1)))))) else (none)) else (none))=some r:=by rw [if_pos rfl] at H;exact H
          clear H
          have H:=H1
          clear H1
          by_cases c31:0≤x11_3
          rotate_left
          ·rw [if_neg c31] at H
           exact absurd H (by simp)
          rw [if_pos c31] at H
          have c31b0:decide (0≤x11_3)=true:=decide_eq_true c31
          clear c31
          by_cases c32:x11_3<(t11.length:Int)
          rotate_left
          ·rw [if_neg c32] at H
           exact absurd H (by simp)
          rw [if_pos c32] at H
          have c32b0:decide (x11_3<(t11.length:Int))=true:=decide_eq_true c32
          clear c32
          by_cases c33:((rd_T76 t11 x11_3).f0)=3
          ·rw [if_pos c33] at H
           have c33b0:(((rd_T76 t11 x11_3).f0)==3)=true:=beq_iff_eq.mpr c33
           have c33b1:(((rd_T76 t11 x11_3).f0) !=3)=false:=bne_eq_false_iff_eq.mpr c33
           clear c33
           have H':=Aside0.mk H
           clear H
           have p17:0≤(x11_3:Int):=of_decide_eq_true zq_
           have q17:x11_3<(t11.length:Int):=of_decide_eq_true zq_
           obtain ⟨ad17,e17,hx17_0,hx17_1,hx17_2,hx17_3,hx17_4,hx17_5⟩:=at_T76 (Kd.R_reads' HO_7.out).2.2 x11_3 p17 q17
           cases e17
           replace p17:=eq_true p17
           replace q17:=eq_true q17
           go_wp2
           go_meet
           case rel=>exact ⟨_,H',⟨by have:=HJ2.out;have:=HK2.out;have:=HK3.out;have:=HJ27.out;first|omega|exact Nat.le_refl _⟩,⟨by (with_reducible repeat (first|apply Kd.R_alloc|apply Kd.R_drewN|apply Kd.R_drew));exact HO_6.out⟩,⟨by (with_reducible repeat (first|apply Kd.R_alloc|apply Kd.R_drewN|apply Kd.R_drew));exact HO_7.out⟩,⟨zl0_ HB⟩⟩
          rw [if_neg c33] at H
          have c33b0:(((rd_T76 t11 x11_3).f0)==3)=false:=beq_eq_false_iff_ne.mpr c33
          have c33b1:(((rd_T76 t11 x11_3).f0) !=3)=true:=bne_iff_ne.mpr c33
          replace H:=Option.bind_eq_some_iff.mp H
          obtain ⟨⟨t19,t20,t21⟩,A340,H⟩:=H
          try dsimp only at H
          have A34:=Aside0.mk A340
          clear A340
          by_cases c35:(!(((rd_T76 t11 x11_3).f3.f0)==t19)||(!(((rd_T76 t11 x11_3).f3.f1)==t20)||(!(((rd_T76 t11 x11_3).f3.f2)==t21))))=true
          ·rw [if_pos c35] at H
           have c35b0:(!(((rd_T76 t11 x11_3).f3.f0)==t19)||(!(((rd_T76 t11 x11_3).f3.f1)==t20)||(!(((rd_T76 t11 x11_3).f3.f2)==t21))))=true:=c35
           clear c35
           obtain rfl:=Option.some.inj H
           have p17:0≤(x11_3:Int):=of_decide_eq_true zq_
           have q17:x11_3<(t11.length:Int):=of_decide_eq_true zq_
           obtain ⟨ad17,e17,hx17_0,hx17_1,hx17_2,hx17_3,hx17_4,hx17_5⟩:=at_T76 (Kd.R_reads' HO_7.out).2.2 x11_3 p17 q17
           cases e17
           replace p17:=eq_true p17
           replace q17:=eq_true q17
           try go_wp2
           replace HO_6:=am_ (Kd.R_drew HO_6.out)
           replace HO_7:=am_ (Kd.R_drew HO_7.out)
           replace HB:=am_ (below_drew1 HB.out)
           have p18:0≤(x11_3:Int):=of_decide_eq_true zq_
           have q18:x11_3<(t11.length:Int):=of_decide_eq_true zq_
           obtain ⟨ad18,e18,hx18_0,hx18_1,hx18_2,hx18_3,hx18_4,hx18_5⟩:=at_T76 (Kd.R_reads' HO_7.out).2.2 x11_3 p18 q18
           obtain rfl:ad17=ad18:=(by injection e18)
           replace p18:=eq_true p18
           replace q18:=eq_true q18
           refine start_ (n:=7) (S:=fun w'=>w'.cell? (ad17.add ((x11_3).toNat*6))=some (.int .i64 ((rd_T76 t11 x11_3).f0))∧w'.cell? ⟨(ad17.add ((x11_3).toNat*6)).block,(ad17.add ((x11_3).toNat*6)).off+1,none⟩=some (.string ((rd_T76 t11 x11_3).f1))∧w'.cell? ⟨(ad17.add ((x11_3).toNat*6)).block,(ad17.add ((x11_3).toNat*6)).off+2,none⟩=some (.string ((rd_T76 t11 x11_3).f2))∧w'.cell? ⟨(ad17.add ((x11_3).toNat*6)).block,(ad17.add ((x11_3).toNat*6)).off+3,none⟩=some (.int .i64 ((rd_T76 t11 x11_3).f3.f0))∧w'.cell? ⟨(ad17.add ((x11_3).toNat*6)).block,(ad17.add ((x11_3).toNat*6)).off+4,none⟩=some (.int .i64 ((rd_T76 t11 x11_3).f3.f1))∧w'.cell? ⟨(ad17.add ((x11_3).toNat*6)).block,(ad17.add ((x11_3).toNat*6)).off+5,none⟩=some (.int .i64 ((rd_T76 t11 x11_3).f3.f2))) (ds:=[]) (bt_ 7 0) (by kernel_rfl) rfl rfl ⟨hx18_0,hx18_1,hx18_2,hx18_3,hx18_4,hx18_5⟩ (fun hHeld=> ?_)
           generalize wc.drew=w36 at HO_6 HO_7 HB hx18_0 hx18_1 hx18_2 hx18_3 hx18_4 hx18_5 hHeld ⊢
           refine pure_ (i:=0) (N:=some 70) (v:= ?_) (a':= ?_) (bt_ 7 1) rfl rfl (by kernel_rfl) (fun _ _ _ h=>h) (Or.inl ⟨by rfl, ?_⟩) ?_ ?_
           rotate_left
           ·intro w'
            go_simp
            with_reducible rfl
           rotate_left
           ·simp only [Act.put,List.setIfInBounds_toArray,List.set_cons_zero,List.set_cons_succ,i64_w,i32_w]
            rfl
           refine pure_ (i:=1) (N:=some 71) (v:= ?_) (a':= ?_) (bt_ 7 3) rfl rfl (by kernel_rfl) (fun _ _ _ h=>h) (Or.inl ⟨by rfl, ?_⟩) ?_ ?_
           rotate_left
           ·intro w'
            go_simp
            with_reducible rfl
           rotate_left
           ·simp only [Act.put,List.setIfInBounds_toArray,List.set_cons_zero,List.set_cons_succ,i64_w,i32_w]
            rfl
           refine pure_ (i:=2) (N:=some 72) (v:= ?_) (a':= ?_) (bt_ 7 7) rfl rfl (by kernel_rfl) (fun _ _ _ h=>h) (Or.inl ⟨by rfl, ?_⟩) ?_ ?_
           rotate_left
           ·intro w'
            go_simp
            with_reducible rfl
           rotate_left
           ·simp only [Act.put,List.setIfInBounds_toArray,List.set_cons_zero,List.set_cons_succ,i64_w,i32_w]
            rfl
           refine pure_ (i:=3) (N:=some 73) (v:= ?_) (a':= ?_) (bt_ 7 15) rfl rfl (by kernel_rfl) (fun _ _ _ h=>h) (Or.inl ⟨by rfl, ?_⟩) ?_ ?_
           rotate_left
           ·intro w'
            go_simp
            with_reducible rfl
           rotate_left
           ·simp only [Act.put,List.setIfInBounds_toArray,List.set_cons_zero,List.set_cons_succ,i64_w,i32_w]
            rfl
           refine take_ (i:=4) (N:=some 74) (v:= ?_) (a':= ?_) (bt_ 7 31) rfl rfl (by kernel_rfl) (fun _ _ _ h=>h) (Or.inl ⟨by rfl, ?_⟩) hHeld ?_ ?_
           rotate_left
           ·rintro w' ⟨s0,s1,s2,s3,s4,s5⟩
            go_simp
            with_reducible rfl
           rotate_left
           ·simp only [Act.put,List.setIfInBounds_toArray,List.set_cons_zero,List.set_cons_succ,i64_w,i32_w]
            rfl
           refine one_ (i:=5) (N:=some 75) (bt_ 7 63) rfl rfl (by kernel_rfl) (by decide) (fun K hK=> ?_)
           refine gs_ Try.func56 #[] ?_
           with_reducible refine (r10_Most.calls t19 t20 t21 _ A34.out).mono ?_
           rintro e w37 ⟨rfl,hb⟩
           have HS0_:=zh_ hb (hHeld.1)
           have HS1_:=zh_ hb (hHeld.2.1)
           have HS2_:=zh_ hb (hHeld.2.2.1)
           have HS3_:=zh_ hb (hHeld.2.2.2.1)
           have HS4_:=zh_ hb (hHeld.2.2.2.2.1)
           have HS5_:=zh_ hb (hHeld.2.2.2.2.2)
           refine ⟨_,rfl, ?_⟩
           replace HO_6:=am_ (Kd.R_below (zr_ HO_6) hb)
           replace HO_7:=am_ (Kd.R_below (zr_ HO_7) hb)
           replace HB:=am_ (below_step (zl0_ HB) hb)
           (try clear hb)
           (try clear hb2)
           (try clear hk)
           (try clear hi)
           refine hK.out _ _ ⟨HS0_,HS1_,HS2_,HS3_,HS4_,HS5_⟩ (fun hHeld=> ?_)
           clear hK K
           refine no_ (N:=some 75) ?_
           refine pure_ (i:=6) (N:=some 76) (v:= ?_) (a':= ?_) (bt_ 7 127) rfl rfl (by kernel_rfl) (fun _ _ _ h=>h) (Or.inl ⟨by rfl, ?_⟩) ?_ ?_
           rotate_left
           ·intro w'
            go_simp
            with_reducible rfl
           rotate_left
           ·simp only [Act.put,List.setIfInBounds_toArray,List.set_cons_zero,List.set_cons_succ,i64_w,i32_w]
            rfl
           refine done_ (by kernel_rfl) ?_
           try go_wp2
           go_ret
           exact ⟨by first|rfl|(simp [errW_none,errW_some]<;>rfl)|(simp [*,errW_none,errW_some]<;>rfl),zl0_ HB⟩
          rw [if_neg c35] at H
          have c35b0:(!(((rd_T76 t11 x11_3).f3.f0)==t19)||(!(((rd_T76 t11 x11_3).f3.f1)==t20)||(!(((rd_T76 t11 x11_3).f3.f2)==t21))))=false:=by simpa using c35
          clear c35
          have H':=Aside0.mk H
          clear H
          have p17:0≤(x11_3:Int):=of_decide_eq_true zq_
          have q17:x11_3<(t11.length:Int):=of_decide_eq_true zq_
          obtain ⟨ad17,e17,hx17_0,hx17_1,hx17_2,hx17_3,hx17_4,hx17_5⟩:=at_T76 (Kd.R_reads' HO_7.out).2.2 x11_3 p17 q17
          cases e17
          replace p17:=eq_true p17
          replace q17:=eq_true q17
          try go_wp2
          replace HO_6:=am_ (Kd.R_drew HO_6.out)
          replace HO_7:=am_ (Kd.R_drew HO_7.out)
          replace HB:=am_ (below_drew1 HB.out)
          have p18:0≤(x11_3:Int):=of_decide_eq_true zq_
          have q18:x11_3<(t11.length:Int):=of_decide_eq_true zq_
          obtain ⟨ad18,e18,hx18_0,hx18_1,hx18_2,hx18_3,hx18_4,hx18_5⟩:=at_T76 (Kd.R_reads' HO_7.out).2.2 x11_3 p18 q18
          obtain rfl:ad17=ad18:=(by injection e18)
          replace p18:=eq_true p18
          replace q18:=eq_true q18
          refine start_ (n:=7) (S:=fun w'=>w'.cell? (ad17.add ((x11_3).toNat*6))=some (.int .i64 ((rd_T76 t11 x11_3).f0))∧w'.cell? ⟨(ad17.add ((x11_3).toNat*6)).block,(ad17.add ((x11_3).toNat*6)).off+1,none⟩=some (.string ((rd_T76 t11 x11_3).f1))∧w'.cell? ⟨(ad17.add ((x11_3).toNat*6)).block,(ad17.add ((x11_3).toNat*6)).off+2,none⟩=some (.string ((rd_T76 t11 x11_3).f2))∧w'.cell? ⟨(ad17.add ((x11_3).toNat*6)).block,(ad17.add ((x11_3).toNat*6)).off+3,none⟩=some (.int .i64 ((rd_T76 t11 x11_3).f3.f0))∧w'.cell? ⟨(ad17.add ((x11_3).toNat*6)).block,(ad17.add ((x11_3).toNat*6)).off+4,none⟩=some (.int .i64 ((rd_T76 t11 x11_3).f3.f1))∧w'.cell? ⟨(ad17.add ((x11_3).toNat*6)).block,(ad17.add ((x11_3).toNat*6)).off+5,none⟩=some (.int .i64 ((rd_T76 t11 x11_3).f3.f2))) (ds:=[]) (bt_ 7 0) (by kernel_rfl) rfl rfl ⟨hx18_0,hx18_1,hx18_2,hx18_3,hx18_4,hx18_5⟩ (fun hHeld=> ?_)
          generalize wc.drew=w38 at HO_6 HO_7 HB hx18_0 hx18_1 hx18_2 hx18_3 hx18_4 hx18_5 hHeld ⊢
          refine pure_ (i:=0) (N:=some 70) (v:= ?_) (a':= ?_) (bt_ 7 1) rfl rfl (by kernel_rfl) (fun _ _ _ h=>h) (Or.inl ⟨by rfl, ?_⟩) ?_ ?_
          rotate_left
          ·intro w'
           go_simp
           with_reducible rfl
          rotate_left
          ·simp only [Act.put,List.setIfInBounds_toArray,List.set_cons_zero,List.set_cons_succ,i64_w,i32_w]
           rfl
          refine pure_ (i:=1) (N:=some 71) (v:= ?_) (a':= ?_) (bt_ 7 3) rfl rfl (by kernel_rfl) (fun _ _ _ h=>h) (Or.inl ⟨by rfl, ?_⟩) ?_ ?_
          rotate_left
          ·intro w'
           go_simp
           with_reducible rfl
          rotate_left
          ·simp only [Act.put,List.setIfInBounds_toArray,List.set_cons_zero,List.set_cons_succ,i64_w,i32_w]
           rfl
          refine pure_ (i:=2) (N:=some 72) (v:= ?_) (a':= ?_) (bt_ 7 7) rfl rfl (by kernel_rfl) (fun _ _ _ h=>h) (Or.inl ⟨by rfl, ?_⟩) ?_ ?_
          rotate_left
          ·intro w'
           go_simp
           with_reducible rfl
          rotate_left
          ·simp only [Act.put,List.setIfInBounds_toArray,List.set_cons_zero,List.set_cons_succ,i64_w,i32_w]
           rfl
          refine pure_ (i:=3) (N:=some 73) (v:= ?_) (a':= ?_) (bt_ 7 15) rfl rfl (by kernel_rfl) (fun _ _ _ h=>h) (Or.inl ⟨by rfl, ?_⟩) ?_ ?_
          rotate_left
          ·intro w'
           go_simp
           with_reducible rfl
          rotate_left
          ·simp only [Act.put,List.setIfInBounds_toArray,List.set_cons_zero,List.set_cons_succ,i64_w,i32_w]
           rfl
          refine take_ (i:=4) (N:=some 74) (v:= ?_) (a':= ?_) (bt_ 7 31) rfl rfl (by kernel_rfl) (fun _ _ _ h=>h) (Or.inl ⟨by rfl, ?_⟩) hHeld ?_ ?_
          rotate_left
          ·rintro w' ⟨s0,s1,s2,s3,s4,s5⟩
           go_simp
           with_reducible rfl
          rotate_left
          ·simp only [Act.put,List.setIfInBounds_toArray,List.set_cons_zero,List.set_cons_succ,i64_w,i32_w]
           rfl
          refine one_ (i:=5) (N:=some 75) (bt_ 7 63) rfl rfl (by kernel_rfl) (by decide) (fun K hK=> ?_)
          refine gs_ Try.func56 #[] ?_
          with_reducible refine (r10_Most.calls t19 t20 t21 _ A34.out).mono ?_
          rintro e w39 ⟨rfl,hb⟩
          have HS0_:=zh_ hb (hHeld.1)
          have HS1_:=zh_ hb (hHeld.2.1)
          have HS2_:=zh_ hb (hHeld.2.2.1)
          have HS3_:=zh_ hb (hHeld.2.2.2.1)
          have HS4_:=zh_ hb (hHeld.2.2.2.2.1)
          have HS5_:=zh_ hb (hHeld.2.2.2.2.2)
          refine ⟨_,rfl, ?_⟩
          replace HO_6:=am_ (Kd.R_below (zr_ HO_6) hb)
          replace HO_7:=am_ (Kd.R_below (zr_ HO_7) hb)
          replace HB:=am_ (below_step (zl0_ HB) hb)
          (try clear hb)
          (try clear hb2)
          (try clear hk)
          (try clear hi)
          refine hK.out _ _ ⟨HS0_,HS1_,HS2_,HS3_,HS4_,HS5_⟩ (fun hHeld=> ?_)
          clear hK K
          refine no_ (N:=some 75) ?_
          refine pure_ (i:=6) (N:=some 76) (v:= ?_) (a':= ?_) (bt_ 7 127) rfl rfl (by kernel_rfl) (fun _ _ _ h=>h) (Or.inl ⟨by rfl, ?_⟩) ?_ ?_
          rotate_left
          ·intro w'
           go_simp
           with_reducible rfl
          rotate_left
          ·simp only [Act.put,List.setIfInBounds_toArray,List.set_cons_zero,List.set_cons_succ,i64_w,i32_w]
           rfl
          refine done_ (by kernel_rfl) ?_
          try go_wp2
          go_roundg kj27
          case measure=>have:=HJ2.out;have:=HK2.out;have:=HK3.out;have:=HJ27.out;omega
          case rel=>exact ⟨(wrap64 (x11_3+1)),(by first|rfl|(simp;done)|(simp [*];done)),H',⟨by have:=HJ2.out;have:=HK2.out;have:=HK3.out;have:=HJ27.out;omega⟩,⟨by (with_reducible repeat (first|apply Kd.R_alloc|apply Kd.R_drewN|apply Kd.R_drew));exact HO_6.out⟩,⟨by (with_reducible repeat (first|apply Kd.R_alloc|apply Kd.R_drewN|apply Kd.R_drew));exact HO_7.out⟩,⟨zl0_ HB⟩⟩
     case rest=>
      clear HC26
      try clear c1
      try clear p1
      try clear q1
      try clear hx1
      try clear c2
      try clear p2
      try clear c3
      try clear c4
      try clear c4b0
      try clear c4b1
      try clear c5
      try clear p6
      try clear c13
      try clear c13b0
      try clear c13b1
      try clear p16
      try clear q16
      try clear hx16
      try clear c17
      try clear p17
      try clear q17
      try clear hx17
      try clear p18
      try clear q18
      try clear hx18
      try clear c21
      try clear c21b0
      try clear c22
      try clear c22b0
      try clear c23
      try clear c23b0
      try clear c23b1
      try clear c25
      try clear c29
      try clear c29b0
      try clear c30
      try clear c31
      try clear c31b0
      try clear c32
      try clear c32b0
      try clear c33
      try clear c33b0
      try clear c33b1
      try clear c35
      try clear c35b0
      try clear c38
      try clear hx16_0
      try clear hx16_1
      try clear hx16_2
      try clear hx16_3
      try clear hx16_4
      try clear hx16_5
      try clear hx17_0
      try clear hx17_1
      try clear hx17_2
      try clear hx17_3
      try clear hx17_4
      try clear hx17_5
      try clear hx18_0
      try clear hx18_1
      try clear hx18_2
      try clear hx18_3
      try clear hx18_4
      try clear hx18_5
      try clear p1
      try clear p16
      try clear p17
      try clear p18
      try clear p2
      try clear p6
      try clear q1
      try clear q16
      try clear q17
      try clear q18
      obtain ⟨kq,HA,HJ25,HO_6,HO_7,HB⟩:=hcut
      cases kq with
      |zero=>exact absurd HA.out (by simp [law18_PlanWide.j4])
      |succ kj25=>
       have H:=HA.out
       clear HA
       simp only [law18_PlanWide.j4] at H
       have H':=Aside0.mk H
       clear H
       go_wp2
       go_loopg [12,13] kj25 (fun kq v12 v13 w'=> ∃(x12_4:Int) (x13_4:Int),v12= .int .i64 x12_4∧v13= .int .i64 x13_4∧Aside0 (law18_PlanWide.l2 kq t5 t11 x9_2 x12_4 x13_4=some r)∧Aside0 (kq≤kj25)∧Aside0 (Kd.R k39 39 w' w.heap.size (fun _=>True) (.slice Ao18 t5.length co18) t5)∧Aside0 (Kd.R k76 76 w' w.heap.size (fun _=>True) (.slice Ao27 t11.length co27) t11)∧Aside0 (Below w.heap.size w w'))
       case atStart=>exact ⟨(0),(wrap64 ((t11.length:Int) - 1)),(by first|rfl|(simp;done)|(simp [*];done)),(by first|rfl|(simp;done)|(simp [*];done)),H',⟨Nat.le_refl _⟩,⟨by (with_reducible repeat (first|apply Kd.R_alloc|apply Kd.R_drewN|apply Kd.R_drew));exact HO_6.out⟩,⟨by (with_reducible repeat (first|apply Kd.R_alloc|apply Kd.R_drewN|apply Kd.R_drew));exact HO_7.out⟩,⟨zl0_ HB⟩⟩
       case round=>
        clear H'
        try clear c1
        try clear p1
        try clear q1
        try clear hx1
        try clear c2
        try clear p2
        try clear c3
        try clear c4
        try clear c4b0
        try clear c4b1
        try clear c5
        try clear p6
        try clear c13
        try clear c13b0
        try clear c13b1
        try clear p16
        try clear q16
        try clear hx16
        try clear c17
        try clear p17
        try clear q17
        try clear hx17
        try clear p18
        try clear q18
        try clear hx18
        try clear c21
        try clear c21b0
        try clear c22
        try clear c22b0
        try clear c23
        try clear c23b0
        try clear c23b1
        try clear c25
        try clear c29
        try clear c29b0
        try clear c30
        try clear c31
        try clear c31b0
        try clear c32
        try clear c32b0
        try clear c33
        try clear c33b0
        try clear c33b1
        try clear c35
        try clear c35b0
        try clear c38
        try clear hx16_0
        try clear hx16_1
        try clear hx16_2
        try clear hx16_3
        try clear hx16_4
        try clear hx16_5
        try clear hx17_0
        try clear hx17_1
        try clear hx17_2
        try clear hx17_3
        try clear hx17_4
        try clear hx17_5
        try clear hx18_0
        try clear hx18_1
        try clear hx18_2
        try clear hx18_3
        try clear hx18_4
        try clear hx18_5
        try clear p1
        try clear p16
        try clear p17
        try clear p18
        try clear p2
        try clear p6
        try clear q1
        try clear q16
        try clear q17
        try clear q18
        obtain ⟨x12_4,x13_4,rfl,rfl,HA,HK4,HO_6,HO_7,HB⟩:=hrel
        cases gk with
        |zero=>exact absurd HA.out (by simp [law18_PlanWide.l2])
        |succ k4=>
         have H:=HA.out
         clear HA
         simp only [law18_PlanWide.l2] at H
         have HC40:=Aside0.mk H
         clear H
         go_upto_region 22 with (fail)
         go_cut [93] (fun v93 wc=> ∃(kq:Nat) (x93_39:Bool),v93= .bool x93_39∧Aside0 (law18_PlanWide.j6 kq t5 t11 x9_2 x12_4 x13_4 x93_39=some r)∧Aside0 (kq≤k4)∧Aside0 (Kd.R k39 39 wc w.heap.size (fun _=>True) (.slice Ao18 t5.length co18) t5)∧Aside0 (Kd.R k76 76 wc w.heap.size (fun _=>True) (.slice Ao27 t11.length co27) t11)∧Aside0 (Below w.heap.size w wc))
         case first=>
          have H:=HC40.out
          clear HC40
          by_cases c41:x13_4≥0
          rotate_left
          ·rw [if_neg c41] at H
           have c41b0:decide (0≤x13_4)=false:=decide_eq_false c41
           clear c41
           (first|rw [c41b0]|(simp only [i64_w,i32_w];rw [c41b0])|skip)
           have H':=Aside0.mk H
           clear H
           go_wp2
           go_meet
           case rel=>exact ⟨_,(false),(by first|rfl|(simp;done)|(simp [*];done)),H',⟨by have:=HJ2.out;have:=HK2.out;have:=HJ25.out;have:=HK4.out;first|omega|exact Nat.le_refl _⟩,⟨by (with_reducible repeat (first|apply Kd.R_alloc|apply Kd.R_drewN|apply Kd.R_drew));exact HO_6.out⟩,⟨by (with_reducible repeat (first|apply Kd.R_alloc|apply Kd.R_drewN|apply Kd.R_drew));exact HO_7.out⟩,⟨zl0_ HB⟩⟩
          rw [if_pos c41] at H
          have c41b0:decide (0≤x13_4)=true:=decide_eq_true c41
          clear c41
          (first|rw [c41b0]|(simp only [i64_w,i32_w];rw [c41b0])|skip)
          by_cases c42:x9_2>0
          rotate_left
          ·rw [if_neg c42] at H
           have c42b0:decide (0<x9_2)=false:=decide_eq_false c42
           clear c42
           have H':=Aside0.mk H
           clear H
           go_wp2
           go_meet
           case rel=>exact ⟨_,(false),(by first|rfl|(simp;done)|(simp [*];done)),H',⟨by have:=HJ2.out;have:=HK2.out;have:=HJ25.out;have:=HK4.out;first|omega|exact Nat.le_refl _⟩,⟨by (with_reducible repeat (first|apply Kd.R_alloc|apply Kd.R_drewN|apply Kd.R_drew));exact HO_6.out⟩,⟨by (with_reducible repeat (first|apply Kd.R_alloc|apply Kd.R_drewN|apply Kd.R_drew));exact HO_7.out⟩,⟨zl0_ HB⟩⟩
          rw [if_pos c42] at H
          have c42b0:decide (0<x9_2)=true:=decide_eq_true c42
          clear c42
          by_cases c43:0≤x13_4
          rotate_left
          ·rw [if_neg c43] at H
           exact absurd H (by simp)
          rw [if_pos c43] at H
          have c43b0:decide (0≤x13_4)=true:=decide_eq_true c43
          clear c43
          by_cases c44:x13_4<(t11.length:Int)
          rotate_left
          ·rw [if_neg c44] at H
           exact absurd H (by simp)
          rw [if_pos c44] at H
          have c44b0:decide (x13_4<(t11.length:Int))=true:=decide_eq_true c44
          clear c44
          have H':=Aside0.mk H
          clear H
          have p22:0≤(x13_4:Int):=of_decide_eq_true zq_
          have q22:x13_4<(t11.length:Int):=of_decide_eq_true zq_
          obtain ⟨ad22,e22,hx22_0,hx22_1,hx22_2,hx22_3,hx22_4,hx22_5⟩:=at_T76 (Kd.R_reads' HO_7.out).2.2 x13_4 p22 q22
          cases e22
          replace p22:=eq_true p22
          replace q22:=eq_true q22
          go_wp2
          go_meet
          case rel=>exact ⟨_,((((rd_T76 t11 x13_4).f0) !=3)),(by first|rfl|(simp;done)|(simp [*];done)),H',⟨by have:=HJ2.out;have:=HK2.out;have:=HJ25.out;have:=HK4.out;first|omega|exact Nat.le_refl _⟩,⟨by (with_reducible repeat (first|apply Kd.R_alloc|apply Kd.R_drewN|apply Kd.R_drew));exact HO_6.out⟩,⟨by (with_reducible repeat (first|apply Kd.R_alloc|apply Kd.R_drewN|apply Kd.R_drew));exact HO_7.out⟩,⟨zl0_ HB⟩⟩
         case rest=>
          clear HC40
          try clear c1
          try clear p1
          try clear q1
          try clear hx1
          try clear c2
          try clear p2
          try clear q2
          try clear hx2
          try clear c3
          try clear c4
          try clear c4b0
          try clear c4b1
          try clear c5
          try clear p6
          try clear c13
          try clear c13b0
          try clear c13b1
          try clear p16
          try clear q16
          try clear hx16
          try clear c17
          try clear p17
          try clear q17
          try clear hx17
          try clear p18
          try clear q18
          try clear hx18
          try clear c21
          try clear c21b0
          try clear c22
          try clear c22b0
          try clear p22
          try clear q22
          try clear hx22
          try clear c23
          try clear c23b0
          try clear c23b1
          try clear c25
          try clear c29
          try clear c29b0
          try clear c30
          try clear c31
          try clear c31b0
          try clear c32
          try clear c32b0
          try clear c33
          try clear c33b0
          try clear c33b1
          try clear c35
          try clear c35b0
          try clear c38
          try clear c41
          try clear c41b0
          try clear c42
          try clear c42b0
          try clear c43
          try clear c43b0
          try clear c44
          try clear c44b0
          try clear hx16_0
          try clear hx16_1
          try clear hx16_2
          try clear hx16_3
          try clear hx16_4
          try clear hx16_5
          try clear hx17_0
          try clear hx17_1
          try clear hx17_2
          try clear hx17_3
          try clear hx17_4
          try clear hx17_5
          try clear hx18_0
          try clear hx18_1
          try clear hx18_2
          try clear hx18_3
          try clear hx18_4
          try clear hx18_5
          try clear hx22_0
          try clear hx22_1
          try clear hx22_2
          try clear hx22_3
          try clear hx22_4
          try clear hx22_5
          try clear p1
          try clear p16
          try clear p17
          try clear p18
          try clear p2
          try clear p22
          try clear p6
          try clear q1
          try clear q16
          try clear q17
          try clear q18
          try clear q22
          obtain ⟨kq,x93_39,rfl,HA,HJ39,HO_6,HO_7,HB⟩:=hcut
          cases kq with
          |zero=>exact absurd HA.out (by simp [law18_PlanWide.j6])
          |succ kj39=>
           have H:=HA.out
           clear HA
           simp only [law18_PlanWide.j6] at H
           by_cases c45:x93_39=true
           ·subst c45
            have H1:(if 0≤x13_4 then (if x13_4<(t11.length:Int) then (if ((rd_T76 t11 x13_4).f0)=2 then (law18_PlanWide.l2 kj39 t5 t11 x9_2 (wrap64 (x12_4+1)) (wrap64 (x13_4 - 1))) else (law18_PlanWide.l2 kj39 t5 t11 x9_2 x12_4 (wrap64 (x13_4 - 1)))) else (none)) else (none))=some r:=by rw [if_pos rfl] at H;exact H
            clear H
            have H:=H1
            clear H1
            by_cases c46:0≤x13_4
            rotate_left
            ·rw [if_neg c46] at H
             exact absurd H (by simp)
            rw [if_pos c46] at H
            have c46b0:decide (0≤x13_4)=true:=decide_eq_true c46
            clear c46
            by_cases c47:x13_4<(t11.length:Int)
            rotate_left
            ·rw [if_neg c47] at H
             exact absurd H (by simp)
            rw [if_pos c47] at H
            have c47b0:decide (x13_4<(t11.length:Int))=true:=decide_eq_true c47
            clear c47
            by_cases c48:((rd_T76 t11 x13_4).f0)=2
            ·rw [if_pos c48] at H
             have c48b0:(((rd_T76 t11 x13_4).f0)==2)=true:=beq_iff_eq.mpr c48
             have c48b1:(((rd_T76 t11 x13_4).f0) !=2)=false:=bne_eq_false_iff_eq.mpr c48
             clear c48
             have H':=Aside0.mk H
             clear H
             have p23:0≤(x13_4:Int):=of_decide_eq_true zq_
             have q23:x13_4<(t11.length:Int):=of_decide_eq_true zq_
             obtain ⟨ad23,e23,hx23_0,hx23_1,hx23_2,hx23_3,hx23_4,hx23_5⟩:=at_T76 (Kd.R_reads' HO_7.out).2.2 x13_4 p23 q23
             cases e23
             replace p23:=eq_true p23
             replace q23:=eq_true q23
             go_wp2
             go_roundg kj39
             case measure=>have:=HJ2.out;have:=HK2.out;have:=HJ25.out;have:=HK4.out;have:=HJ39.out;omega
             case rel=>exact ⟨(wrap64 (x12_4+1)),(wrap64 (x13_4 - 1)),(by first|rfl|(simp;done)|(simp [*];done)),(by first|rfl|(simp;done)|(simp [*];done)),H',⟨by have:=HJ2.out;have:=HK2.out;have:=HJ25.out;have:=HK4.out;have:=HJ39.out;omega⟩,⟨by (with_reducible repeat (first|apply Kd.R_alloc|apply Kd.R_drewN|apply Kd.R_drew));exact HO_6.out⟩,⟨by (with_reducible repeat (first|apply Kd.R_alloc|apply Kd.R_drewN|apply Kd.R_drew));exact HO_7.out⟩,⟨zl0_ HB⟩⟩
            rw [if_neg c48] at H
            have c48b0:(((rd_T76 t11 x13_4).f0)==2)=false:=beq_eq_false_iff_ne.mpr c48
            have c48b1:(((rd_T76 t11 x13_4).f0) !=2)=true:=bne_iff_ne.mpr c48
            have H':=Aside0.mk H
            clear H
            have p23:0≤(x13_4:Int):=of_decide_eq_true zq_
            have q23:x13_4<(t11.length:Int):=of_decide_eq_true zq_
            obtain ⟨ad23,e23,hx23_0,hx23_1,hx23_2,hx23_3,hx23_4,hx23_5⟩:=at_T76 (Kd.R_reads' HO_7.out).2.2 x13_4 p23 q23
            cases e23
            replace p23:=eq_true p23
            replace q23:=eq_true q23
            go_wp2
            go_roundg kj39
            case measure=>have:=HJ2.out;have:=HK2.out;have:=HJ25.out;have:=HK4.out;have:=HJ39.out;omega
            case rel=>exact ⟨(x12_4),(wrap64 (x13_4 - 1)),(by first|rfl|(simp;done)|(simp [*];done)),(by first|rfl|(simp;done)|(simp [*];done)),H',⟨by have:=HJ2.out;have:=HK2.out;have:=HJ25.out;have:=HK4.out;have:=HJ39.out;omega⟩,⟨by (with_reducible repeat (first|apply Kd.R_alloc|apply Kd.R_drewN|apply Kd.R_drew));exact HO_6.out⟩,⟨by (with_reducible repeat (first|apply Kd.R_alloc|apply Kd.R_drewN|apply Kd.R_drew));exact HO_7.out⟩,⟨zl0_ HB⟩⟩
           replace c45:=Bool.eq_false_iff.mpr c45
           subst c45
           have H1:(law18_PlanWide.l3 kj39 t5 x9_2 x12_4 0 0)=some r:=by rw [if_neg (show¬(false=true) by decide)] at H;exact H
           clear H
           have H:=H1
           clear H1
           have H':=Aside0.mk H
           clear H
           go_wp2
           go_loopg [14,15] kj39 (fun kq v14 v15 w'=> ∃(x14_6:Int) (x15_6:Int),v14= .int .i64 x14_6∧v15= .int .i64 x15_6∧Aside0 (law18_PlanWide.l3 kq t5 x9_2 x12_4 x14_6 x15_6=some r)∧Aside0 (kq≤kj39)∧Aside0 (Kd.R k39 39 w' w.heap.size (fun _=>True) (.slice Ao18 t5.length co18) t5)∧Aside0 (Below w.heap.size w w'))
           case atStart=>exact ⟨(0),(0),(by first|rfl|(simp;done)|(simp [*];done)),(by first|rfl|(simp;done)|(simp [*];done)),H',⟨Nat.le_refl _⟩,⟨by (with_reducible repeat (first|apply Kd.R_alloc|apply Kd.R_drewN|apply Kd.R_drew));exact HO_6.out⟩,⟨zl0_ HB⟩⟩
           case round=>
            clear H'
            try clear c1
            try clear p1
            try clear q1
            try clear hx1
            try clear c2
            try clear p2
            try clear q2
            try clear hx2
            try clear c3
            try clear c4
            try clear c4b0
            try clear c4b1
            try clear c5
            try clear p6
            try clear c13
            try clear c13b0
            try clear c13b1
            try clear p16
            try clear q16
            try clear hx16
            try clear c17
            try clear p17
            try clear q17
            try clear hx17
            try clear p18
            try clear q18
            try clear hx18
            try clear c21
            try clear c21b0
            try clear c22
            try clear c22b0
            try clear p22
            try clear q22
            try clear hx22
            try clear c23
            try clear c23b0
            try clear c23b1
            try clear p23
            try clear q23
            try clear hx23
            try clear c25
            try clear c29
            try clear c29b0
            try clear c30
            try clear c31
            try clear c31b0
            try clear c32
            try clear c32b0
            try clear c33
            try clear c33b0
            try clear c33b1
            try clear c35
            try clear c35b0
            try clear c38
            try clear c41
            try clear c41b0
            try clear c42
            try clear c42b0
            try clear c43
            try clear c43b0
            try clear c44
            try clear c44b0
            try clear c45
            try clear c46
            try clear c46b0
            try clear c47
            try clear c47b0
            try clear c48
            try clear c48b0
            try clear c48b1
            try clear hx16_0
            try clear hx16_1
            try clear hx16_2
            try clear hx16_3
            try clear hx16_4
            try clear hx16_5
            try clear hx17_0
            try clear hx17_1
            try clear hx17_2
            try clear hx17_3
            try clear hx17_4
            try clear hx17_5
            try clear hx18_0
            try clear hx18_1
            try clear hx18_2
            try clear hx18_3
            try clear hx18_4
            try clear hx18_5
            try clear hx22_0
            try clear hx22_1
            try clear hx22_2
            try clear hx22_3
            try clear hx22_4
            try clear hx22_5
            try clear hx23_0
            try clear hx23_1
            try clear hx23_2
            try clear hx23_3
            try clear hx23_4
            try clear hx23_5
            try clear p1
            try clear p16
            try clear p17
            try clear p18
            try clear p2
            try clear p22
            try clear p23
            try clear p6
            try clear q1
            try clear q16
            try clear q17
            try clear q18
            try clear q2
            try clear q22
            try clear q23
            obtain ⟨x14_6,x15_6,rfl,rfl,HA,HK6,HO_6,HB⟩:=hrel
            cases gk with
            |zero=>exact absurd HA.out (by simp [law18_PlanWide.l3])
            |succ k6=>
             have H:=HA.out
             clear HA
             simp only [law18_PlanWide.l3] at H
             by_cases c49:x15_6<(t5.length:Int)
             rotate_left
             ·rw [if_neg c49] at H
              have c49b0:decide (x15_6<(t5.length:Int))=false:=decide_eq_false c49
              clear c49
              by_cases c57:x9_2=0
              ·rw [if_pos c57] at H
               have c57b0:(x9_2==0)=true:=beq_iff_eq.mpr c57
               have c57b1:(x9_2 !=0)=false:=bne_eq_false_iff_eq.mpr c57
               clear c57
               replace H:=Option.bind_eq_some_iff.mp H
               obtain ⟨t28,A580,H⟩:=H
               try dsimp only at H
               have A58:=Aside0.mk A580
               clear A580
               obtain rfl:=Option.some.inj H
               go_wp2_with (first|(go_at_call 47;(with_reducible refine (law18_awake.calls t28 _ A58.out).mono ?_);rintro e w59 ⟨rfl,hb⟩;replace HO_6:=am_ (Kd.R_below (zr_ HO_6) hb);replace HB:=am_ (below_step (zl0_ HB) hb);(try clear hb);(try clear hb2);(try clear hk);(try clear hi)))
               go_ret
               exact ⟨by first|rfl|(simp [errW_none,errW_some]<;>rfl)|(simp [*,errW_none,errW_some]<;>rfl),zl0_ HB⟩
              rw [if_neg c57] at H
              have c57b0:(x9_2==0)=false:=beq_eq_false_iff_ne.mpr c57
              have c57b1:(x9_2 !=0)=true:=bne_iff_ne.mpr c57
              by_cases c60:x12_4=x14_6
              rotate_left
              ·rw [if_neg c60] at H
               have c60b0:(x12_4==x14_6)=false:=beq_eq_false_iff_ne.mpr c60
               have c60b1:(x12_4 !=x14_6)=true:=bne_iff_ne.mpr c60
               obtain rfl:=Option.some.inj H
               go_wp2
               go_ret
               exact ⟨by first|rfl|(simp [errW_none,errW_some]<;>rfl)|(simp [*,errW_none,errW_some]<;>rfl),zl0_ HB⟩
              rw [if_pos c60] at H
              have c60b0:(x12_4==x14_6)=true:=beq_iff_eq.mpr c60
              have c60b1:(x12_4 !=x14_6)=false:=bne_eq_false_iff_eq.mpr c60
              clear c60
              replace H:=Option.bind_eq_some_iff.mp H
              obtain ⟨t29,A610,H⟩:=H
              try dsimp only at H
              have A61:=Aside0.mk A610
              clear A610
              obtain rfl:=Option.some.inj H
              go_wp2_with (first|(go_at_call 47;(with_reducible refine (law18_awake.calls t29 _ A61.out).mono ?_);rintro e w62 ⟨rfl,hb⟩;replace HO_6:=am_ (Kd.R_below (zr_ HO_6) hb);replace HB:=am_ (below_step (zl0_ HB) hb);(try clear hb);(try clear hb2);(try clear hk);(try clear hi)))
              go_ret
              exact ⟨by first|rfl|(simp [errW_none,errW_some]<;>rfl)|(simp [*,errW_none,errW_some]<;>rfl),zl0_ HB⟩
             rw [if_pos c49] at H
             have c49b0:decide (x15_6<(t5.length:Int))=true:=decide_eq_true c49
             clear c49
             by_cases c50:0≤x15_6
             rotate_left
             ·rw [if_neg c50] at H
              exact absurd H (by simp)
             rw [if_pos c50] at H
             have c50b0:decide (0≤x15_6)=true:=decide_eq_true c50
             clear c50
             replace H:=Option.bind_eq_some_iff.mp H
             obtain ⟨⟨t25,t26,t27⟩,A510,H⟩:=H
             try dsimp only at H
             have A51:=Aside0.mk A510
             clear A510
             by_cases c52:(!(((rd_T39 t5 x15_6).f2.f0)==t25)||(!(((rd_T39 t5 x15_6).f2.f1)==t26)||(!(((rd_T39 t5 x15_6).f2.f2)==t27))))=true
             ·rw [if_pos c52] at H
              have c52b0:(!(((rd_T39 t5 x15_6).f2.f0)==t25)||(!(((rd_T39 t5 x15_6).f2.f1)==t26)||(!(((rd_T39 t5 x15_6).f2.f2)==t27))))=true:=c52
              clear c52
              have H':=Aside0.mk H
              clear H
              try go_wp2
              replace HO_6:=am_ (Kd.R_drew HO_6.out)
              replace HB:=am_ (below_drew1 HB.out)
              have p24:0≤(x15_6:Int):=of_decide_eq_true zq_
              have q24:x15_6<(t5.length:Int):=of_decide_eq_true zq_
              obtain ⟨ad24,e24,hx24_0,hx24_1,hx24_2,hx24_3,hx24_4⟩:=at_T39 (Kd.R_reads' HO_6.out).2.2 x15_6 p24 q24
              cases e24
              replace p24:=eq_true p24
              replace q24:=eq_true q24
              refine start_ (n:=7) (S:=fun w'=>w'.cell? (ad24.add ((x15_6).toNat*5))=some (.string ((rd_T39 t5 x15_6).f0))∧w'.cell? ⟨(ad24.add ((x15_6).toNat*5)).block,(ad24.add ((x15_6).toNat*5)).off+1,none⟩=some (.string ((rd_T39 t5 x15_6).f1))∧w'.cell? ⟨(ad24.add ((x15_6).toNat*5)).block,(ad24.add ((x15_6).toNat*5)).off+2,none⟩=some (.int .i64 ((rd_T39 t5 x15_6).f2.f0))∧w'.cell? ⟨(ad24.add ((x15_6).toNat*5)).block,(ad24.add ((x15_6).toNat*5)).off+3,none⟩=some (.int .i64 ((rd_T39 t5 x15_6).f2.f1))∧w'.cell? ⟨(ad24.add ((x15_6).toNat*5)).block,(ad24.add ((x15_6).toNat*5)).off+4,none⟩=some (.int .i64 ((rd_T39 t5 x15_6).f2.f2))) (ds:=[]) (bt_ 7 0) (by kernel_rfl) rfl rfl ⟨hx24_0,hx24_1,hx24_2,hx24_3,hx24_4⟩ (fun hHeld=> ?_)
              generalize wr.drew=w53 at HO_6 HB hx24_0 hx24_1 hx24_2 hx24_3 hx24_4 hHeld ⊢
              refine pure_ (i:=0) (N:=some 110) (v:= ?_) (a':= ?_) (bt_ 7 1) rfl rfl (by kernel_rfl) (fun _ _ _ h=>h) (Or.inl ⟨by rfl, ?_⟩) ?_ ?_
              rotate_left
              ·intro w'
               go_simp
               with_reducible rfl
              rotate_left
              ·simp only [Act.put,List.setIfInBounds_toArray,List.set_cons_zero,List.set_cons_succ,i64_w,i32_w]
               rfl
              refine pure_ (i:=1) (N:=some 111) (v:= ?_) (a':= ?_) (bt_ 7 3) rfl rfl (by kernel_rfl) (fun _ _ _ h=>h) (Or.inl ⟨by rfl, ?_⟩) ?_ ?_
              rotate_left
              ·intro w'
               go_simp
               with_reducible rfl
              rotate_left
              ·simp only [Act.put,List.setIfInBounds_toArray,List.set_cons_zero,List.set_cons_succ,i64_w,i32_w]
               rfl
              refine pure_ (i:=2) (N:=some 112) (v:= ?_) (a':= ?_) (bt_ 7 7) rfl rfl (by kernel_rfl) (fun _ _ _ h=>h) (Or.inl ⟨by rfl, ?_⟩) ?_ ?_
              rotate_left
              ·intro w'
               go_simp
               with_reducible rfl
              rotate_left
              ·simp only [Act.put,List.setIfInBounds_toArray,List.set_cons_zero,List.set_cons_succ,i64_w,i32_w]
               rfl
              refine pure_ (i:=3) (N:=some 113) (v:= ?_) (a':= ?_) (bt_ 7 15) rfl rfl (by kernel_rfl) (fun _ _ _ h=>h) (Or.inl ⟨by rfl, ?_⟩) ?_ ?_
              rotate_left
              ·intro w'
               go_simp
               with_reducible rfl
              rotate_left
              ·simp only [Act.put,List.setIfInBounds_toArray,List.set_cons_zero,List.set_cons_succ,i64_w,i32_w]
               rfl
              refine take_ (i:=4) (N:=some 114) (v:= ?_) (a':= ?_) (bt_ 7 31) rfl rfl (by kernel_rfl) (fun _ _ _ h=>h) (Or.inl ⟨by rfl, ?_⟩) hHeld ?_ ?_
              rotate_left
              ·rintro w' ⟨s0,s1,s2,s3,s4⟩
               go_simp
               with_reducible rfl
              rotate_left
              ·simp only [Act.put,List.setIfInBounds_toArray,List.set_cons_zero,List.set_cons_succ,i64_w,i32_w]
               rfl
              refine one_ (i:=5) (N:=some 115) (bt_ 7 63) rfl rfl (by kernel_rfl) (by decide) (fun K hK=> ?_)
              refine gs_ Try.func56 #[] ?_
              with_reducible refine (r10_Most.calls t25 t26 t27 _ A51.out).mono ?_
              rintro e w54 ⟨rfl,hb⟩
              have HS0_:=zh_ hb (hHeld.1)
              have HS1_:=zh_ hb (hHeld.2.1)
              have HS2_:=zh_ hb (hHeld.2.2.1)
              have HS3_:=zh_ hb (hHeld.2.2.2.1)
              have HS4_:=zh_ hb (hHeld.2.2.2.2)
              refine ⟨_,rfl, ?_⟩
              replace HO_6:=am_ (Kd.R_below (zr_ HO_6) hb)
              replace HB:=am_ (below_step (zl0_ HB) hb)
              (try clear hb)
              (try clear hb2)
              (try clear hk)
              (try clear hi)
              refine hK.out _ _ ⟨HS0_,HS1_,HS2_,HS3_,HS4_⟩ (fun hHeld=> ?_)
              clear hK K
              refine no_ (N:=some 115) ?_
              refine pure_ (i:=6) (N:=some 116) (v:= ?_) (a':= ?_) (bt_ 7 127) rfl rfl (by kernel_rfl) (fun _ _ _ h=>h) (Or.inl ⟨by rfl, ?_⟩) ?_ ?_
              rotate_left
              ·intro w'
               go_simp
               with_reducible rfl
              rotate_left
              ·simp only [Act.put,List.setIfInBounds_toArray,List.set_cons_zero,List.set_cons_succ,i64_w,i32_w]
               rfl
              refine done_ (by kernel_rfl) ?_
              try go_wp2
              go_roundg k6
              case measure=>have:=HJ2.out;have:=HK2.out;have:=HJ25.out;have:=HK4.out;have:=HJ39.out;have:=HK6.out;omega
              case rel=>exact ⟨(wrap64 (x14_6+1)),(wrap64 (x15_6+1)),(by first|rfl|(simp;done)|(simp [*];done)),(by first|rfl|(simp;done)|(simp [*];done)),H',⟨by have:=HJ2.out;have:=HK2.out;have:=HJ25.out;have:=HK4.out;have:=HJ39.out;have:=HK6.out;omega⟩,⟨by (with_reducible repeat (first|apply Kd.R_alloc|apply Kd.R_drewN|apply Kd.R_drew));exact HO_6.out⟩,⟨zl0_ HB⟩⟩
             rw [if_neg c52] at H
             have c52b0:(!(((rd_T39 t5 x15_6).f2.f0)==t25)||(!(((rd_T39 t5 x15_6).f2.f1)==t26)||(!(((rd_T39 t5 x15_6).f2.f2)==t27))))=false:=by simpa using c52
             clear c52
             have H':=Aside0.mk H
             clear H
             try go_wp2
             replace HO_6:=am_ (Kd.R_drew HO_6.out)
             replace HB:=am_ (below_drew1 HB.out)
             have p24:0≤(x15_6:Int):=of_decide_eq_true zq_
             have q24:x15_6<(t5.length:Int):=of_decide_eq_true zq_
             obtain ⟨ad24,e24,hx24_0,hx24_1,hx24_2,hx24_3,hx24_4⟩:=at_T39 (Kd.R_reads' HO_6.out).2.2 x15_6 p24 q24
             cases e24
             replace p24:=eq_true p24
             replace q24:=eq_true q24
             refine start_ (n:=7) (S:=fun w'=>w'.cell? (ad24.add ((x15_6).toNat*5))=some (.string ((rd_T39 t5 x15_6).f0))∧w'.cell? ⟨(ad24.add ((x15_6).toNat*5)).block,(ad24.add ((x15_6).toNat*5)).off+1,none⟩=some (.string ((rd_T39 t5 x15_6).f1))∧w'.cell? ⟨(ad24.add ((x15_6).toNat*5)).block,(ad24.add ((x15_6).toNat*5)).off+2,none⟩=some (.int .i64 ((rd_T39 t5 x15_6).f2.f0))∧w'.cell? ⟨(ad24.add ((x15_6).toNat*5)).block,(ad24.add ((x15_6).toNat*5)).off+3,none⟩=some (.int .i64 ((rd_T39 t5 x15_6).f2.f1))∧w'.cell? ⟨(ad24.add ((x15_6).toNat*5)).block,(ad24.add ((x15_6).toNat*5)).off+4,none⟩=some (.int .i64 ((rd_T39 t5 x15_6).f2.f2))) (ds:=[]) (bt_ 7 0) (by kernel_rfl) rfl rfl ⟨hx24_0,hx24_1,hx24_2,hx24_3,hx24_4⟩ (fun hHeld=> ?_)
             generalize wr.drew=w55 at HO_6 HB hx24_0 hx24_1 hx24_2 hx24_3 hx24_4 hHeld ⊢
             refine pure_ (i:=0) (N:=some 110) (v:= ?_) (a':= ?_) (bt_ 7 1) rfl rfl (by kernel_rfl) (fun _ _ _ h=>h) (Or.inl ⟨by rfl, ?_⟩) ?_ ?_
             rotate_left
             ·intro w'
              go_simp
              with_reducible rfl
             rotate_left
             ·simp only [Act.put,List.setIfInBounds_toArray,List.set_cons_zero,List.set_cons_succ,i64_w,i32_w]
              rfl
             refine pure_ (i:=1) (N:=some 111) (v:= ?_) (a':= ?_) (bt_ 7 3) rfl rfl (by kernel_rfl) (fun _ _ _ h=>h) (Or.inl ⟨by rfl, ?_⟩) ?_ ?_
             rotate_left
             ·intro w'
              go_simp
              with_reducible rfl
             rotate_left
             ·simp only [Act.put,List.setIfInBounds_toArray,List.set_cons_zero,List.set_cons_succ,i64_w,i32_w]
              rfl
             refine pure_ (i:=2) (N:=some 112) (v:= ?_) (a':= ?_) (bt_ 7 7) rfl rfl (by kernel_rfl) (fun _ _ _ h=>h) (Or.inl ⟨by rfl, ?_⟩) ?_ ?_
             rotate_left
             ·intro w'
              go_simp
              with_reducible rfl
             rotate_left
             ·simp only [Act.put,List.setIfInBounds_toArray,List.set_cons_zero,List.set_cons_succ,i64_w,i32_w]
              rfl
             refine pure_ (i:=3) (N:=some 113) (v:= ?_) (a':= ?_) (bt_ 7 15) rfl rfl (by kernel_rfl) (fun _ _ _ h=>h) (Or.inl ⟨by rfl, ?_⟩) ?_ ?_
             rotate_left
             ·intro w'
              go_simp
              with_reducible rfl
             rotate_left
             ·simp only [Act.put,List.setIfInBounds_toArray,List.set_cons_zero,List.set_cons_succ,i64_w,i32_w]
              rfl
             refine take_ (i:=4) (N:=some 114) (v:= ?_) (a':= ?_) (bt_ 7 31) rfl rfl (by kernel_rfl) (fun _ _ _ h=>h) (Or.inl ⟨by rfl, ?_⟩) hHeld ?_ ?_
             rotate_left
             ·rintro w' ⟨s0,s1,s2,s3,s4⟩
              go_simp
              with_reducible rfl
             rotate_left
             ·simp only [Act.put,List.setIfInBounds_toArray,List.set_cons_zero,List.set_cons_succ,i64_w,i32_w]
              rfl
             refine one_ (i:=5) (N:=some 115) (bt_ 7 63) rfl rfl (by kernel_rfl) (by decide) (fun K hK=> ?_)
             refine gs_ Try.func56 #[] ?_
             with_reducible refine (r10_Most.calls t25 t26 t27 _ A51.out).mono ?_
             rintro e w56 ⟨rfl,hb⟩
             have HS0_:=zh_ hb (hHeld.1)
             have HS1_:=zh_ hb (hHeld.2.1)
             have HS2_:=zh_ hb (hHeld.2.2.1)
             have HS3_:=zh_ hb (hHeld.2.2.2.1)
             have HS4_:=zh_ hb (hHeld.2.2.2.2)
             refine ⟨_,rfl, ?_⟩
             replace HO_6:=am_ (Kd.R_below (zr_ HO_6) hb)
             replace HB:=am_ (below_step (zl0_ HB) hb)
             (try clear hb)
             (try clear hb2)
             (try clear hk)
             (try clear hi)
             refine hK.out _ _ ⟨HS0_,HS1_,HS2_,HS3_,HS4_⟩ (fun hHeld=> ?_)
             clear hK K
             refine no_ (N:=some 115) ?_
             refine pure_ (i:=6) (N:=some 116) (v:= ?_) (a':= ?_) (bt_ 7 127) rfl rfl (by kernel_rfl) (fun _ _ _ h=>h) (Or.inl ⟨by rfl, ?_⟩) ?_ ?_
             rotate_left
             ·intro w'
              go_simp
              with_reducible rfl
             rotate_left
             ·simp only [Act.put,List.setIfInBounds_toArray,List.set_cons_zero,List.set_cons_succ,i64_w,i32_w]
              rfl
             refine done_ (by kernel_rfl) ?_
             try go_wp2
             go_roundg k6
             case measure=>have:=HJ2.out;have:=HK2.out;have:=HJ25.out;have:=HK4.out;have:=HJ39.out;have:=HK6.out;omega
             case rel=>exact ⟨(x14_6),(wrap64 (x15_6+1)),(by first|rfl|(simp;done)|(simp [*];done)),(by first|rfl|(simp;done)|(simp [*];done)),H',⟨by have:=HJ2.out;have:=HK2.out;have:=HJ25.out;have:=HK4.out;have:=HJ39.out;have:=HK6.out;omega⟩,⟨by (with_reducible repeat (first|apply Kd.R_alloc|apply Kd.R_drewN|apply Kd.R_drew));exact HO_6.out⟩,⟨zl0_ HB⟩⟩
noncomputable def law18_PlanWide.Pure:Prop:= ∀(l0:List Int) (l1:List Int),l0.length≤maxLen→l0.length*1≤140737488351232→(∀x∈l0,(Lit.int .u8 x).wf=true)→l1.length≤maxLen→l1.length*1≤140737488351232→(∀x∈l1,(Lit.int .u8 x).wf=true)→ ∃k,law18_PlanWide.f k l0 l1=some true
theorem law18_PlanWide.walk (P:law18_PlanWide.Pure) (a0:Option Addr) (len0 cap0:Nat) (z0:List Int) (a1:Option Addr) (len1 cap1:Nat) (z1:List Int) (w:World) (w0:(a0=none∧len0=0∧cap0=0∧z0=[])∨ ∃x,a0=some x∧len0≤cap0∧cap0≤maxLen∧z0.length=cap0∧(∀i,i<z0.length→w.cell? (x.add i)=some (.int .u8 (z0.getD i 0)))∧ ∀n∈z0,(Lit.int .u8 n).wf=true) (y0:len0*1≤140737488351232) (w1:(a1=none∧len1=0∧cap1=0∧z1=[])∨ ∃x,a1=some x∧len1≤cap1∧cap1≤maxLen∧z1.length=cap1∧(∀i,i<z1.length→w.cell? (x.add i)=some (.int .u8 (z1.getD i 0)))∧ ∀n∈z1,(Lit.int .u8 n).wf=true) (y1:len1*1≤140737488351232):
  Calls Try.prog 17 #[.slice a0 len0 cap0, .slice a1 len1 cap1] w fun e w'=>e= .returned (.bool true)∧Below w.heap.size w w':=by
 obtain ⟨l0,rfl,hr0,hm0,hw0,hc0⟩:=ReadsInt.ofRowC w0
 obtain ⟨l1,rfl,hr1,hm1,hw1,hc1⟩:=ReadsInt.ofRowC w1
 obtain ⟨k,h⟩:=P l0 l1 hm0 y0 hw0 hm1 y1 hw1
 refine (law18_PlanWide.calls k _ _ l0 _ _ l1 true w (Kd.C_of_reads (d:=(0:Int)) (h1:=fun _=>rfl) hr0) hc0 (Kd.C_of_reads (d:=(0:Int)) (h1:=fun _=>rfl) hr1) hc1 h).mono ?_
 rintro e w' ⟨rfl,hd⟩
 exact ⟨rfl,hd⟩

def slices_Clone_Item.f (l0:List (S79)):Option (List (S79)):=if l0.length<1256584717458 then some l0 else none
def shape_made.f (l0:List (S79)) (a1:ByteArray):Option ((List (S79))×Int):=(slices_Clone_Item.f l0).bind fun t2=>((tree_Find.f l0 a1).bind fun t5=>(some (t2,t5)))
def shape_change_parent.f (l0_0:List (S79)) (a0_1:Int) (a1:ByteArray):Option (Bool):=if a1.toList=([]:List UInt8) then (some true) else ((tree_Find.f l0_0 a1).bind fun t2=>(some (decide (t2≥0))))
def guardF (l:List S79) (j ver:Int):Option Int:=if j<0 then some 2 else if j<(l.length:Int) then (if 0≤ver∧(rd_T79 l j).f5≠ver then some 14 else some 0) else none
def verF (y:S79):S79:=⟨y.f0,y.f1,y.f2,y.f3,y.f4,wrap64 (y.f5+1)⟩
def olderF (l:List S79) (j:Int):Option (Int×List S79):=if 0≤j∧j<(l.length:Int) then (if (rd_T79 l j).f5≥9007199254740992 then some (4,l) else some (0,l.set j.toNat (verF (rd_T79 l j)))) else none
structure Turned (W w':World) (base:Nat) (v:Value):Prop where
 below:Below base W w'
 block: ∀(k:Nat) o,W.heap[k]?=some o→some k≠v.ownBlock→w'.heap[k]?=some o
theorem Turned.of_below {W w':World} {base:Nat} {v:Value} (h:Below W.heap.size W w') (hb:base≤W.heap.size):Turned W w' base v:=⟨⟨h.os,h.tape,h.output,h.size,fun k hk=>h.block k (Nat.lt_of_lt_of_le hk hb)⟩,fun k o hk _=>blk_below hk h⟩
end Go.Proofs.Ytahidkjncljkaaa.Print

namespace Go.Proofs.Ytahidkjncljkaaa.Print
open Go.RowKit Go.Proofs.YtahidkjncljkaaaW.PrintWords Go.Proofs.YtahidkjncljkaaaW.PrintLast Go.Proofs.YtahidkjncljkaaaW.PrintMore
end Go.Proofs.Ytahidkjncljkaaa.Print

namespace Go.Proofs.Ytahidkjncljkaaa.Print
open Go.RowKit Go.Proofs.YtahidkjncljkaaaW.PrintWords Go.Proofs.YtahidkjncljkaaaW.PrintLast Go.Proofs.YtahidkjncljkaaaW.PrintMore
attribute [local go_sem] max2_int min2_int max_two min_two max_three min_three max_four min_four
def placeL (l:List S79) (n:ByteArray):Nat:=(l.takeWhile fun y=>Op.bytesLess y.f0.toList n.toList).length
def shape_Create.f (l0:List (S79)) (a1:ByteArray) (a2:ByteArray) (a3_0:Int) (a3_1:Int) (a3_2:Int):Option ((List (S79))×Int):=
 (shape_made.f l0 a1).bind fun p=>if a1.toList=([]:List UInt8) then some ([],1) else if (a1.size:Int)>24 then some ([],1) else (vec_May.f a3_0 a3_1 a3_2).bind fun m=>if m=false then some ([],1) else
  if p.2≥0 then some ([],3) else (shape_change_parent.f p.1 p.2 a2).bind fun q=>if q=false then some ([],2) else if (l0.length:Int)≥120 then some ([],4) else
   some (p.1.take (placeL l0 a1)++⟨a1,a2,⟨a3_0,a3_1,a3_2⟩,⟨0,0,0⟩,⟨0,0,0⟩,1⟩::p.1.drop (placeL l0 a1),0)
end Go.Proofs.Ytahidkjncljkaaa.Print

namespace Go.Proofs.Ytahidkjncljkaaa.Print
open Go.RowKit Go.Proofs.YtahidkjncljkaaaW.PrintWords Go.Proofs.YtahidkjncljkaaaW.PrintLast Go.Proofs.YtahidkjncljkaaaW.PrintMore
def shSub (op:S37→S37) (y:S79):S79:=⟨y.f0,y.f1,y.f2,y.f3,op y.f4,y.f5⟩
def shiftF (op:S37→S37):List ByteArray→List S79→Option (List S79)
 |[],out=>some out
 |s::us,out=>(tree_Find.f out s).bind fun j=>if 0≤j∧j<(out.length:Int) then shiftF op us (out.set j.toNat (shSub op (rd_T79 out j))) else none
end Go.Proofs.Ytahidkjncljkaaa.Print

namespace Go.Proofs.Ytahidkjncljkaaa.Print
open Go.RowKit Go.Proofs.YtahidkjncljkaaaW.PrintWords Go.Proofs.YtahidkjncljkaaaW.PrintLast Go.Proofs.YtahidkjncljkaaaW.PrintMore
attribute [local go_sem] max2_int min2_int max_two min_two max_three min_three max_four min_four

def limF (v:S37) (y:S79):S79:=⟨y.f0,y.f1,v,y.f3,y.f4,y.f5⟩
def shape_Limit.f (l0:List (S79)) (a1:ByteArray) (a2_0:Int) (a2_1:Int) (a2_2:Int) (a3:Int):Option ((List (S79))×Int):=
 (vec_May.f a2_0 a2_1 a2_2).bind fun m=>if m=false then some ([],1) else (shape_made.f l0 a1).bind fun p=>(guardF p.1 p.2 a3).bind fun e=>if e≠0 then some ([],e) else (olderF p.1 p.2).bind fun q=>if q.1≠0 then some ([],q.1) else
  (vec_Le.f (rd_T79 q.2 p.2).f4.f0 (rd_T79 q.2 p.2).f4.f1 (rd_T79 q.2 p.2).f4.f2 a2_0 a2_1 a2_2).bind fun b=>if b=false then some ([],12) else some (q.2.set p.2.toNat (limF ⟨a2_0,a2_1,a2_2⟩ (rd_T79 q.2 p.2)),0)
def slices_Index_string_string.l0:Nat→List ByteArray→ByteArray→Int→Int→Option (Int)
 |0,_,_,_,_=>none
 |k+1,x0,x1,x7,x8=>if x8<x7 then (if 0≤x8 then (if x8<(x0.length:Int) then (if x1.toList=(rdOf ByteArray.empty x0 x8).toList then (some x8) else (slices_Index_string_string.l0 k x0 x1 x7 (wrap64 (x8+1)))) else (none)) else (none)) else (some (-1))
def slices_Index_string_string.f (k:Nat) (l0:List ByteArray) (a1:ByteArray):Option (Int):=slices_Index_string_string.l0 k l0 a1 (l0.length:Int) 0
theorem slices_Index_string_string.mono_l: ∀k,(∀y0 y1 y2 y3,LeO (slices_Index_string_string.l0 k y0 y1 y2 y3) (slices_Index_string_string.l0 (k+1) y0 y1 y2 y3))
 |0=>fun _ _ _ _ r h=>by simp [slices_Index_string_string.l0] at h
 |k+1=>by
  have ih0:=slices_Index_string_string.mono_l k
  intro y0 y1 y2 y3
  unfold slices_Index_string_string.l0
  repeat' first
  |(with_reducible exact ih0 _ _ _ _)
  |(with_reducible exact LeO.refl _)
  |(with_reducible exact LeO.none _)
  |(with_reducible refine LeO.ite ?_ ?_)
  |(with_reducible refine LeO.bind ?_ (fun _=> ?_))
  |exact ih0 _ _ _ _
  |exact LeO.none _
  |refine LeO.ite ?_ ?_
  |refine LeO.bind ?_ (fun _=> ?_)
theorem slices_Index_string_string.mono: ∀a0 a1 k,LeO (slices_Index_string_string.f k a0 a1) (slices_Index_string_string.f (k+1) a0 a1):=by
 intro a0 a1 k
 have ih0:=slices_Index_string_string.mono_l k
 unfold slices_Index_string_string.f
 repeat' first
  |(with_reducible exact ih0 _ _ _ _)
  |(with_reducible exact LeO.refl _)
  |(with_reducible exact LeO.none _)
  |(with_reducible refine LeO.ite ?_ ?_)
  |(with_reducible refine LeO.bind ?_ (fun _=> ?_))
  |exact ih0 _ _ _ _
  |exact LeO.none _
  |refine LeO.ite ?_ ?_
  |refine LeO.bind ?_ (fun _=> ?_)
def slices_Contains_string_string.f (k:Nat) (l0:List ByteArray) (a1:ByteArray):Option (Bool):=(slices_Index_string_string.f k l0 a1).bind fun t1=>(some (decide (t1≥0)))
theorem slices_Contains_string_string.mono: ∀a0 a1 k,LeO (slices_Contains_string_string.f k a0 a1) (slices_Contains_string_string.f (k+1) a0 a1):=by
 intro a0 a1 k
 unfold slices_Contains_string_string.f
 repeat' first
  |(with_reducible exact slices_Index_string_string.mono _ _ _)
  |(with_reducible exact LeO.refl _)
  |(with_reducible exact LeO.none _)
  |(with_reducible refine LeO.ite ?_ ?_)
  |(with_reducible refine LeO.bind ?_ (fun _=> ?_))
  |exact slices_Index_string_string.mono _ _ _
  |exact LeO.none _
  |refine LeO.ite ?_ ?_
  |refine LeO.bind ?_ (fun _=> ?_)
def mvAdd (v u:S37):S37:=⟨((vec_Add.f [u,v]).getD (0,0,0)).1,((vec_Add.f [u,v]).getD (0,0,0)).2.1,((vec_Add.f [u,v]).getD (0,0,0)).2.2⟩
def mvSub (v u:S37):S37:=⟨wrap64 (u.f0 - v.f0),wrap64 (u.f1 - v.f1),wrap64 (u.f2 - v.f2)⟩
def fitsF (k:Nat) (l:List S79) (from_:List ByteArray) (sub:S37):List ByteArray→Option Bool
  |[]=>some true
  | s :: us => (tree_Find.f l s).bind fun j => if 0 ≤ j ∧ j < (l.length : Int) then (slices_Contains_string_string.f k from_ s).bind fun c => if c = true then fitsF k l from_ sub us else
      (vec_Le.f (mvAdd sub (rd_T79 l j).f4).f0 (mvAdd sub (rd_T79 l j).f4).f1 (mvAdd sub (rd_T79 l j).f4).f2 (rd_T79 l j).f2.f0 (rd_T79 l j).f2.f1 (rd_T79 l j).f2.f2).bind fun b=>if b=true then fitsF k l from_ sub us else some false else none
theorem fitsF_mono (l:List S79) (from_:List ByteArray) (sub:S37) (k:Nat): ∀us,LeO (fitsF k l from_ sub us) (fitsF (k+1) l from_ sub us)
  |[]=>LeO.refl _
  | s :: us => by
    unfold fitsF
    refine LeO.bind (LeO.refl _) (fun j=>LeO.ite (LeO.bind (slices_Contains_string_string.mono _ _ _) (fun c=>LeO.ite (fitsF_mono l from_ sub k us) (LeO.bind (LeO.refl _) (fun b=>LeO.ite (fitsF_mono l from_ sub k us) (LeO.refl _))))) (LeO.refl _))
def parF (p:ByteArray) (y:S79):S79:=⟨y.f0,p,y.f2,y.f3,y.f4,y.f5⟩
def shape_Move.f (k:Nat) (l0:List (S79)) (a1:ByteArray) (a2:ByteArray) (a3:Int):Option ((List (S79))×Int):=
 (shape_made.f l0 a1).bind fun p=>(guardF p.1 p.2 a3).bind fun e=>if e≠0 then some ([],e) else (tree_Up.f k l0 a2).bind fun ts=>(shape_change_parent.f p.1 p.2 a2).bind fun q=>if q=false then some ([],2) else
  (slices_Contains_string_string.f k ts a1).bind fun c=>if c=true then some ([],10) else (olderF p.1 p.2).bind fun o=>if o.1≠0 then some ([],o.1) else
   (tree_Up.f k l0 (rd_T79 o.2 p.2).f1).bind fun fs=>(fitsF k l0 fs (rd_T79 o.2 p.2).f4 ts).bind fun b=>if b=false then some ([],12) else
    (shiftF (mvSub (rd_T79 o.2 p.2).f4) fs o.2).bind fun l3=>(shiftF (mvAdd (rd_T79 o.2 p.2).f4) ts l3).bind fun l4=>some (l4.set p.2.toNat (parF a2 (rd_T79 l4 p.2)),0)
theorem shape_Move.mono: ∀a0 a1 a2 a3 k,LeO (shape_Move.f k a0 a1 a2 a3) (shape_Move.f (k+1) a0 a1 a2 a3):=by
 intro a0 a1 a2 a3 k
 unfold shape_Move.f
 repeat' first
  |(with_reducible exact tree_Up.mono _ _ _)
  |(with_reducible exact slices_Contains_string_string.mono _ _ _)
  |(with_reducible exact fitsF_mono _ _ _ _ _)
  |(with_reducible exact LeO.refl _)
  |(with_reducible exact LeO.none _)
  |(with_reducible refine LeO.ite ?_ ?_)
  |(with_reducible refine LeO.bind ?_ (fun _=> ?_))
def tree_Below.l0:Nat→ByteArray→List ByteArray→List (S79)→Int→Int→Option (List ByteArray)
 |0,_,_,_,_,_=>none
 |k+1,x1,x5,x8,x9,x10=>if x10<x9 then (if 0≤x10 then (if x10<(x8.length:Int) then (if ((rd_T79 x8 x10).f1).toList=x1.toList then (if x5.length<8796093022208 then (tree_Below.l0 k x1 (x5++ [(rd_T79 x8 x10).f0]) x8 x9 (wrap64 (x10+1))) else (none)) else (tree_Below.l0 k x1 x5 x8 x9 (wrap64 (x10+1)))) else (none)) else (none)) else (some x5)
def tree_Below.f (k:Nat) (l0:List (S79)) (a1:ByteArray):Option (List ByteArray):=tree_Below.l0 k a1 ([]:List ByteArray) l0 (l0.length:Int) 0
theorem tree_Below.mono_l: ∀k,(∀y0 y1 y2 y3 y4,LeO (tree_Below.l0 k y0 y1 y2 y3 y4) (tree_Below.l0 (k+1) y0 y1 y2 y3 y4))
 |0=>fun _ _ _ _ _ r h=>by simp [tree_Below.l0] at h
 |k+1=>by
  have ih0:=tree_Below.mono_l k
  intro y0 y1 y2 y3 y4
  unfold tree_Below.l0
  repeat' first
  |(with_reducible exact ih0 _ _ _ _ _)
  |(with_reducible exact LeO.refl _)
  |(with_reducible exact LeO.none _)
  |(with_reducible refine LeO.ite ?_ ?_)
  |(with_reducible refine LeO.bind ?_ (fun _=> ?_))
  |exact ih0 _ _ _ _ _
  |exact LeO.none _
  |refine LeO.ite ?_ ?_
  |refine LeO.bind ?_ (fun _=> ?_)
theorem tree_Below.mono: ∀a0 a1 k,LeO (tree_Below.f k a0 a1) (tree_Below.f (k+1) a0 a1):=by
 intro a0 a1 k
 have ih0:=tree_Below.mono_l k
 unfold tree_Below.f
 repeat' first
  |(with_reducible exact ih0 _ _ _ _ _)
  |(with_reducible exact LeO.refl _)
  |(with_reducible exact LeO.none _)
  |(with_reducible refine LeO.ite ?_ ?_)
  |(with_reducible refine LeO.bind ?_ (fun _=> ?_))
  |exact ih0 _ _ _ _ _
  |exact LeO.none _
  |refine LeO.ite ?_ ?_
  |refine LeO.bind ?_ (fun _=> ?_)
def shape_Delete.f (k:Nat) (l0:List (S79)) (a1:ByteArray) (a2:Int):Option ((List (S79))×Int):=
 (shape_made.f l0 a1).bind fun p=>(guardF p.1 p.2 a2).bind fun e=>if e≠0 then some ([],e) else (tree_Below.f k l0 a1).bind fun b=>if (b.length:Int)>0 then some ([],13) else
  if (rd_T79 p.1 p.2).f3.f0=0∧(rd_T79 p.1 p.2).f3.f1=0∧(rd_T79 p.1 p.2).f3.f2=0 then some (p.1.take p.2.toNat++p.1.drop (p.2.toNat+1),0) else some ([],13)
theorem shape_Delete.mono: ∀a0 a1 a2 k,LeO (shape_Delete.f k a0 a1 a2) (shape_Delete.f (k+1) a0 a1 a2):=by
 intro a0 a1 a2 k
 unfold shape_Delete.f
 repeat' first
  |(with_reducible exact tree_Below.mono _ _ _)
  |(with_reducible exact LeO.refl _)
  |(with_reducible exact LeO.none _)
  |(with_reducible refine LeO.ite ?_ ?_)
  |(with_reducible refine LeO.bind ?_ (fun _=> ?_))
def shape_Do.f (k:Nat) (l0:List (S79)) (a1_0:Int) (a1_1:ByteArray) (a1_2:ByteArray) (a1_3:Int) (a1_4:Int) (a1_5:Int) (a2:Int):Option ((List (S79))×Int):=if a1_0=1 then ((shape_Create.f l0 a1_1 a1_2 a1_3 a1_4 a1_5).bind fun bt2=>(some (bt2.1,bt2.2))) else (if a1_0=2 then ((shape_Limit.f l0 a1_1 a1_3 a1_4 a1_5 a2).bind fun bt6=>(some (bt6.1,bt6.2))) else (if a1_0=3 then ((shape_Move.f k l0 a1_1 a1_2 a2).bind fun bt10=>(some (bt10.1,bt10.2))) else (if a1_0=4 then ((shape_Delete.f k l0 a1_1 a2).bind fun bt14=>(some (bt14.1,bt14.2))) else (some (([]:List (S79)),1)))))
theorem shape_Do.mono: ∀a0 a1 a2 a3 a4 a5 a6 a7 k,LeO (shape_Do.f k a0 a1 a2 a3 a4 a5 a6 a7) (shape_Do.f (k+1) a0 a1 a2 a3 a4 a5 a6 a7):=by
 intro a0 a1 a2 a3 a4 a5 a6 a7 k
 unfold shape_Do.f
 repeat' first
  |(with_reducible exact shape_Delete.mono _ _ _ _)
  |(with_reducible exact shape_Move.mono _ _ _ _ _)
  |(with_reducible exact LeO.refl _)
  |(with_reducible exact LeO.none _)
  |(with_reducible refine LeO.ite ?_ ?_)
  |(with_reducible refine LeO.bind ?_ (fun _=> ?_))
  |exact shape_Delete.mono _ _ _ _
  |exact shape_Move.mono _ _ _ _ _
  |exact LeO.none _
  |refine LeO.ite ?_ ?_
  |refine LeO.bind ?_ (fun _=> ?_)
def Kept (b:Nat) (W w:World):Prop:=(∀g ob,g≠b→W.heap[g]?=some ob→w.heap[g]?=some ob)∧W.heap.size≤w.heap.size
def trial_try.l0:Nat→List (S76)→Int→List (S79)→Int→Option ((List (S79))×Int×Int)
 |0,_,_,_,_=>none
 |k+1,ss,x,lc,dc=>if x<(ss.length:Int) then (if 0≤x then ((shape_Do.f k lc (rd_T76 ss x).f0 (rd_T76 ss x).f1 (rd_T76 ss x).f2 (rd_T76 ss x).f3.f0 (rd_T76 ss x).f3.f1 (rd_T76 ss x).f3.f2 (-1)).bind fun bt7=>if bt7.2=0 then trial_try.l0 k ss (wrap64 (x+1)) bt7.1 (wrap64 (dc+1)) else some (lc,dc,bt7.2)) else none) else some (lc,dc,0)
theorem trial_try.mono_l: ∀k y0 y1 y2 y3,LeO (trial_try.l0 k y0 y1 y2 y3) (trial_try.l0 (k+1) y0 y1 y2 y3)
  |0=>fun _ _ _ _ r h=>by simp [trial_try.l0] at h
  | k + 1 => by
    have ih0:=trial_try.mono_l k
    intro y0 y1 y2 y3
    unfold trial_try.l0
    repeat' first
      |(with_reducible exact ih0 _ _ _ _)
      |(with_reducible exact shape_Do.mono _ _ _ _ _ _ _ _ _)
      |(with_reducible exact LeO.refl _)
      |(with_reducible exact LeO.none _)
      |(with_reducible refine LeO.ite ?_ ?_)
      |(with_reducible refine LeO.bind ?_ (fun _=> ?_))
theorem eqA79 (d:Nat) (w:World) (x0 y0:ByteArray) (x1 y1:ByteArray) (x2 y2:Int) (x3 y3:Int) (x4 y4:Int) (x5 y5:Int) (x6 y6:Int) (x7 y7:Int) (x8 y8:Int) (x9 y9:Int) (x10 y10:Int) (x11 y11:Int):
  (Op.equalIn (d+3) 79 (.agg #[.string x0, .string x1, .int .i64 x2, .int .i64 x3, .int .i64 x4, .int .i64 x5, .int .i64 x6, .int .i64 x7, .int .i64 x8, .int .i64 x9, .int .i64 x10, .int .i64 x11]) (.agg #[.string y0, .string y1, .int .i64 y2, .int .i64 y3, .int .i64 y4, .int .i64 y5, .int .i64 y6, .int .i64 y7, .int .i64 y8, .int .i64 y9, .int .i64 y10, .int .i64 y11])).run Try.prog w= .ok (x0.toList==y0.toList && (x1.toList==y1.toList && ((x2==y2 && (x3==y3 && (x4==y4))) && ((x5==y5 && (x6==y6 && (x7==y7))) && ((x8==y8 && (x9==y9 && (x10==y10))) && (x11==y11)))))) w:=by
 refine eqA_of Try.underlying79 (by kernel_rfl) ?_
 refine eqf_cons (by rfl) (by go_simp;rfl) (by go_simp;rfl) (by go_simp) ?_
 refine eqf_cons (by rfl) (by go_simp;rfl) (by go_simp;rfl) (by go_simp) ?_
 refine eqf_cons (by rfl) (by go_simp) (by go_simp) (eqA37 (d+0) w _ _ _ _ _ _) ?_
 refine eqf_cons (by rfl) (by go_simp) (by go_simp) (eqA37 (d+0) w _ _ _ _ _ _) ?_
 refine eqf_cons (by rfl) (by go_simp) (by go_simp) (eqA37 (d+0) w _ _ _ _ _ _) ?_
 exact eqf_last (by rfl) (by go_simp;rfl) (by go_simp;rfl) (by go_simp)
attribute [local go_sem high] eqA79
end Go.Proofs.Ytahidkjncljkaaa.Print

namespace Go.Proofs.Ytahidkjncljkaaa.Print
open Go.RowKit Go.Proofs.YtahidkjncljkaaaW.PrintWords Go.Proofs.YtahidkjncljkaaaW.PrintLast Go.Proofs.YtahidkjncljkaaaW.PrintMore
end Go.Proofs.Ytahidkjncljkaaa.Print

namespace Go.Proofs.Ytahidkjncljkaaa.Print
open Go.RowKit Go.Proofs.YtahidkjncljkaaaW.PrintWords Go.Proofs.YtahidkjncljkaaaW.PrintLast Go.Proofs.YtahidkjncljkaaaW.PrintMore
attribute [local go_sem] max2_int min2_int max_two min_two max_three min_three max_four min_four

end Go.Proofs.Ytahidkjncljkaaa.Print

namespace Go.Proofs.Ytahidkjncljkaaa.Print
open Go.RowKit Go.Proofs.YtahidkjncljkaaaW.PrintWords Go.Proofs.YtahidkjncljkaaaW.PrintLast Go.Proofs.YtahidkjncljkaaaW.PrintMore
end Go.Proofs.Ytahidkjncljkaaa.Print

namespace Go.Proofs.Ytahidkjncljkaaa.Print
open Go.RowKit Go.Proofs.YtahidkjncljkaaaW.PrintWords Go.Proofs.YtahidkjncljkaaaW.PrintLast Go.Proofs.YtahidkjncljkaaaW.PrintMore
attribute [local go_sem] max2_int min2_int max_two min_two max_three min_three max_four min_four

end Go.Proofs.Ytahidkjncljkaaa.Print

namespace Go.Proofs.Ytahidkjncljkaaa.Print
open Go.RowKit Go.Proofs.YtahidkjncljkaaaW.PrintWords Go.Proofs.YtahidkjncljkaaaW.PrintLast Go.Proofs.YtahidkjncljkaaaW.PrintMore
end Go.Proofs.Ytahidkjncljkaaa.Print

namespace Go.Proofs.Ytahidkjncljkaaa.Print
open Go.RowKit Go.Proofs.YtahidkjncljkaaaW.PrintWords Go.Proofs.YtahidkjncljkaaaW.PrintLast Go.Proofs.YtahidkjncljkaaaW.PrintMore
attribute [local go_sem] max2_int min2_int max_two min_two max_three min_three max_four min_four

attribute [local go_sem high] eqA37
end Go.Proofs.Ytahidkjncljkaaa.Print

namespace Go.Proofs.Ytahidkjncljkaaa.Print
open Go.RowKit Go.Proofs.YtahidkjncljkaaaW.PrintWords Go.Proofs.YtahidkjncljkaaaW.PrintLast Go.Proofs.YtahidkjncljkaaaW.PrintMore
end Go.Proofs.Ytahidkjncljkaaa.Print

namespace Go.Proofs.Ytahidkjncljkaaa.Print
open Go.RowKit Go.Proofs.YtahidkjncljkaaaW.PrintWords Go.Proofs.YtahidkjncljkaaaW.PrintLast Go.Proofs.YtahidkjncljkaaaW.PrintMore
attribute [local go_sem] max2_int min2_int max_two min_two max_three min_three max_four min_four

end Go.Proofs.Ytahidkjncljkaaa.Print

namespace Go.Proofs.Ytahidkjncljkaaa.Print
open Go.RowKit Go.Proofs.YtahidkjncljkaaaW.PrintWords Go.Proofs.YtahidkjncljkaaaW.PrintLast Go.Proofs.YtahidkjncljkaaaW.PrintMore
end Go.Proofs.Ytahidkjncljkaaa.Print

namespace Go.Proofs.Ytahidkjncljkaaa.Print
open Go.RowKit Go.Proofs.YtahidkjncljkaaaW.PrintWords Go.Proofs.YtahidkjncljkaaaW.PrintLast Go.Proofs.YtahidkjncljkaaaW.PrintMore
attribute [local go_sem] max2_int min2_int max_two min_two max_three min_three max_four min_four

end Go.Proofs.Ytahidkjncljkaaa.Print

namespace Go.Proofs.Ytahidkjncljkaaa.Print
open Go.RowKit Go.Proofs.YtahidkjncljkaaaW.PrintWords Go.Proofs.YtahidkjncljkaaaW.PrintLast Go.Proofs.YtahidkjncljkaaaW.PrintMore
end Go.Proofs.Ytahidkjncljkaaa.Print

namespace Go.Proofs.Ytahidkjncljkaaa.Print
open Go.RowKit Go.Proofs.YtahidkjncljkaaaW.PrintWords Go.Proofs.YtahidkjncljkaaaW.PrintLast Go.Proofs.YtahidkjncljkaaaW.PrintMore
attribute [local go_sem] max2_int min2_int max_two min_two max_three min_three max_four min_four

end Go.Proofs.Ytahidkjncljkaaa.Print

namespace Go.Proofs.Ytahidkjncljkaaa.Print
open Go.RowKit Go.Proofs.YtahidkjncljkaaaW.PrintWords Go.Proofs.YtahidkjncljkaaaW.PrintLast Go.Proofs.YtahidkjncljkaaaW.PrintMore
end Go.Proofs.Ytahidkjncljkaaa.Print

namespace Go.Proofs.Ytahidkjncljkaaa.Print
open Go.RowKit Go.Proofs.YtahidkjncljkaaaW.PrintWords Go.Proofs.YtahidkjncljkaaaW.PrintLast
def idle (x:Item):Item:=⟨x.f0,x.f1,x.f2,⟨0,0,0⟩,⟨0,0,0⟩,x.f5⟩
structure St (t:List Item) (v m:Nat) (A:ByteArray→Option ByteArray):Prop where
 right:RightP t
 idle: ∀x∈t,x.f3=⟨0,0,0⟩∧x.f4=⟨0,0,0⟩
 ver: ∀x∈t,x.f5≤v
 len:t.length≤m
 par: ∀n,(look t n).map (·.f1)=A n
theorem St.some {t:List Item} {v m:Nat} {A:ByteArray→Option ByteArray} (S:St t v m A) {n p:ByteArray} (h:A n=some p): ∃x,look t n=some x∧x.f1=p:=by
  have:=S.par n
  rw [h] at this
  cases e:look t n with
  |none=>rw [e] at this;cases this
  | some x =>
    rw [e] at this
    exact ⟨x,rfl,Option.some.inj this⟩
theorem St.none {t:List Item} {v m:Nat} {A:ByteArray→Option ByteArray} (S:St t v m A) {n:ByteArray} (h:A n=none):look t n=none:=by
 have:=S.par n
 rw [h] at this
 cases e:look t n with
 |none=>rfl
 |some x=>rw [e] at this;cases this
theorem St.le {t:List Item} {v m v' m':Nat} {A:ByteArray→Option ByteArray} (S:St t v m A) (h:v≤v') (k:m≤m'):St t v' m' A:=⟨S.right,S.idle,fun x hx=>by have:=S.ver x hx;omega,by have:=S.len;omega,S.par⟩
theorem St.congr {t:List Item} {v m:Nat} {A B:ByteArray→Option ByteArray} (S:St t v m A) (h: ∀n,A n=B n):St t v m B:=⟨S.right,S.idle,S.ver,S.len,fun n=>(S.par n).trans (h n)⟩
theorem zero_le {v:Vec} (h:MayP v):LeP (⟨0,0,0⟩:Vec) v:=by
 obtain ⟨a,b,c⟩:=v
 rw [mayP_iff] at h
 rw [leP_iff]
 omega
structure TopOK (top:List Want):Prop where
 nodup:(top.map (·.f0)).Nodup
 par: ∀(pre post:List Want) (w:Want),top=pre++w::post→w.f1=⟨#[]⟩∨ ∃u∈pre,u.f0=w.f1
 may: ∀w∈top,(w.f0≠⟨#[]⟩∧w.f0.size≤24)∧MayP w.f2
def A0 (l:List Item) (n:ByteArray):Option ByteArray:=(look l n).map (·.f1)
section
variable {l:List Item} {top:List Want}
end
theorem befG_iff {l:List Item} {n a:ByteArray}:befG l n a=true↔depU l n<depU l a∨(depU l a=depU l n∧lt a n=true):=by unfold befG;simp
theorem befG_trans {l:List Item} {a b c:ByteArray} (h:befG l b a=true) (k:befG l c b=true):befG l c a=true:=by
  rw [befG_iff] at h k ⊢
  rcases h with h|⟨h,h'⟩<;>rcases k with k|⟨k,k'⟩
  · exact .inl (by omega)
  · exact .inl (by omega)
  · exact .inl (by omega)
  exact .inr ⟨by omega,lt_trans h' k'⟩
theorem befG_total {l:List Item} {a n:ByteArray} (h:befG l n a=false) (hn:a≠n):befG l a n=true:=by
  rw [←Bool.not_eq_true,befG_iff] at h
  rw [befG_iff]
  by_cases e:depU l a=depU l n
  rotate_left
  · exact .inl (by have: ¬depU l n<depU l a:=fun q=>h (.inl q);omega)
  refine .inr ⟨e.symm,lt_total ?_ hn⟩
  rw [←Bool.not_eq_true]
  exact fun q=>h (.inr ⟨e,q⟩)
theorem insG_perm (l:List Item) (n:ByteArray) (out:List ByteArray):(insG l n out).Perm (n::out):=by
 unfold insG
 have:=List.perm_middle (a:=n) (l₁:=out.takeWhile (befG l n)) (l₂:=out.dropWhile (befG l n))
 rwa [List.takeWhile_append_dropWhile] at this
def goneN (ws:List Want) (ms:List PMark):List ByteArray:=(ms.filter (fun m=> !isWant ws m.f0)).map (·.f0)
theorem goesGo_perm (ws:List Want) (l:List Item): ∀(ms:List PMark) (out:List ByteArray),(goesGo ws l out ms).Perm (out++goneN ws ms)
  |[],out=>by rw [goesGo];show List.Perm out (out++ []);rw [List.append_nil]
  | m :: ms, out => by
    rw [goesGo]
    by_cases c:isWant ws m.f0=true
    · rw [if_pos c]
      have:goneN ws (m::ms)=goneN ws ms:=by unfold goneN;rw [List.filter_cons_of_neg (by rw [c];simp)]
      rw [this]
      exact goesGo_perm ws l ms out
    rw [if_neg c]
    have:goneN ws (m::ms)=m.f0::goneN ws ms:=by unfold goneN;rw [List.filter_cons_of_pos (by rw [Bool.eq_false_iff.2 c];rfl)];rfl
    rw [this]
    refine (goesGo_perm ws l ms _).trans (((insG_perm l m.f0 out).append_right _).trans ?_)
    exact List.perm_middle.symm
def looseL (l:List Item):List PMark:=l.map fun x=>⟨x.f0,x.f1,x.f2,x.f5⟩
theorem wide_some (l:List Item): ∀(xs:List Want) (b:Bool),∃wd,wideGo l (looseL l) b xs=some wd
  |[],b=>⟨b,rfl⟩
  | w :: xs, b => by
    rw [wideGo]
    cases h:look l w.f0 with
    |none=>exact wide_some l xs b
    | some x =>
      have: ¬mlook (looseL l) w.f0=none:=fun q=>by
        obtain ⟨hm,hf⟩:=look_mem h
        exact mlook_none.1 q _ (List.mem_map_of_mem hm) hf
      dsimp only
      rw [if_neg this]
      exact wide_some l xs _
end Go.Proofs.Ytahidkjncljkaaa.Print

namespace Go.Proofs.Ytahidkjncljkaaa.Print
open Go.RowKit Go.Proofs.YtahidkjncljkaaaW.PrintWords Go.Proofs.YtahidkjncljkaaaW.PrintLast Go.Proofs.YtahidkjncljkaaaW.PrintMore
theorem mx_zero {a:Int} (h:0≤a):mx 0 a=a:=by unfold mx;split<;>omega
theorem mx3 {a b:Int} (h:0≤b):mx (mx 0 a) b=mx a b:=by unfold mx;repeat' split<;>omega
theorem nowG_eq {l:List Item} (wide:Bool) {y:Want} (h:MayP y.f2):nowG wide (goalOf l y)=upV l wide y:=by
  have h0:=(mayP_iff.1 h).1.1
  have h1:=(mayP_iff.1 h).2.1.1
  have h2:=(mayP_iff.1 h).2.2.1
  unfold nowG upV
  cases wide with
  |true=>rfl
  | false =>
    rw [if_neg (by simp),if_neg (by simp)]
    unfold goalOf
    cases look l y.f0 with
    | none =>
      show (⟨mx (mx 0 0) y.f2.f0,mx (mx 0 0) y.f2.f1,mx (mx 0 0) y.f2.f2⟩:Vec)=y.f2
      rw [mx3 h0,mx3 h1,mx3 h2,mx_zero h0,mx_zero h1,mx_zero h2]
    | some x =>
      show (⟨mx (mx 0 x.f2.f0) y.f2.f0,mx (mx 0 x.f2.f1) y.f2.f1,mx (mx 0 x.f2.f2) y.f2.f2⟩:Vec)=_
      rw [mx3 h0,mx3 h1,mx3 h2]
theorem bq (a b:Int):(a==b)=(b==a):=by
 rw [Bool.eq_iff_iff,beq_iff_eq,beq_iff_eq]
 exact ⟨Eq.symm,Eq.symm⟩
theorem neG_neV (a b:Vec):neG a b=neV b a:=by
 unfold neG neV
 rw [show (a.f0==b.f0)=(b.f0==a.f0) from bq _ _,show (a.f1==b.f1)=(b.f1==a.f1) from bq _ _,show (a.f2==b.f2)=(b.f2==a.f2) from bq _ _]
theorem upG_f (l:List Item) (wide:Bool) (y:Want):(upG wide (goalOf l y)).f0=y∧(upG wide (goalOf l y)).f1=(goalOf l y).f1∧(upG wide (goalOf l y)).f2=(goalOf l y).f2∧(goalOf l y).f0=y:=by
 have:(goalOf l y).f0=y:=by unfold goalOf;split<;>rfl
 exact ⟨this,rfl,rfl,this⟩
theorem raise_eq {l:List Item} (wide:Bool) {y:Want} (h:MayP y.f2):raiseG wide (goalOf l y)=raiseS l wide y:=by
 have e:=nowG_eq (l:=l) wide h
 have q: ∀z:PGoal,raiseG wide z=if z.f2=false then [⟨1,z.f0.f0,z.f0.f1,nowG wide z⟩] else if neG (nowG wide z) z.f1.f2=true then [⟨2,z.f0.f0,⟨#[]⟩,nowG wide z⟩] else []:=fun z=>rfl
 rw [q,e,neG_neV,(upG_f l wide y).2.2.2]
 unfold raiseS goalOf
 cases look l y.f0 with
 |none=>exact if_pos rfl
 |some x=>exact if_neg (by simp)
theorem move_eq {l:List Item} (wide:Bool) (y:Want):moveG (upG wide (goalOf l y))=moveS l y:=by
  have q: ∀z:PGoal,moveG (upG wide z)=if z.f2=true∧z.f1.f1.toList≠z.f0.f1.toList then [⟨3,z.f0.f0,z.f0.f1,⟨0,0,0⟩⟩] else []:=fun z=>rfl
  rw [q,(upG_f l wide y).2.2.2]
  unfold moveS goalOf
  cases look l y.f0 with
  |none=>exact if_neg (by simp [gzero])
  | some x =>
    dsimp only
    by_cases c:x.f1=y.f1
    · rw [if_pos c,if_neg (by rw [c];simp)]
    rw [if_neg c,if_pos ⟨rfl,nm_ne.2 c⟩]
theorem lower_eq {l:List Item} (wide:Bool) {y:Want} (h:MayP y.f2):lowerG (upG wide (goalOf l y))=lowerS l wide y:=by
 have q: ∀z:PGoal,lowerG (upG wide z)=if neG (nowG wide z) z.f0.f2=true then [⟨2,z.f0.f0,⟨#[]⟩,z.f0.f2⟩] else []:=fun z=>rfl
 rw [q,nowG_eq wide h,neG_neV,(upG_f l wide y).2.2.2]
 unfold lowerS
 rw [show neV y.f2 (upV l wide y)=neV (upV l wide y) y.f2 from Bool.eq_iff_iff.2 (by rw [neV_iff,neV_iff];exact ⟨fun a b=>a b.symm,fun a b=>a b.symm⟩)]
theorem wide_eq (l:List Item) (ms:List PMark): ∀(ys:List Want) (b:Bool),wideP l ms b ys=wideGo l ms b ys
  |[],b=>rfl
  | y :: ys, b => by
    have q:(ms.any (fun m=>m.f0.toList==y.f0.toList))=(mlook ms y.f0).isSome:=by
      unfold mlook
      rw [List.isSome_find?]
      congr 1
      funext m
      exact nm_beq _ _
    unfold wideP wideGo badW wideOf
    rw [q,wide_eq l ms ys]
    cases look l y.f0 with
    |none=>rw [if_neg (by simp)];dsimp only;rw [Bool.or_false]
    | some x =>
      dsimp only
      cases mlook ms y.f0 with
      |none=>rw [if_pos (by simp),if_pos rfl]
      | some m =>
        rw [if_neg (by simp),if_neg (by simp)]
        rw [show (x.f1.toList !=y.f1.toList)= !decide (x.f1=y.f1) from by unfold bne;rw [nm_beq]]
theorem flat_congr {α β:Type} {f g:α→List β}: ∀{l:List α},(∀x∈l,f x=g x)→l.flatMap f=l.flatMap g
  |[],_=>rfl
  | x :: l, h => by
    rw [List.flatMap_cons,List.flatMap_cons,h x (by simp),flat_congr fun y hy=>h y (List.mem_cons_of_mem _ hy)]
theorem befG_asym {l:List Item} {a b:ByteArray} (h:befG l a b=true):befG l b a=false:=by
  rw [←Bool.not_eq_true]
  intro k
  rw [befG_iff] at h k
  rcases h with h|⟨h,h'⟩<;>rcases k with k|⟨k,k'⟩
  · omega
  · omega
  · omega
  exact absurd (lt_trans h' k') (by rw [lt_irrefl];simp)
theorem befG_neg {l:List Item} {a b c:ByteArray} (h:befG l a b=false) (k:befG l b c=false):befG l a c=false:=by
  rw [←Bool.not_eq_true]
  intro q
  by_cases e:b=a
  · subst e;rw [q] at k;cases k
  have h1:=befG_total h e
  have h2:=befG_trans q h1
  rw [h2] at k;cases k
theorem insG_weak {l:List Item} {n:ByteArray}: ∀{out:List ByteArray},out.Pairwise (fun a b=>befG l a b=false)→(insG l n out).Pairwise (fun a b=>befG l a b=false)
  |[],h=>by simp [insG]
  | x :: out, h => by
    rw [List.pairwise_cons] at h
    unfold insG
    rw [List.takeWhile_cons,List.dropWhile_cons]
    by_cases c:befG l n x=true
    · rw [c]
      show (x::insG l n out).Pairwise _
      rw [List.pairwise_cons]
      refine ⟨fun a ha=> ?_,insG_weak h.2⟩
      rcases List.mem_cons.1 ((insG_perm l n out).mem_iff.1 ha) with rfl|ha
      · exact befG_asym c
      exact h.1 a ha
    rw [Bool.eq_false_iff.2 c]
    show (n::x::out).Pairwise _
    rw [List.pairwise_cons,List.pairwise_cons]
    refine ⟨fun a ha=> ?_,h⟩
    rcases List.mem_cons.1 ha with rfl|ha
    · exact Bool.eq_false_iff.2 c
    exact befG_neg (Bool.eq_false_iff.2 c) (h.1 a ha)
theorem goesGo_weak (ws:List Want) (l:List Item): ∀(ms:List PMark) (out:List ByteArray),out.Pairwise (fun a b=>befG l a b=false)→(goesGo ws l out ms).Pairwise (fun a b=>befG l a b=false)
  |[],out,h=>by rw [goesGo];exact h
  | m :: ms, out, h => by
    rw [goesGo]
    by_cases c:isWant ws m.f0=true
    · rw [if_pos c];exact goesGo_weak ws l ms out h
    rw [if_neg c];exact goesGo_weak ws l ms _ (insG_weak h)
theorem drop_eq (l:List Item) (wide:Bool) (ws:List Want): ∀ms:List PMark,dropN (((topR ws).map (goalOf l)).map (upG wide)) ms=goneN ws ms
  |[]=>rfl
  | m :: ms => by
    have q:hasG (((topR ws).map (goalOf l)).map (upG wide)) m=isWant ws m.f0:=by
      unfold hasG isWant
      rw [List.any_map,List.any_map,Bool.eq_iff_iff,List.any_eq_true,List.any_eq_true]
      constructor
      · rintro ⟨y, hy, e⟩
        refine ⟨y,(topR_perm ws).mem_iff.1 hy, ?_⟩
        have e2:(y.f0.toList==m.f0.toList)=true:=by rw [←(upG_f l wide y).1];exact e
        rwa [nm_beq] at e2
      rintro ⟨y,hy,e⟩
      refine ⟨y,(topR_perm ws).mem_iff.2 hy, ?_⟩
      show ((upG wide (goalOf l y)).f0.f0.toList==m.f0.toList)=true
      rw [(upG_f l wide y).1,nm_beq]
      exact e
    show (if hasG _ m=true then dropN _ ms else m.f0::dropN _ ms)=_
    rw [q,drop_eq l wide ws ms]
    unfold goneN
    by_cases c:isWant ws m.f0=true
    · rw [if_pos c,List.filter_cons_of_neg (by rw [c];simp)]
    rw [if_neg c,List.filter_cons_of_pos (by rw [Bool.eq_false_iff.2 c];rfl)];rfl
theorem gone_eq {l:List Item} {wide:Bool} {ws:List Want} {ms:List PMark} {ns:List ByteArray} (h:GoneIs (((topR ws).map (goalOf l)).map (upG wide)) ms l ns):ns=goesR ws ms l:=by
  obtain ⟨h1,h2⟩:=h
  rw [drop_eq] at h1
  have k1:(goesR ws ms l).Perm (goneN ws ms):=(goesGo_perm ws l ms []).trans (by rw [List.nil_append])
  have k2:=goesGo_weak ws l ms [] List.Pairwise.nil
  refine List.Perm.eq_of_pairwise (le:=fun a b=>befG l a b=false) ?_ ?_ k2 (h1.trans k1.symm)
  · intro a b _ _ hab hba
    by_cases e:a=b
    · exact e
    have:=befG_total hba e
    rw [hab] at this;cases this
  refine h2.imp ?_
  intro a b hab
  rw [←Bool.not_eq_true]
  intro q
  refine hab (cmpW_neg.2 ?_)
  rw [befG_iff] at q
  unfold depN
  rcases q with q|⟨q,q'⟩
  · exact .inl (by omega)
  exact .inr ⟨by omega,q'⟩
theorem gone_is (l:List Item) (wide:Bool) (ws:List Want) (ms:List PMark):GoneIs (((topR ws).map (goalOf l)).map (upG wide)) ms l (goesR ws ms l):=by
  refine ⟨?_, ?_⟩
  · rw [drop_eq]
    exact (goesGo_perm ws l ms []).trans (by rw [List.nil_append])
  refine (goesGo_weak ws l ms [] List.Pairwise.nil).imp ?_
  intro a b hab q
  rw [←Bool.not_eq_true] at hab
  refine hab (befG_iff.2 ?_)
  have q:=cmpW_neg.1 q
  unfold depN at q
  rcases q with q|⟨q,q'⟩
  · exact .inl (by omega)
  exact .inr ⟨by omega,q'⟩
theorem mayW_may {y:Want} (h:mayW y=true):MayP y.f2:=by
 unfold mayW at h
 exact (of_decide_eq_true h).2
theorem plan_is {ws:List Want} {ms:List PMark} {l:List Item} (r:List PStep) (e:Int):PlanIs ws (topR ws) ms l r e↔(r,e)=planR ws ms l:=by
  unfold PlanIs planR
  by_cases hz:checkR ws=0
  rotate_left
  · rw [if_neg hz, if_neg hz]
    exact ⟨fun ⟨a,b⟩=>by rw [a,b],fun h=>by injection h with a b;exact ⟨a,b⟩⟩
  rw [if_pos hz,if_pos hz,wide_eq]
  have T:=checkR_tree (.inl hz)
  have hm: ∀y∈topR ws,MayP y.f2:=fun y hy=>mayW_may (T.may y ((topR_perm ws).mem_iff.1 hy))
  cases wideGo l ms false (topR ws) with
  |none=>exact ⟨fun ⟨a,b⟩=>by rw [a,b],fun h=>by injection h with a b;exact ⟨a,b⟩⟩
  | some wide =>
    dsimp only
    have e1:((topR ws).map (goalOf l)).flatMap (raiseG wide)=(topR ws).flatMap (raiseS l wide):=by
      rw [List.flatMap_map]
      exact flat_congr fun y hy=>raise_eq wide (hm y hy)
    have e2:(((topR ws).map (goalOf l)).map (upG wide)).flatMap moveG=(topR ws).flatMap (moveS l):=by
      rw [List.flatMap_map,List.flatMap_map]
      exact flat_congr fun y hy=>move_eq wide y
    have e3:(((topR ws).map (goalOf l)).map (upG wide)).reverse.flatMap lowerG=(topR ws).reverse.flatMap (lowerS l wide):=by
      rw [←List.map_reverse,←List.map_reverse,List.flatMap_map,List.flatMap_map]
      exact flat_congr fun y hy=>lower_eq wide (hm y (List.mem_reverse.1 hy))
    rw [e1,e2,e3]
    constructor
    · rintro ⟨rfl, ns, hg, rfl⟩
      rw [gone_eq hg]
    intro h
    injection h with a b
    exact ⟨b,_,gone_is l wide ws ms,a⟩
theorem plan_Steps_ev {ws:List Want} {ms:List PMark} {l:List Item} (hs:smallW ws) (hl:l.length<10000) (hm:ms.length<10000):plan_Steps.f ws ms l=some (planR ws ms l):=by
 have hx:(smallW ws∧l.length<10000∧ms.length<10000)∧ ∃p:List PStep×Int,PlanIs ws (topR ws) ms l p.1 p.2∧ ∀q:List PStep×Int,PlanIs ws (topR ws) ms l q.1 q.2→q=p:=
  ⟨⟨hs,hl,hm⟩,planR ws ms l,(plan_is _ _).2 rfl,fun q hq=>(plan_is q.1 q.2).1 hq⟩
 unfold plan_Steps.f
 rw [dif_pos hx]
 have:=hx.2.choose_spec.1
 rw [plan_is] at this
 exact congrArg some this
def creS (w:Want):PStep:=⟨1,w.f0,w.f1,w.f2⟩
theorem wide_nil (ms:List PMark): ∀ys:List Want,wideGo [] ms false ys=some false
 |[]=>rfl
 |y::ys=>wide_nil ms ys
theorem plan_fresh {ws:List Want} (h:checkR ws=0):planR ws [] []=((topR ws).map creS,0):=by
 unfold planR
 rw [if_pos h,wide_nil]
 dsimp only
 have e1:(topR ws).flatMap (raiseS [] false)=(topR ws).map creS:=by
  rw [List.map_eq_flatMap]
  rfl
 have e2:(topR ws).flatMap (moveS [])=[]:=by
  rw [List.flatMap_eq_nil_iff]
  intro y _
  rfl
 have e3:(topR ws).reverse.flatMap (lowerS [] false)=[]:=by
  rw [List.flatMap_eq_nil_iff]
  intro y _
  exact if_neg (by rw [show upV [] false y=y.f2 from rfl,neV_iff];simp)
 rw [e1,e2,e3]
 show (_++_++_++List.map delS [],0)=_
 rw [List.map_nil,List.append_nil,List.append_nil,List.append_nil]
def exS:List Want:=[⟨⟨#[97]⟩,⟨#[]⟩,⟨0,0,0⟩⟩]
theorem exS_small:smallW exS:=by
 intro w hw
 unfold exS at hw
 simp only [List.mem_cons,List.not_mem_nil,or_false] at hw
 subst hw
 exact ⟨by decide,by decide⟩
theorem awake18:law18_awake.f=some true:=by
 have h1:=(plan_Steps_ev (ws:=exS) (ms:=[]) (l:=[]) exS_small (by decide) (by decide)).trans (congrArg some (plan_fresh (ws:=exS) (by decide)))
 have h2:=(plan_Steps_ev (ws:=[]) (ms:=[]) (l:=[]) nil_small (by decide) (by decide)).trans (congrArg some (plan_fresh (ws:=[]) (by decide)))
 rw [show topR exS=exS from by kernel_rfl] at h1
 rw [show topR []=[] from rfl] at h2
 unfold law18_awake.f
 rw [show exS=[⟨⟨#[97]⟩,⟨#[]⟩,⟨0,0,0⟩⟩] from rfl] at h1
 rw [h1,h2]
 refine Eq.trans (b:=some true) ?_ rfl
 kernel_rfl
theorem awake18_ev:Ev (fun _=>(law18_awake.f).bind fun t=>some t) true:=by
 rw [awake18]
 exact Ev.const rfl
end Go.Proofs.Ytahidkjncljkaaa.Print

namespace Go.Proofs.Ytahidkjncljkaaa.Print
open Go.RowKit Go.Proofs.YtahidkjncljkaaaW.PrintWords Go.Proofs.YtahidkjncljkaaaW.PrintLast
def upM (p:Nat→Bool):Nat→Bool
 |0=>true
 |n+1=>p n && upM p n
theorem upM_all {p:Nat→Bool}: ∀{n i:Nat},upM p n=true→i<n→p i=true
  | n + 1, i, h, hi => by
    unfold upM at h
    rw [Bool.and_eq_true] at h
    by_cases e:i=n
    · rw [e];exact h.1
    exact upM_all h.2 (by omega)
def nmM (i:Nat):ByteArray:=⟨#[UInt8.ofNat (97+(i*7) % 24)]⟩
theorem nmM_strs:upM (fun i=>decide (strOfNums [(wrap64 (97+(Int.tmod (wrap64 ((i:Int)*7)) 24))) % 256]=nmM i)) 24=true:=by kernel_rfl
theorem nmM_str {i:Nat} (h:i<24):strOfNums [(wrap64 (97+(Int.tmod (wrap64 ((i:Int)*7)) 24))) % 256]=nmM i:=by
 have:=upM_all nmM_strs h
 rwa [decide_eq_true_iff] at this
theorem nmM_injs:upM (fun i=>upM (fun j=>decide (nmM i≠nmM j∨i=j)) 24) 24=true:=by kernel_rfl
theorem nmM_inj {i j:Nat} (hi:i<24) (hj:j<24) (h:nmM i=nmM j):i=j:=by
 have a:upM (fun j=>decide (nmM i≠nmM j∨i=j)) 24=true:=upM_all (p:=fun i=>upM (fun j=>decide (nmM i≠nmM j∨i=j)) 24) nmM_injs hi
 have:=upM_all a hj
 rw [decide_eq_true_iff] at this
 exact this.resolve_left (fun q=>q h)
theorem nmM_ne (i:Nat):nmM i≠⟨#[]⟩:=fun h=>by
 have:=congrArg ByteArray.size h
 cases this
theorem nmM_size (i:Nat):(nmM i).size=1:=rfl
theorem sumGo_snoc (n:ByteArray) (w:Want): ∀(l:List Want) (v:Vec),sumGo n (l++ [w]) v=if w.f1=n then vadd (sumGo n l v) w.f2 else sumGo n l v
  |[],v=>by simp only [List.nil_append,sumGo]
  | x :: l, v => by
    rw [List.cons_append]
    unfold sumGo
    exact sumGo_snoc n w l _
theorem sumGo_zero (n:ByteArray): ∀(l:List Want) (v:Vec),(∀x∈l,x.f1≠n)→sumGo n l v=v
  |[],v,_=>rfl
  | x :: l, v, h => by
    unfold sumGo
    rw [if_neg (h x (by simp))]
    exact sumGo_zero n l v (fun y hy=>h y (by simp [hy]))
structure MkI (c:Bool) (l:List Want) (left:List Int):Prop where
 len:left.length=l.length
 n24:l.length≤24
 nm: ∀(i:Nat) (w:Want),l[i]?=some w→w.f0=nmM i
 par: ∀(i:Nat) (w:Want),l[i]?=some w→w.f1=⟨#[]⟩∨ ∃p,p<i∧w.f1=nmM p
 may: ∀w∈l,MayP w.f2
 lo: ∀(i:Nat) (x:Int),left[i]?=some x→0≤x∧x≤8193
 sum:c=false→ ∀(i:Nat) (w:Want) (x:Int),l[i]?=some w→left[i]?=some x→ ∀o:Comp,o.of (sumW l w.f0)+x≤o.of w.f2
theorem mkI_nil (c:Bool):MkI c [] []:=⟨rfl,Nat.zero_le _,(fun i w h=>by simp at h),(fun i w h=>by simp at h),(fun w h=>by simp at h),(fun i x h=>by simp at h),(fun _ i w x h=>by simp at h)⟩
theorem snoc_get {α:Type} {l:List α} {a w:α} {i:Nat} (h:(l++ [a])[i]?=some w):(l[i]?=some w∧i<l.length)∨(i=l.length∧w=a):=by
  by_cases c:i<l.length
  · rw [List.getElem?_append_left c] at h
    exact .inl ⟨h,c⟩
  rw [List.getElem?_append_right (by omega)] at h
  have hi:i - l.length=0:=by
    have:=(List.getElem?_eq_some_iff.1 h).1
    simp only [List.length_singleton] at this
    omega
  rw [hi] at h
  simp only [List.getElem?_cons_zero,Option.some.injEq] at h
  exact .inr ⟨by omega,h.symm⟩
theorem mk_add {c:Bool} {l:List Want} {left left1:List Int} (I:MkI c l left) (h:l.length<24) {lim b:Int} (hl:0≤lim∧lim≤8193) (hb:b=0∨b=1) {par:ByteArray} (hlen:left1.length=left.length) (hp:par=⟨#[]⟩∨ ∃p,p<l.length∧par=nmM p)
    (hlo: ∀(i:Nat) (x:Int),left1[i]?=some x→0≤x∧x≤8193) (hs:c=false→ ∀(i:Nat) (x1:Int),left1[i]?=some x1→ ∃x,left[i]?=some x∧x1≤x∧(par=nmM i→x1+lim≤x)):MkI c (l++ [⟨nmM l.length,par,⟨lim,lim,lim - lim / 3*b⟩⟩]) (left1++ [lim - lim / 3]) where
  len:=by rw [List.length_append,List.length_append,hlen,I.len];rfl
  n24:=by rw [List.length_append,List.length_singleton];omega
  nm:=fun i w q=>by
    rcases snoc_get q with ⟨q,_⟩|⟨rfl,rfl⟩
    · exact I.nm i w q
    rfl
  par:=fun i w q=>by
    rcases snoc_get q with ⟨q,_⟩|⟨rfl,rfl⟩
    · exact I.par i w q
    exact hp
  may:=fun w q=>by
    rcases List.mem_append.1 q with q|q
    · exact I.may w q
    rw [List.mem_singleton] at q
    subst q
    rw [mayP_iff]
    rcases hb with rfl|rfl<;>omega
  lo:=fun i x q=>by
    rcases snoc_get q with ⟨q,_⟩|⟨rfl,rfl⟩
    · exact hlo i x q
    omega
  sum:=fun hc i w x q1 q2 o=>by
    have e:sumW (l++ [⟨nmM l.length,par,⟨lim,lim,lim - lim / 3*b⟩⟩]) w.f0=if par=w.f0 then vadd (sumW l w.f0) ⟨lim,lim,lim - lim / 3*b⟩ else sumW l w.f0:=sumGo_snoc _ _ _ _
    have hv:o.of (⟨lim,lim,lim - lim / 3*b⟩:Vec)≤lim∧lim - lim / 3≤o.of (⟨lim,lim,lim - lim / 3*b⟩:Vec):=by
      cases o<;>simp only [Comp.of]<;>rcases hb with rfl|rfl<;>omega
    rcases snoc_get q1 with ⟨q1,hi⟩|⟨rfl,rfl⟩
    · rcases snoc_get q2 with ⟨q2, _⟩ | ⟨rfl, _⟩
      rotate_left
      · rw [hlen,I.len] at hi;omega
      obtain ⟨x0,g1,g2,g3⟩:=hs hc i x q2
      have g:=I.sum hc i w x0 q1 g1 o
      rw [e]
      by_cases d:par=w.f0
      rotate_left
      · rw [if_neg d];omega
      have:=g3 (by rw [d];exact I.nm i w q1)
      rw [if_pos d,of_vadd]
      omega
    rcases snoc_get q2 with ⟨q2,hi⟩|⟨_,rfl⟩
    · rw [hlen,I.len] at hi;omega
    have z:sumW l (nmM l.length)=⟨0,0,0⟩:=sumGo_zero _ _ _ (fun y hy=>by
      obtain ⟨i,hi,rfl⟩:=List.getElem_of_mem hy
      rcases I.par i l[i] (List.getElem?_eq_getElem hi) with q|⟨p,hp,q⟩
      · rw [q];exact fun k=>nmM_ne _ k.symm
      rw [q];exact fun k=>by have:=nmM_inj (by omega) (by omega) k;omega)
    have e2: ¬par=nmM l.length:=fun k=>by
      rcases hp with q|⟨p,hp,q⟩
      · rw [q] at k;exact nmM_ne _ k.symm
      rw [q] at k;have:=nmM_inj (by omega) (by omega) k;omega
    rw [e]
    show o.of (if par=nmM l.length then _ else sumW l (nmM l.length))+_≤_
    rw [if_neg e2,z]
    have:o.of (⟨0,0,0⟩:Vec)=0:=by cases o<;>rfl
    show _≤o.of (⟨lim,lim,lim - lim / 3*b⟩:Vec)
    omega
theorem mk_root {c:Bool} {l:List Want} {left:List Int} (I:MkI c l left) (h:l.length<24) {lim b:Int} (hl:0≤lim∧lim≤8193) (hb:b=0∨b=1):MkI c (l++ [⟨nmM l.length,⟨#[]⟩,⟨lim,lim,lim - lim / 3*b⟩⟩]) (left++ [lim - lim / 3]):=
 mk_add I h hl hb rfl (.inl rfl) I.lo (fun _ i x q=>⟨x,q,Int.le_refl _,fun k=>absurd k.symm (nmM_ne i)⟩)
theorem mk_kid {c:Bool} {l:List Want} {left:List Int} (I:MkI c l left) (h:l.length<24) {lim b:Int} (hl:0≤lim∧lim≤8193) (hb:b=0∨b=1) {p:Nat} (hp:p<l.length) {x q:Int} (hx:left[p]?=some x) (hq:0≤q∧q≤x) (hc:c=false→lim=q):
    MkI c (l++ [⟨nmM l.length,nmM p,⟨lim,lim,lim - lim / 3*b⟩⟩]) (left.set p (x - q)++ [lim - lim / 3]):=by
  have hpl:p<left.length:=by rw [I.len];exact hp
  have g:=I.lo p x hx
  refine mk_add I h hl hb (List.length_set ..) (.inr ⟨p,hp,rfl⟩) (fun i y hy=> ?_) (fun hc' i y hy=> ?_)
  · rw [List.getElem?_set] at hy
    by_cases e:p=i
    · rw [if_pos e, if_pos hpl] at hy
      obtain rfl:=Option.some.inj hy
      omega
    rw [if_neg e] at hy
    exact I.lo i y hy
  rw [List.getElem?_set] at hy
  by_cases e:p=i
  · rw [if_pos e, if_pos hpl] at hy
    obtain rfl:=Option.some.inj hy
    subst e
    have:=hc hc'
    exact ⟨x,hx,by omega,fun _=>by omega⟩
  rw [if_neg e] at hy
  refine ⟨y,hy,Int.le_refl _,fun k=> ?_⟩
  have hi:=(List.getElem?_eq_some_iff.1 hy).1
  exact absurd (nmM_inj (by omega) (by rw [I.len] at hi;omega) k) e
theorem mk_look {c:Bool} {l:List Want} {left:List Int} (I:MkI c l left) {i:Nat} {w:Want} (h:l[i]?=some w):lookW l (nmM i)=some w:=by
  obtain ⟨hi,rfl⟩:=List.getElem?_eq_some_iff.1 h
  have hn:=I.nm i _ h
  cases e:lookW l (nmM i) with
  |none=>exact absurd hn (lookW_none.1 e _ (List.getElem_mem hi))
  | some x =>
    obtain ⟨hm,hf⟩:=lookW_mem e
    obtain ⟨j,hj,rfl⟩:=List.getElem_of_mem hm
    have:=I.nm j _ (List.getElem?_eq_getElem hj)
    rw [this] at hf
    have:=nmM_inj (by have:=I.n24;omega) (by have:=I.n24;omega) hf
    subst this
    rfl
theorem mk_parW {c:Bool} {l:List Want} {left:List Int} (I:MkI c l left):ParW l:=by
  refine ⟨fun w hw=> ?_,fun w hw e=> ?_⟩
  · obtain ⟨i, hi, rfl⟩ := List.getElem_of_mem hw
    rw [I.nm i _ (List.getElem?_eq_getElem hi)]
    exact nmM_ne i
  obtain ⟨i,hi,rfl⟩:=List.getElem_of_mem hw
  rcases I.par i _ (List.getElem?_eq_getElem hi) with q|⟨p,hp,q⟩
  · exact absurd q e
  rw [q]
  exact ⟨_,mk_look I (List.getElem?_eq_getElem (show p<l.length by omega))⟩
theorem mk_chain {c:Bool} {l:List Want} {left:List Int} (I:MkI c l left): ∀(n i:Nat) (hi:i<l.length),i<n→ ∃us,ChainW l (nmM i) (nmM i::us)
  | n + 1, i, hi, hn => by
    have hl:=mk_look I (List.getElem?_eq_getElem hi)
    rcases I.par i _ (List.getElem?_eq_getElem hi) with q|⟨p,hp,q⟩
    · exact ⟨[],chainW_cons hl (by rw [q];exact chainW_nil (mk_parW I).root)⟩
    obtain ⟨us,k⟩:=mk_chain I n p (by omega) (by omega)
    exact ⟨_,chainW_cons hl (by rw [q];exact k)⟩
theorem mk_nodup {c:Bool} {l:List Want} {left:List Int} (I:MkI c l left):(l.map (·.f0)).Nodup:=by
 rw [List.nodup_iff_pairwise_ne,List.pairwise_iff_getElem]
 intro i j hi hj hij
 rw [List.length_map] at hi hj
 rw [List.getElem_map,List.getElem_map,I.nm i _ (List.getElem?_eq_getElem hi),I.nm j _ (List.getElem?_eq_getElem hj)]
 have:=I.n24
 exact fun k=>by have:=nmM_inj (by omega) (by omega) k;omega
theorem mk_tree {c:Bool} {l:List Want} {left:List Int} (I:MkI c l left):TreeW l where
 len:=by have:=I.n24;omega
 may:=fun w hw=>mayW_iff.2 ⟨by
  obtain ⟨i,hi,rfl⟩:=List.getElem_of_mem hw
  rw [I.nm i _ (List.getElem?_eq_getElem hi)]
  exact ⟨nmM_ne i,by rw [nmM_size];omega⟩,I.may w hw⟩
 nodup:=mk_nodup I
 par:=mk_parW I
 dep:=fun w hw=>by
  obtain ⟨i,hi,rfl⟩:=List.getElem_of_mem hw
  obtain ⟨us,k⟩:=mk_chain I (i+1) i hi (by omega)
  rw [I.nm i _ (List.getElem?_eq_getElem hi),depR_chain (mk_parW I) k,List.length_cons]
  omega
theorem mk_small {c:Bool} {l:List Want} {left:List Int} (I:MkI c l left):smallW l:=fun w hw=>by
  obtain ⟨i,hi,rfl⟩:=List.getElem_of_mem hw
  refine ⟨?_, ?_⟩
  · rw [I.nm i _ (List.getElem?_eq_getElem hi),nmM_size];omega
  rcases I.par i _ (List.getElem?_eq_getElem hi) with q|⟨p,hp,q⟩
  · rw [q];decide
  rw [q,nmM_size];omega
theorem mk_check {l:List Want} {left:List Int} (I:MkI false l left):checkR l=0:=by
 rw [checkR_of (mk_tree I),if_neg]
 rw [any_false]
 intro w hw
 obtain ⟨i,hi,rfl⟩:=List.getElem_of_mem hw
 have h2:i<left.length:=by rw [I.len];exact hi
 have lo:=I.lo i _ (List.getElem?_eq_getElem h2)
 have:LeP (sumW l l[i].f0) l[i].f2:=fun o=>by
  have:=I.sum rfl i _ _ (List.getElem?_eq_getElem hi) (List.getElem?_eq_getElem h2) o
  omega
 rw [decide_eq_true this]
 rfl
theorem lims_eq {lim x:Int} (hl:0≤lim∧lim≤8193) (hx:0≤x∧x≤255): ∃b:Int,(b=0∨b=1)∧wrap64 (lim - (wrap64 ((wrap64 (Int.tdiv lim 3))*(wrap64 (Int.tmod x 2)))))=lim - lim / 3*b∧wrap64 (lim - (wrap64 (Int.tdiv lim 3)))=lim - lim / 3:=by
  have e1:Int.tdiv lim 3=lim / 3:=Int.tdiv_eq_ediv_of_nonneg hl.1
  have e2:Int.tmod x 2=x % 2:=Int.tmod_eq_emod_of_nonneg hx.1
  rw [e1,e2,w64 (n:=lim / 3) (by omega) (by omega),w64 (n:=x % 2) (by omega) (by omega),w64 (n:=lim - lim / 3) (by omega) (by omega)]
  refine ⟨x % 2,by omega, ?_,rfl⟩
  rcases (show x % 2=0∨x % 2=1 by omega) with q|q
  · rw [q,Int.mul_zero,w64 (n:=0) (by omega) (by omega),w64 (by omega) (by omega)]
  rw [q,Int.mul_one,w64 (n:=lim / 3) (by omega) (by omega),w64 (by omega) (by omega)]
theorem rd_nat (l:List Int) {i:Nat} (h:i<l.length):rd l (i:Int)=l[i]:=by
 unfold rd
 rw [Int.toNat_natCast,List.getD_eq_getElem?_getD,List.getElem?_eq_getElem h,Option.getD_some]
theorem mkE1:wrap64 ((wrap64 (4096*2))+1)=8193:=by unfold wrap64;rfl
theorem make_go {ns:List Int} {c:Bool} (hns:ns.length≤60) (hb: ∀x∈ns,0≤x∧x≤255): ∀(d j:Nat) (l:List Want) (left:List Int),ns.length - 2*j≤d→2*j≤ns.length+1→MkI c l left→ ∃r left',Ev (fun k=>law11_Make.l0 k ns c l left ((2*j:Nat):Int)) r∧MkI c r left'
  | d, j, l, left, hd, hj, I => by
    have e1:wrap64 (((2*j:Nat):Int)+1)=((2*j+1:Nat):Int):=by rw [w64 (by omega) (by omega)];rfl
    have e3:wrap64 (((2*j:Nat):Int)+2)=((2*(j+1):Nat):Int):=by rw [w64 (by omega) (by omega)];omega
    by_cases h:2*j+1<ns.length∧l.length<24
    rotate_left
    · have stop : Ev (fun k => law11_Make.j1 k ns c l left ((2 * j : Nat) : Int) false) l := Ev.step (fun k => law11_Make.j1.eq_2 (k := k) ..) (Ev.congr (fun k => if_neg (by simp)) (Ev.now _))
      refine ⟨l,left,Ev.step (fun k=>law11_Make.l0.eq_2 (k:=k) ..) ?_,I⟩
      by_cases a:2*j+1<ns.length
      · refine Ev.congr (fun k => ?_) stop
        rw [e1,if_pos (show ((2*j+1:Nat):Int)<(ns.length:Int) by omega),decide_eq_false (show¬(l.length:Int)<24 by omega)]
      refine Ev.congr (fun k=> ?_) stop
      rw [e1,if_neg (show¬((2*j+1:Nat):Int)<(ns.length:Int) by omega)]
    obtain ⟨h1,h24⟩:=h
    match d,hd with
    |0,hd=>omega
    |d+1,hd=>
    have IH:=make_go (c:=c) hns hb d (j+1)
    obtain ⟨x,hx⟩: ∃x,x=ns[2*j]:=⟨_,rfl⟩
    obtain ⟨y,hy⟩: ∃y,y=ns[2*j+1]:=⟨_,rfl⟩
    have bx:=hb x (by rw [hx];exact List.getElem_mem _)
    have by':=hb y (by rw [hy];exact List.getElem_mem _)
    have rx:rd ns ((2*j:Nat):Int)=x:=by rw [rd_nat ns (by omega),hx]
    have ry:rd ns ((2*j+1:Nat):Int)=y:=by rw [rd_nat ns h1,hy]
    have wx:wrap64 x=x:=w64 (by omega) (by omega)
    have hnm:=nmM_str h24
    have hlen:=I.len
    have c1:(0:Int)≤((2*j:Nat):Int):=by omega
    have c2:((2*j:Nat):Int)<(ns.length:Int):=by omega
    have c3:(0:Int)≤((2*j+1:Nat):Int):=by omega
    have c4:((2*j+1:Nat):Int)<(ns.length:Int):=by omega
    have g1:l.length<2513169434916:=by omega
    have g2:left.length<17592186044416:=by omega
    have leaf: ∀(L:Int) (par:ByteArray) (left1:List Int),0≤L∧L≤8193→(∀b:Int,(b=0∨b=1)→MkI c (l++ [⟨nmM l.length,par,⟨L,L,L - L / 3*b⟩⟩]) (left1++ [L - L / 3]))→
        ∃r left',Ev (fun k=>law11_Make.l0 k ns c (l++ [⟨nmM l.length,par,⟨L,L,wrap64 (L - (wrap64 ((wrap64 (Int.tdiv L 3))*(wrap64 (Int.tmod y 2)))))⟩⟩]) (left1++ [wrap64 (L - (wrap64 (Int.tdiv L 3)))]) ((2*(j+1):Nat):Int)) r∧MkI c r left':=fun L par left1 hL k=>by
      obtain ⟨b,hbb,q1,q2⟩:=lims_eq hL by'
      rw [q1,q2]
      exact IH _ _ (by omega) (by omega) (k b hbb)
    have root: ∃r left',Ev (fun k=>law11_Make.j2 k ns c l left ((2*j:Nat):Int) (l.length:Int) x 4096 false (nmM l.length) ⟨#[]⟩ 4096 4096 4096) r∧MkI c r left':=by
      have lo:=leaf 4096 ⟨#[]⟩ left (by omega) (fun b hbb=>mk_root I h24 (by omega) hbb)
      have hi:=leaf 8193 ⟨#[]⟩ left (by omega) (fun b hbb=>mk_root I h24 (by omega) hbb)
      cases hc:c with
      | true =>
        subst hc
        by_cases m:Int.tmod y 16=0
        · obtain ⟨r, left', ev, I'⟩ := hi
          refine ⟨r,left',Ev.step (fun k=>law11_Make.j2.eq_2 (k:=k) ..) (Ev.congr (fun k=> ?_) ev),I'⟩
          rw [if_neg (by simp),if_pos rfl,e1,if_pos c3,if_pos c4,ry,if_pos m,if_pos g1,if_pos g2,mkE1,e3]
        obtain ⟨r,left',ev,I'⟩:=lo
        refine ⟨r,left',Ev.step (fun k=>law11_Make.j2.eq_2 (k:=k) ..) (Ev.congr (fun k=> ?_) ev),I'⟩
        rw [if_neg (by simp),if_pos rfl,e1,if_pos c3,if_pos c4,ry,if_neg m,if_pos g1,if_pos g2,e3]
      | false =>
        subst hc
        obtain ⟨r,left',ev,I'⟩:=lo
        refine ⟨r,left',Ev.step (fun k=>law11_Make.j2.eq_2 (k:=k) ..) (Ev.congr (fun k=> ?_) ev),I'⟩
        rw [if_neg (by simp),if_neg (by simp),e1,if_pos c3,if_pos c4,ry,if_pos g1,if_pos g2,e3]
    have kid:0<l.length→ ∃r left',Ev (fun k=>law11_Make.j2 k ns c l left ((2*j:Nat):Int) (l.length:Int) x 4096 true (nmM l.length) ⟨#[]⟩ 4096 4096 4096) r∧MkI c r left':=fun h0=>by
      obtain ⟨p,hp,hpl⟩: ∃p:Nat,Int.tmod (wrap64 (Int.tdiv x 3)) (l.length:Int)=(p:Int)∧p<l.length:=by
        have q1:Int.tdiv x 3=x / 3:=Int.tdiv_eq_ediv_of_nonneg bx.1
        rw [q1,w64 (n:=x / 3) (by omega) (by omega),Int.tmod_eq_emod_of_nonneg (by omega)]
        have a:=Int.emod_nonneg (x / 3) (show (l.length:Int)≠0 by omega)
        have b:=Int.emod_lt_of_pos (x / 3) (show (0:Int)<l.length by omega)
        exact ⟨(x / 3 % (l.length:Int)).toNat,by omega,by omega⟩
      have hpf:p<left.length:=by omega
      obtain ⟨f,hf⟩: ∃f,f=left[p]:=⟨_,rfl⟩
      have rf:rd left (p:Int)=f:=by rw [rd_nat left hpf,hf]
      have hg:left[p]?=some f:=by rw [List.getElem?_eq_getElem hpf,hf]
      have bf:=I.lo p f hg
      have q1:wrap64 (Int.tdiv f 2)=f / 2:=by rw [Int.tdiv_eq_ediv_of_nonneg bf.1,w64 (by omega) (by omega)]
      have q2:wrap64 (f - f / 2)=f - f / 2:=w64 (by omega) (by omega)
      have q3:wrap64 (wrap64 (f / 2*2)+1)=f / 2*2+1:=by rw [w64 (n:=f / 2*2) (by omega) (by omega),w64 (by omega) (by omega)]
      have rn:(rd_T39 l (p:Int)).f0=nmM p:=by rw [rd_wantN l hpl];exact I.nm p _ (List.getElem?_eq_getElem hpl)
      have d1: ¬(l.length:Int)=0:=by omega
      have d2:(0:Int)≤(p:Int):=by omega
      have d3:(p:Int)<(l.length:Int):=by omega
      have d4:(p:Int)<(left.length:Int):=by omega
      have g3:(left.set p (f - f / 2)).length<17592186044416:=by rw [List.length_set];exact g2
      have lo:=leaf (f / 2) (nmM p) (left.set p (f - f / 2)) (by omega) (fun b hbb=>mk_kid I h24 (by omega) hbb hpl hg (by omega) (fun _=>rfl))
      cases hc:c with
      | true =>
        have hi:=leaf (f / 2*2+1) (nmM p) (left.set p (f - f / 2)) (by omega) (fun b hbb=>mk_kid I h24 (by omega) hbb hpl hg (by omega) (fun e=>by rw [hc] at e;cases e))
        subst hc
        by_cases m:Int.tmod y 16=0
        · obtain ⟨r, left', ev, I'⟩ := hi
          refine ⟨r,left',Ev.step (fun k=>law11_Make.j2.eq_2 (k:=k) ..) (Ev.congr (fun k=> ?_) ev),I'⟩
          rw [if_pos rfl,if_neg d1,hp,if_pos d2,if_pos d3,if_pos d4,Option.bind_some,if_pos rfl,e1,if_pos c3,if_pos c4,ry,if_pos m,if_pos g1,rf,q1,q2,Int.toNat_natCast,if_pos g3,q3,rn,e3]
        obtain ⟨r,left',ev,I'⟩:=lo
        refine ⟨r,left',Ev.step (fun k=>law11_Make.j2.eq_2 (k:=k) ..) (Ev.congr (fun k=> ?_) ev),I'⟩
        rw [if_pos rfl,if_neg d1,hp,if_pos d2,if_pos d3,if_pos d4,Option.bind_some,if_pos rfl,e1,if_pos c3,if_pos c4,ry,if_neg m,if_pos g1,rf,q1,q2,Int.toNat_natCast,if_pos g3,rn,e3]
      | false =>
        subst hc
        obtain ⟨r,left',ev,I'⟩:=lo
        refine ⟨r,left',Ev.step (fun k=>law11_Make.j2.eq_2 (k:=k) ..) (Ev.congr (fun k=> ?_) ev),I'⟩
        rw [if_pos rfl,if_neg d1,hp,if_pos d2,if_pos d3,if_pos d4,Option.bind_some,if_neg (by simp),e1,if_pos c3,if_pos c4,ry,if_pos g1,rf,q1,q2,Int.toNat_natCast,if_pos g3,rn,e3]
    have fin: ∃r left',Ev (fun k=>law11_Make.j1 k ns c l left ((2*j:Nat):Int) true) r∧MkI c r left':=by
      by_cases h0:0<l.length
      rotate_left
      · obtain ⟨r, left', ev, I'⟩ := root
        refine ⟨r,left',Ev.step (fun k=>law11_Make.j1.eq_2 (k:=k) ..) (Ev.congr (fun k=> ?_) ev),I'⟩
        rw [if_pos rfl,if_pos c1,if_pos c2,Option.bind_some,if_neg (by omega),rx,wx,hnm]
      by_cases t:Int.tmod x 3>0
      · obtain ⟨r, left', ev, I'⟩ := kid h0
        refine ⟨r,left',Ev.step (fun k=>law11_Make.j1.eq_2 (k:=k) ..) (Ev.congr (fun k=> ?_) ev),I'⟩
        rw [if_pos rfl,if_pos c1,if_pos c2,Option.bind_some,if_pos (by omega),rx,wx,hnm,decide_eq_true t]
      obtain ⟨r,left',ev,I'⟩:=root
      refine ⟨r,left',Ev.step (fun k=>law11_Make.j1.eq_2 (k:=k) ..) (Ev.congr (fun k=> ?_) ev),I'⟩
      rw [if_pos rfl,if_pos c1,if_pos c2,Option.bind_some,if_pos (by omega),rx,wx,hnm,decide_eq_false t]
    obtain ⟨r,left',ev,I'⟩:=fin
    refine ⟨r,left',Ev.step (fun k=>law11_Make.l0.eq_2 (k:=k) ..) (Ev.congr (fun k=> ?_) ev),I'⟩
    rw [e1,if_pos c4,decide_eq_true (show (l.length:Int)<24 by omega)]
theorem make_ev {ns:List Int} (c:Bool) (hns:ns.length≤60) (hb: ∀x∈ns,0≤x∧x≤255): ∃r left,Ev (fun k=>law11_Make.f k ns c) r∧MkI c r left:=
 make_go hns hb ns.length 0 [] [] (by omega) (by omega) (mkI_nil c)
end Go.Proofs.Ytahidkjncljkaaa.Print

namespace Go.Proofs.Ytahidkjncljkaaa.Print
open Go.RowKit Go.Proofs.YtahidkjncljkaaaW.PrintWords Go.Proofs.YtahidkjncljkaaaW.PrintLast Go.Proofs.YtahidkjncljkaaaW.PrintMore
theorem pw_u8 {x:Int} (h:(Lit.int .u8 x).wf=true):0≤x∧x≤255:=by
 simp only [Lit.wf,Bool.and_eq_true,decide_eq_true_eq] at h
 obtain ⟨h1,h2⟩:=h
 exact ⟨h1,h2⟩
theorem loose_l0 {l:List Item} (hl:l.length≤1000): ∀(d i:Nat),l.length - i=d→i≤l.length→Ev (fun k=>law18_Loose.l0 k l ((l.take i).map fun x=>(⟨x.f0,x.f1,x.f2,x.f5⟩:PMark)) (i:Int)) (looseL l)
  | 0, i, hd, hi => by
    obtain rfl:i=l.length:=by omega
    refine Ev.step (fun k=>law18_Loose.l0.eq_2 (k:=k) ..) (Ev.congr (fun k=>if_neg (by omega)) ?_)
    rw [List.take_length]
    exact Ev.now _
  | d + 1, i, hd, hi => by
    have hlt:i<l.length:=by omega
    have e1:wrap64 ((i:Int)+1)=((i+1:Nat):Int):=by rw [w64 (by omega) (by omega)];rfl
    have next:=loose_l0 hl d (i+1) (by omega) (by omega)
    rw [List.take_succ_eq_append_getElem hlt,List.map_append] at next
    refine Ev.step (fun k=>law18_Loose.l0.eq_2 (k:=k) ..) (Ev.congr (fun k=>by rw [if_pos (by omega),if_pos (by omega),if_pos (by rw [List.length_map,List.length_take];omega),rd_itemN l hlt,e1];rfl) next)
theorem loose_ev {l:List Item} (hl:l.length≤1000):Ev (fun k=>law18_Loose.f k l) (looseL l):=by
 unfold law18_Loose.f
 have:=loose_l0 hl l.length 0 (by omega) (by omega)
 rw [List.take_zero] at this
 exact this
def mostV:Vec:=⟨1099511627776,1099511627776,1099511627776⟩
theorem most_eq:r10_Most.f=some (1099511627776,1099511627776,1099511627776):=by kernel_rfl
theorem rd_stepN (s:List PStep) {i:Nat} (h:i<s.length):rd_T76 s (i:Int)=s[i]:=by
 show s.getD (i:Int).toNat _=_
 rw [Int.toNat_natCast,List.getD_eq_getElem?_getD,List.getElem?_eq_getElem h,Option.getD_some]
def cntW (ws:List Want):Nat:=(ws.filter (fun y=>neV y.f2 mostV)).length
theorem pw_l3 {ws:List Want} (hw:ws.length≤1000) {a b:Int} {N:Nat} (h:a=0∨b=(N:Int)): ∀(d i n:Nat),ws.length - i=d→i≤ws.length→n+((ws.drop i).filter (fun y=>neV y.f2 mostV)).length=N→n≤i→Ev (fun k=>law18_PlanWide.l3 k ws a b (n:Int) (i:Int)) true
  | 0, i, n, hd, hi, hn, hni => by
    obtain rfl:i=ws.length:=by omega
    rw [List.drop_length] at hn
    have hn:n=N:=by simpa using hn
    refine Ev.step (fun k=>law18_PlanWide.l3.eq_2 (k:=k) ..) (Ev.congr (fun k=>if_neg (by omega)) ?_)
    by_cases c:a=0
    · exact Ev.congr (fun k=>if_pos c) awake18_ev
    exact Ev.congr (fun k=>(if_neg c).trans (if_pos (h.elim (fun q=>absurd q c) (fun q=>by rw [q,hn])))) awake18_ev
  | d + 1, i, n, hd, hi, hn, hni => by
    have hlt:i<ws.length:=by omega
    have e1:wrap64 ((i:Int)+1)=((i+1:Nat):Int):=by rw [w64 (by omega) (by omega)];rfl
    have e2:wrap64 ((n:Int)+1)=((n+1:Nat):Int):=by rw [w64 (by omega) (by omega)];rfl
    rw [List.drop_eq_getElem_cons hlt,List.filter_cons] at hn
    refine Ev.step (fun k=>law18_PlanWide.l3.eq_2 (k:=k) ..) (Ev.congr (fun k=>by rw [if_pos (by omega),if_pos (by omega),most_eq,rd_wantN ws hlt,e1,e2,Option.bind_some]) ?_)
    by_cases c:neV ws[i].f2 mostV=true
    · rw [if_pos c, List.length_cons] at hn
      exact Ev.congr (fun k=>if_pos c) (pw_l3 hw h d (i+1) (n+1) (by omega) (by omega) (by omega) (by omega))
    rw [if_neg c] at hn
    exact Ev.congr (fun k=>if_neg c) (pw_l3 hw h d (i+1) n (by omega) (by omega) hn (by omega))
theorem pwo2 {n X N:Nat} (h:n+(X+1)=N):n+1+X=N:=by omega
theorem pwo3 {n t T:Nat} (h:n+(t+1)≤T):n+1+t≤T:=by omega
theorem pwo4 {n X N:Nat} (h:n+(X+0)=N):n+X=N:=by omega
theorem pwo5 {n t T:Nat} (h:n+(t+1)≤T):n+t≤T:=by omega
theorem getq {α:Type} {T:List α} {q t:Nat} (h:q=t) (hq:q<T.length) (ht:t<T.length):T[q]=T[t]:=by
 subst h
 rfl
theorem pw_l2 {ws:List Want} (hw:ws.length≤1000) {s P T:List PStep} {m:PStep} {a:Int} (ha:0<a) (e:s=(P++ [m])++T) (hm:m.f0=3) (hT: ∀x∈T,x.f0≠3) (hl:s.length≤5000) {N:Nat} (hr:Ev (fun k=>law18_PlanWide.l3 k ws a (N:Int) 0 0) true): ∀(t n:Nat),t≤T.length→n+((T.take t).filter (fun x=>decide (x.f0=2))).length=N→n+t≤T.length→Ev (fun k=>law18_PlanWide.l2 k ws s a (n:Int) ((P.length+t:Nat):Int)) true
  | 0, n, ht, hn, hn2 => by
    have hsl:s.length=P.length+1+T.length:=by rw [e,List.length_append,List.length_append,List.length_singleton]
    have hi:P.length<s.length:=by omega
    have g:s[P.length]=m:=by
      subst e
      rw [List.getElem_append_left (by rw [List.length_append,List.length_singleton];omega),List.getElem_append_right (Nat.le_refl _)]
      simp
    have hn:n=N:=by simpa using hn
    refine Ev.step (fun k=>law18_PlanWide.l2.eq_2 (k:=k) ..) (Ev.congr (fun k=>by rw [if_pos (by omega),if_pos (by omega),if_pos (by omega),if_pos (by omega),Nat.add_zero,rd_stepN s hi,g,hm]) ?_)
    refine Ev.step (fun k=>law18_PlanWide.j6.eq_2 (k:=k) ..) (Ev.congr (fun k=>if_neg (by decide)) ?_)
    rw [hn]
    exact hr
  | t + 1, n, ht, hn, hn2 => by
    have hsl:s.length=P.length+1+T.length:=by rw [e,List.length_append,List.length_append,List.length_singleton]
    have hi:P.length+(t+1)<s.length:=by omega
    have htl:t<T.length:=by omega
    have g:s[P.length+(t+1)]=T[t]:=by
      subst e
      rw [List.getElem_append_right (by rw [List.length_append,List.length_singleton];omega)]
      exact getq (by rw [List.length_append,List.length_singleton];omega) _ htl
    have h3:T[t].f0≠3:=hT _ (List.getElem_mem htl)
    rw [List.take_succ_eq_append_getElem htl,List.filter_append,List.length_append] at hn
    have e1:wrap64 (((P.length+(t+1):Nat):Int) - 1)=((P.length+t:Nat):Int):=by rw [w64 (by omega) (by omega)];omega
    have e2:wrap64 ((n:Int)+1)=((n+1:Nat):Int):=by rw [w64 (by omega) (by omega)];rfl
    have hb:(T[t].f0 !=3)=true:=bne_iff_ne.2 h3
    refine Ev.step (fun k=>law18_PlanWide.l2.eq_2 (k:=k) ..) (Ev.congr (fun k=>by rw [if_pos (by omega),if_pos (by omega),if_pos (by omega),if_pos (by omega),rd_stepN s hi,g,hb]) ?_)
    refine Ev.step (fun k=>law18_PlanWide.j6.eq_2 (k:=k) ..) (Ev.congr (fun k=>by rw [if_pos rfl,if_pos (by omega),if_pos (by omega),rd_stepN s hi,g,e1,e2]) ?_)
    by_cases c:T[t].f0=2
    · rw [List.filter_cons_of_pos (p := fun x : PStep => decide (x.f0 = 2)) (decide_eq_true c), List.filter_nil, List.length_singleton] at hn
      exact Ev.congr (fun k=>if_pos c) (pw_l2 hw ha e hm hT hl hr t (n+1) (Nat.le_of_succ_le ht) (pwo2 hn) (pwo3 hn2))
    rw [List.filter_cons_of_neg (p:=fun x:PStep=>decide (x.f0=2)) (by simpa using c),List.filter_nil,List.length_nil] at hn
    exact Ev.congr (fun k=>if_neg c) (pw_l2 hw ha e hm hT hl hr t n (Nat.le_of_succ_le ht) (pwo4 hn) (pwo5 hn2))
theorem pw_l1 {ws:List Want} {s R T:List PStep} {m:PStep} {a:Int} (ha:0<a) (e:s=R++m::T) (hm:m.f0=3) (hR: ∀x∈R,x.f0≠3∧x.f3=mostV) (hl:s.length≤5000) (hr:Ev (fun k=>law18_PlanWide.l2 k ws s a 0 ((s.length - 1:Nat):Int)) true): ∀(d i:Nat),R.length - i=d→i≤R.length→Ev (fun k=>law18_PlanWide.l1 k ws s a (i:Int)) true
  | d, i, hd, hi => by
    have hsl:s.length=R.length+(T.length+1):=by rw [e,List.length_append,List.length_cons]
    have hlt:i<s.length:=by omega
    have hda:decide (a>0)=true:=decide_eq_true ha
    refine Ev.step (fun k=>law18_PlanWide.l1.eq_2 (k:=k) ..) (Ev.congr (fun k=>by rw [if_pos (by omega),hda]) ?_)
    refine Ev.step (fun k=>law18_PlanWide.j3.eq_2 (k:=k) ..) (Ev.congr (fun k=>by rw [if_pos rfl,if_pos (by omega),if_pos (by omega),rd_stepN s hlt]) ?_)
    cases d with
    | zero =>
      have g:s[i]=m:=by
        obtain rfl:i=R.length:=by omega
        subst e
        rw [List.getElem_append_right (Nat.le_refl _)]
        simp
      refine Ev.congr (fun k=>if_pos (by rw [g,hm])) ?_
      refine Ev.step (fun k=>law18_PlanWide.j4.eq_2 (k:=k) ..) ?_
      rw [show wrap64 ((s.length:Int) - 1)=((s.length - 1:Nat):Int) from by rw [w64 (by omega) (by omega)];omega]
      exact hr
    | succ d =>
      have hir:i<R.length:=by omega
      have g:s[i]=R[i]:=by
        subst e
        rw [List.getElem_append_left hir]
      have hx:=hR _ (List.getElem_mem hir)
      have e1:wrap64 ((i:Int)+1)=((i+1:Nat):Int):=by rw [w64 (by omega) (by omega)];rfl
      refine Ev.congr (fun k=>by rw [g,if_neg hx.1,most_eq,hx.2,Option.bind_some,if_neg (by decide),e1]) ?_
      exact pw_l1 ha e hm hR hl hr d (i+1) (by omega) (by omega)
theorem pw_l0 {ws:List Want} {s:List PStep} (hl:s.length≤5000) {N:Nat} (hr:Ev (fun k=>law18_PlanWide.l1 k ws s (N:Int) 0) true): ∀(d i n:Nat),s.length - i=d→i≤s.length→n+((s.drop i).filter (fun x=>decide (x.f0=3))).length=N→n≤i→Ev (fun k=>law18_PlanWide.l0 k ws s (n:Int) (i:Int)) true
  | 0, i, n, hd, hi, hn, hni => by
    obtain rfl:i=s.length:=by omega
    rw [List.drop_length] at hn
    have hn:n=N:=by simpa using hn
    rw [←hn] at hr
    exact Ev.step (fun k=>law18_PlanWide.l0.eq_2 (k:=k) ..) (Ev.congr (fun k=>if_neg (by omega)) hr)
  | d + 1, i, n, hd, hi, hn, hni => by
    have hlt:i<s.length:=by omega
    have e1:wrap64 ((i:Int)+1)=((i+1:Nat):Int):=by rw [w64 (by omega) (by omega)];rfl
    have e2:wrap64 ((n:Int)+1)=((n+1:Nat):Int):=by rw [w64 (by omega) (by omega)];rfl
    rw [List.drop_eq_getElem_cons hlt] at hn
    refine Ev.step (fun k=>law18_PlanWide.l0.eq_2 (k:=k) ..) (Ev.congr (fun k=>by rw [if_pos (by omega),if_pos (by omega),rd_stepN s hlt,e1,e2]) ?_)
    by_cases c:s[i].f0=3
    · rw [List.filter_cons_of_pos (p := fun x : PStep => decide (x.f0 = 3)) (decide_eq_true c), List.length_cons] at hn
      exact Ev.congr (fun k=>if_pos c) (pw_l0 hl hr d (i+1) (n+1) (by omega) (by omega) (by omega) (by omega))
    rw [List.filter_cons_of_neg (p:=fun x:PStep=>decide (x.f0=3)) (by simpa using c)] at hn
    exact Ev.congr (fun k=>if_neg c) (pw_l0 hl hr d (i+1) n (by omega) (by omega) hn (by omega))
theorem pw_none {ws:List Want} (hw:ws.length≤1000) {s:List PStep} (hl:s.length≤5000):Ev (fun k=>law18_PlanWide.l1 k ws s 0 0) true:=by
  refine Ev.step (fun k=>law18_PlanWide.l1.eq_2 (k:=k) ..) ?_
  have hj:Ev (fun k=>law18_PlanWide.j3 k ws s 0 0 false) true:=by
    refine Ev.step (fun k=>law18_PlanWide.j3.eq_2 (k:=k) ..) (Ev.congr (fun k=>if_neg (by decide)) ?_)
    refine Ev.step (fun k=>law18_PlanWide.j4.eq_2 (k:=k) ..) ?_
    refine Ev.step (fun k=>law18_PlanWide.l2.eq_2 (k:=k) ..) ?_
    have h6: ∀z:Int,Ev (fun k=>law18_PlanWide.j6 k ws s 0 0 z false) true:=fun z=>
      Ev.step (fun k=>law18_PlanWide.j6.eq_2 (k:=k) ..) (Ev.congr (fun k=>if_neg (by decide)) (pw_l3 hw (.inl rfl) ws.length 0 0 (by omega) (by omega) (by rw [List.drop_zero,Nat.zero_add]) (by omega)))
    by_cases c:wrap64 ((s.length:Int) - 1)≥0
    · exact Ev.congr (fun k=>(if_pos c).trans (if_neg (by decide))) (h6 _)
    exact Ev.congr (fun k=>if_neg c) (h6 _)
  by_cases c:(0:Int)<(s.length:Int)
  · exact Ev.congr (fun k=>if_pos c) hj
  exact Ev.congr (fun k=>if_neg c) hj
theorem wide_false {l:List Item} {ms:List PMark}: ∀(ys:List Want) (b:Bool),wideGo l ms b ys=some false→b=false∧ ∀y∈ys,moveS l y=[]
  |[],b,h=>⟨Option.some.inj h,fun y hy=>by cases hy⟩
  | y :: ys, b, h => by
    rw [wideGo] at h
    cases e:look l y.f0 with
    | none =>
      rw [e] at h
      obtain ⟨h1,h2⟩:=wide_false ys b h
      refine ⟨h1,fun z hz=> ?_⟩
      rcases List.mem_cons.1 hz with rfl|hz
      · unfold moveS;rw [e]
      exact h2 z hz
    | some x =>
      rw [e] at h
      dsimp only at h
      by_cases c:mlook ms y.f0=none
      · rw [if_pos c] at h;cases h
      rw [if_neg c] at h
      obtain ⟨h1,h2⟩:=wide_false ys _ h
      have h3:b=false∧(!decide (x.f1=y.f1))=false:=by
        cases b with
        |true=>cases h1
        |false=>exact ⟨rfl,h1⟩
      refine ⟨h3.1,fun z hz=> ?_⟩
      rcases List.mem_cons.1 hz with rfl|hz
      rotate_left
      · exact h2 z hz
      unfold moveS
      rw [e]
      exact if_pos (by simpa using h3.2)
theorem raise_kind {l:List Item} {wide:Bool} {y:Want} {x:PStep} (h:x∈raiseS l wide y):x.f0≠3∧x.f3=upV l wide y:=by
  unfold raiseS at h
  split at h
  · rw [List.mem_singleton] at h;subst h;exact ⟨show (1:Int)≠3 by decide,rfl⟩
  split at h
  · rw [List.mem_singleton] at h;subst h;exact ⟨show (2:Int)≠3 by decide,rfl⟩
  cases h
theorem move_kind {l:List Item} {y:Want} {x:PStep} (h:x∈moveS l y):x.f0=3:=by
  unfold moveS at h
  split at h
  · cases h
  split at h
  · cases h
  rw [List.mem_singleton] at h;subst h;rfl
theorem lower_kind {l:List Item} {wide:Bool} {y:Want} {x:PStep} (h:x∈lowerS l wide y):x.f0=2:=by
  unfold lowerS at h
  split at h
  · rw [List.mem_singleton] at h;subst h;rfl
  cases h
theorem lower_count (l:List Item): ∀ys:List Want,(ys.flatMap (lowerS l true)).length=(ys.filter (fun y=>neV y.f2 mostV)).length
  |[]=>rfl
  | y :: ys => by
    have q:neV (upV l true y) y.f2=neV y.f2 mostV:=Bool.eq_iff_iff.2 (by rw [neV_iff,neV_iff];exact ⟨fun a b=>a b.symm,fun a b=>a b.symm⟩)
    rw [List.flatMap_cons,List.length_append,lower_count l ys,List.filter_cons]
    unfold lowerS
    rw [q]
    split
    · simp only [List.length_cons,List.length_nil];omega
    simp only [List.length_nil];omega
theorem pw_len {l:List Item} {wide:Bool}: ∀ys:List Want,(ys.flatMap (raiseS l wide)).length≤ys.length∧(ys.flatMap (moveS l)).length≤ys.length∧(ys.flatMap (lowerS l wide)).length≤ys.length
  |[]=>⟨Nat.le_refl _,Nat.le_refl _,Nat.le_refl _⟩
  | y :: ys => by
    obtain ⟨h1,h2,h3⟩:=pw_len (l:=l) (wide:=wide) ys
    have a1:(raiseS l wide y).length≤1:=by unfold raiseS;split<;>(try split)<;>simp
    have a2:(moveS l y).length≤1:=by unfold moveS;split<;>(try split)<;>simp
    have a3:(lowerS l wide y).length≤1:=by unfold lowerS;split<;>simp
    rw [List.flatMap_cons,List.flatMap_cons,List.flatMap_cons,List.length_append,List.length_append,List.length_append,List.length_cons]
    exact ⟨by omega,by omega,by omega⟩
theorem pw_main {ws:List Want} (hw:ws.length≤1000) {s R M L D:List PStep} (e:s=((R++M)++L)++D) (hl:s.length≤5000) (hR: ∀x∈R,x.f0≠3∧(M≠ []→x.f3=mostV)) (hM: ∀x∈M,x.f0=3) (hL: ∀x∈L,x.f0=2) (hD: ∀x∈D,x.f0=4) (hn:M≠ []→L.length=cntW ws):Ev (fun k=>law18_PlanWide.l0 k ws s 0 0) true:=by
  by_cases c:M=[]
  · subst c
    rw [List.append_nil] at e
    have h0:s.filter (fun x=>decide (x.f0=3))=[]:=by
      rw [List.filter_eq_nil_iff]
      intro x hx
      rw [e,List.mem_append,List.mem_append] at hx
      rcases hx with (hx|hx)|hx
      · simpa using (hR x hx).1
      · simp [hL x hx]
      simp [hD x hx]
    exact pw_l0 hl (N:=0) (pw_none hw hl) s.length 0 0 (by omega) (by omega) (by rw [List.drop_zero,h0];rfl) (by omega)
  obtain ⟨N,hN⟩: ∃N,(s.filter (fun x=>decide (x.f0=3))).length=N:=⟨_,rfl⟩
  obtain ⟨mf,Mt,rfl⟩:=List.exists_cons_of_ne_nil c
  have hmf:mf.f0=3:=hM mf (by simp)
  have hpos:0<N:=by
    rw [←hN]
    exact List.length_pos_of_mem (a:=mf) (List.mem_filter.2 ⟨by rw [e];simp,by simp [hmf]⟩)
  refine pw_l0 hl (N:=N) ?_ s.length 0 0 (by omega) (by omega) (by rw [List.drop_zero,hN,Nat.zero_add]) (by omega)
  clear hN
  have hcn:=hn c
  have hlast:(mf::Mt).dropLast++ [(mf::Mt).getLast c]=mf::Mt:=List.dropLast_concat_getLast c
  have hml:((mf::Mt).getLast c).f0=3:=hM _ (List.getLast_mem c)
  generalize (mf::Mt).getLast c=ml at hlast hml
  generalize (mf::Mt).dropLast=Mi at hlast
  have e1:s=R++mf::(Mt++L++D):=by rw [e];simp
  have e2:s=((R++Mi)++ [ml])++(L++D):=by rw [e,←hlast];simp
  have f1:(L++D).filter (fun x=>decide (x.f0=2))=L:=by
    rw [List.filter_append,List.filter_eq_self.2 (fun x hx=>by simp [hL x hx]),List.filter_eq_nil_iff.2 (fun x hx=>by simp [hD x hx]),List.append_nil]
  have hT: ∀x∈L++D,x.f0≠3:=fun x hx=>by
    rcases List.mem_append.1 hx with hx|hx
    · rw [hL x hx];decide
    rw [hD x hx];decide
  have hs2:s.length=(R++Mi).length+1+(L++D).length:=by rw [e2,List.length_append,List.length_append,List.length_singleton]
  have g2:=pw_l2 hw (a:=(N:Int)) (by omega) e2 hml hT hl (N:=cntW ws) (pw_l3 hw (.inr rfl) ws.length 0 0 (by omega) (by omega) (by rw [List.drop_zero,Nat.zero_add];rfl) (by omega)) (L++D).length 0 (Nat.le_refl _) (by rw [List.take_length,f1,Nat.zero_add];exact hcn) (by rw [Nat.zero_add];exact Nat.le_refl _)
  rw [show (R++Mi).length+(L++D).length=s.length - 1 from by rw [hs2];clear hs2 hcn f1 e1 e2 e;omega] at g2
  exact pw_l1 (a:=(N:Int)) (by omega) e1 hmf (fun x hx=>⟨(hR x hx).1,(hR x hx).2 c⟩) hl g2 R.length 0 (by omega) (by omega)
theorem planWide_pure:law18_PlanWide.Pure:=by
  intro ns ns1 _ _ hw _ _ hw1
  unfold law18_PlanWide.f
  have hstop:Ev (fun k=>law18_PlanWide.j0 k ns ns1 true) true:=Ev.step (fun k=>law18_PlanWide.j0.eq_2 (k:=k) ..) (Ev.congr (fun k=>if_pos rfl) awake18_ev)
  refine Ev.rounds ?_
  by_cases h:(ns.length:Int)>60
  · exact Ev.congr (fun k=>if_pos h) hstop
  refine Ev.congr (fun k=>if_neg h) ?_
  by_cases h1:(ns1.length:Int)>60
  · rw [decide_eq_true h1];exact hstop
  rw [decide_eq_false h1]
  refine Ev.step (fun k=>law18_PlanWide.j0.eq_2 (k:=k) ..) (Ev.congr (fun k=>if_neg (by decide)) ?_)
  obtain ⟨l,hev,M⟩:=made_all (ns:=ns) (fun x hx=>pw_u8 (hw x hx)) (by omega)
  have hlen:=M.len
  obtain ⟨ws,left,ev,I⟩:=make_ev false (ns:=ns1) (by omega) (fun x hx=>pw_u8 (hw1 x hx))
  refine Ev.bind hev (Ev.bind ev (Ev.bind (loose_ev (by omega)) ?_))
  have hc:=mk_check I
  have hs:=mk_small I
  have hwl:=I.n24
  rw [plan_Steps_ev hs (by omega) (by unfold looseL;rw [List.length_map];omega)]
  obtain ⟨wd,hwd⟩:=wide_some l (topR ws) false
  have hp:planR ws (looseL l) l=((((topR ws).flatMap (raiseS l wd)++(topR ws).flatMap (moveS l))++(topR ws).reverse.flatMap (lowerS l wd))++(goesR ws (looseL l) l).map delS,0):=by
    unfold planR
    rw [if_pos hc,hwd]
  rw [hp]
  simp only [Option.bind_some]
  rw [show law1_Num.f 0=some 0 from rfl]
  simp only [Option.bind_some]
  refine Ev.congr (fun k=>if_pos trivial) ?_
  have hperm:=topR_perm ws
  have hpl:=hperm.length_eq
  refine pw_main (by omega) rfl ?_ ?_ ?_ ?_ ?_ ?_
  · have q1 := (pw_len (l := l) (wide := wd) (topR ws)).1
    have q2:=(pw_len (l:=l) (wide:=wd) (topR ws)).2.1
    have q3:=(pw_len (l:=l) (wide:=wd) (topR ws).reverse).2.2
    have q4:(goesR ws (looseL l) l).length≤0+(looseL l).length:=len_goesGo ws l (looseL l) []
    have q5:(looseL l).length=l.length:=List.length_map _
    rw [List.length_append,List.length_append,List.length_append,List.length_map]
    rw [List.length_reverse] at q3
    omega
  · intro x hx
    obtain ⟨y,hy,hx⟩:=List.mem_flatMap.1 hx
    refine ⟨(raise_kind hx).1,fun hm=> ?_⟩
    cases wd with
    |true=>exact (raise_kind hx).2
    | false =>
      refine absurd ?_ hm
      rw [List.flatMap_eq_nil_iff]
      exact (wide_false (topR ws) false hwd).2
  · intro x hx
    obtain ⟨y,hy,hx⟩:=List.mem_flatMap.1 hx
    exact move_kind hx
  · intro x hx
    obtain ⟨y,hy,hx⟩:=List.mem_flatMap.1 hx
    exact lower_kind hx
  · intro x hx
    obtain ⟨y,hy,rfl⟩:=List.mem_map.1 hx
    rfl
  intro hm
  cases wd with
  | true =>
    rw [lower_count]
    exact (((List.reverse_perm _).trans hperm).filter _).length_eq
  | false =>
    refine absurd ?_ hm
    rw [List.flatMap_eq_nil_iff]
    exact (wide_false (topR ws) false hwd).2
end Go.Proofs.Ytahidkjncljkaaa.Print
namespace Go.Proofs.Ytahidkjncljkaaa.Pure
open Go.Proofs.Ytahidkjncljkaaa.Print
theorem PlanWide:law18_PlanWide.Pure:=planWide_pure
end Go.Proofs.Ytahidkjncljkaaa.Pure

namespace Go.Proofs.Ytahidkjncljkaaa.Head
def signs:List Char:=(List.map Char.ofNat [104,97,114,110,101,115,115,32,52,48,100,98,98,98,100,57,102,99,56,49,51,57,52,102,98,101,100,54,48,53,102,48,101,50,51,100,52,101,50,55,97,52,48,52,98,97,49,55,57,48,56,57,54,99,56,100,54,100,100,54,56,102,97,52,102,101,49,48,50,99,55,57,32,99,117,116,32,97,116,32,100,111,111,114,107,101,101,112,101,114,47,100,111,111,114,107,101,101,112,101,114,108,97,119,49,49,46,87,97,110,116,65,108,108,32,100,111,111,114,107,101,101,112,101,114,47,100,111,111,114,107,101,101,112,101,114,108,97,119,49,49,46,87,97,110,116,77,97,100,101,32,100,111,111,114,107,101,101,112,101,114,47,100,111,111,114,107,101,101,112,101,114,108,97,119,49,49,46,87,97,110,116,84,111,112,32,100,111,111,114,107,101,101,112,101,114,47,100,111,111,114,107,101,101,112,101,114,108,97,119,49,49,46,87,97,110,116,67,105,114,99,108,101,32,100,111,111,114,107,101,101,112,101,114,47,100,111,111,114,107,101,101,112,101,114,108,97,119,49,49,46,87,97,110,116,83,117,109,115,32,100,111,111,114,107,101,101,112,101,114,47,100,111,111,114,107,101,101,112,101,114,108,97,119,49,57,46,84,114,105,97,108,67,117,116,115,32,100,111,111,114,107,101,101,112,101,114,47,100,111,111,114,107,101,101,112,101,114,108,97,119,49,56,46,80,108,97,110,65,108,108,32,100,111,111,114,107,101,101,112,101,114,47,100,111,111,114,107,101,101,112,101,114,108,97,119,49,56,46,80,108,97,110,77,97,100,101,32,100,111,111,114,107,101,101,112,101,114,47,100,111,111,114,107,101,101,112,101,114,108,97,119,49,56,46,80,108,97,110,76,101,97,100,115,32,100,111,111,114,107,101,101,112,101,114,47,100,111,111,114,107,101,101,112,101,114,108,97,119,49,56,46,80,108,97,110,69,109,112,116,121,32,100,111,111,114,107,101,101,112,101,114,47,100,111,111,114,107,101,101,112,101,114,108,97,119,49,56,46,80,108,97,110,79,114,100,101,114,32,100,111,111,114,107,101,101,112,101,114,47,100,111,111,114,107,101,101,112,101,114,108,97,119,49,56,46,80,108,97,110,70,114,101,115,104,32,100,111,111,114,107,101,101,112,101,114,47,100,111,111,114,107,101,101,112,101,114,108,97,119,49,56,46,80,108,97,110,78,111,110,101,32,100,111,111,114,107,101,101,112,101,114,47,100,111,111,114,107,101,101,112,101,114,108,97,119,49,56,46,80,108,97,110,67,108,97,115,104,32,100,111,111,114,107,101,101,112,101,114,47,100,111,111,114,107,101,101,112,101,114,108,97,119,49,56,46,80,108,97,110,87,105,100,101,32,100,111,111,114,107,101,101,112,101,114,47,100,111,111,114,107,101,101,112,101,114,108,97,119,50,51,46,65,112,112,108,121,65,108,108,32,100,111,111,114,107,101,101,112,101,114,47,100,111,111,114,107,101,101,112,101,114,108,97,119,50,51,46,65,112,112,108,121,77,97,100,101,32,100,111,111,114,107,101,101,112,101,114,47,100,111,111,114,107,101,101,112,101,114,108,97,119,50,51,46,65,112,112,108,121,65,103,97,105,110,32,100,111,111,114,107,101,101,112,101,114,47,100,111,111,114,107,101,101,112,101,114,108,97,119,50,51,46,65,112,112,108,121,69,110,100,115])
set_option maxRecDepth 100000 in
theorem word:Try.prog.initOrder=String.ofList signs:=by kernel_rfl
theorem list:Try.prog.initOrder.toList=signs:=by rw [word,String.toList_ofList]
theorem words_app: ∀(w r:List Char),(∀c∈w,c≠Char.ofNat 32)→wordsSigns (w++Char.ofNat 32::r)=w::wordsSigns r
  |[],r,_=>rfl
  | c :: w, r, h => by
    have hc:c≠Char.ofNat 32:=h c (by simp)
    have ih:=words_app w r (fun d hd=>h d (by simp [hd]))
    show wordsSigns (c::(w++Char.ofNat 32::r))=_
    rw [wordsSigns.eq_3 _ _ (fun q=>hc q),ih]
def w1:List Char:=[Char.ofNat 104,Char.ofNat 97,Char.ofNat 114,Char.ofNat 110,Char.ofNat 101,Char.ofNat 115,Char.ofNat 115]
def w2:List Char:=(List.map Char.ofNat [52,48,100,98,98,98,100,57,102,99,56,49,51,57,52,102,98,101,100,54,48,53,102,48,101,50,51,100,52,101,50,55,97,52,48,52,98,97,49,55,57,48,56,57,54,99,56,100,54,100,100,54,56,102,97,52,102,101,49,48,50,99,55,57])
def w3:List Char:=[Char.ofNat 99,Char.ofNat 117,Char.ofNat 116]
def rest:List Char:=(List.map Char.ofNat [97,116,32,100,111,111,114,107,101,101,112,101,114,47,100,111,111,114,107,101,101,112,101,114,108,97,119,49,49,46,87,97,110,116,65,108,108,32,100,111,111,114,107,101,101,112,101,114,47,100,111,111,114,107,101,101,112,101,114,108,97,119,49,49,46,87,97,110,116,77,97,100,101,32,100,111,111,114,107,101,101,112,101,114,47,100,111,111,114,107,101,101,112,101,114,108,97,119,49,49,46,87,97,110,116,84,111,112,32,100,111,111,114,107,101,101,112,101,114,47,100,111,111,114,107,101,101,112,101,114,108,97,119,49,49,46,87,97,110,116,67,105,114,99,108,101,32,100,111,111,114,107,101,101,112,101,114,47,100,111,111,114,107,101,101,112,101,114,108,97,119,49,49,46,87,97,110,116,83,117,109,115,32,100,111,111,114,107,101,101,112,101,114,47,100,111,111,114,107,101,101,112,101,114,108,97,119,49,57,46,84,114,105,97,108,67,117,116,115,32,100,111,111,114,107,101,101,112,101,114,47,100,111,111,114,107,101,101,112,101,114,108,97,119,49,56,46,80,108,97,110,65,108,108,32,100,111,111,114,107,101,101,112,101,114,47,100,111,111,114,107,101,101,112,101,114,108,97,119,49,56,46,80,108,97,110,77,97,100,101,32,100,111,111,114,107,101,101,112,101,114,47,100,111,111,114,107,101,101,112,101,114,108,97,119,49,56,46,80,108,97,110,76,101,97,100,115,32,100,111,111,114,107,101,101,112,101,114,47,100,111,111,114,107,101,101,112,101,114,108,97,119,49,56,46,80,108,97,110,69,109,112,116,121,32,100,111,111,114,107,101,101,112,101,114,47,100,111,111,114,107,101,101,112,101,114,108,97,119,49,56,46,80,108,97,110,79,114,100,101,114,32,100,111,111,114,107,101,101,112,101,114,47,100,111,111,114,107,101,101,112,101,114,108,97,119,49,56,46,80,108,97,110,70,114,101,115,104,32,100,111,111,114,107,101,101,112,101,114,47,100,111,111,114,107,101,101,112,101,114,108,97,119,49,56,46,80,108,97,110,78,111,110,101,32,100,111,111,114,107,101,101,112,101,114,47,100,111,111,114,107,101,101,112,101,114,108,97,119,49,56,46,80,108,97,110,67,108,97,115,104,32,100,111,111,114,107,101,101,112,101,114,47,100,111,111,114,107,101,101,112,101,114,108,97,119,49,56,46,80,108,97,110,87,105,100,101,32,100,111,111,114,107,101,101,112,101,114,47,100,111,111,114,107,101,101,112,101,114,108,97,119,50,51,46,65,112,112,108,121,65,108,108,32,100,111,111,114,107,101,101,112,101,114,47,100,111,111,114,107,101,101,112,101,114,108,97,119,50,51,46,65,112,112,108,121,77,97,100,101,32,100,111,111,114,107,101,101,112,101,114,47,100,111,111,114,107,101,101,112,101,114,108,97,119,50,51,46,65,112,112,108,121,65,103,97,105,110,32,100,111,111,114,107,101,101,112,101,114,47,100,111,111,114,107,101,101,112,101,114,108,97,119,50,51,46,65,112,112,108,121,69,110,100,115])
theorem parts:signs=w1++Char.ofNat 32::(w2++Char.ofNat 32::(w3++Char.ofNat 32::rest)):=by kernel_rfl
theorem behind: ∃r,behindMainWord (wordsSigns Try.prog.initOrder.toList)=w3::r:=by
 refine ⟨wordsSigns rest, ?_⟩
 rw [list,parts,words_app w1 _ (by decide),words_app w2 _ (by decide),words_app w3 _ (by decide)]
 generalize wordsSigns rest=r
 rfl
theorem strip (r:List (List Char)):stripLifts liftWords (w3::r)=([],w3::r):=by kernel_rfl
theorem not_carried (r:List (List Char)):((w3::r).head?==some "carried".toList)=false:=by kernel_rfl
theorem is_cut (r:List (List Char)):((w3::r).head?==some "cut".toList)=true:=by kernel_rfl
theorem not_gc:(w3== "gc".toList||w3== "spec".toList)=false:=by kernel_rfl
theorem cut_:(w3== "cut".toList)=true:=by kernel_rfl
theorem lifts_of {P:Program} {r:List (List Char)} (h:behindMainWord (wordsSigns P.initOrder.toList)=w3::r):P.liftsFinal=false:=by
 unfold Program.liftsFinal Program.headLifts
 simp only [h,strip,not_carried,is_cut,if_true,Bool.false_and,Bool.false_or,List.contains_nil]
theorem make_of {P:Program} {r:List (List Char)} (h:behindMainWord (wordsSigns P.initOrder.toList)=w3::r):P.make=some .cut:=by
 unfold Program.make
 simp only [h,not_gc,cut_,Bool.true_or,if_true,Bool.false_eq_true,if_false]
theorem lifts:Try.prog.liftsFinal=false:=by obtain ⟨r,h⟩:=behind;exact lifts_of h
theorem make:Try.prog.make=some .cut:=by obtain ⟨r,h⟩:=behind;exact make_of h
theorem later:Try.prog.laysLater=false:=by kernel_rfl
theorem reflects:Try.prog.bearsReflect=false:=by kernel_rfl
theorem door:Try.prog.doorFits []=true:=by kernel_rfl
theorem may_of {P:Program} {r:List (List Char)} (h:behindMainWord (wordsSigns P.initOrder.toList)=w3::r) (h1:P.laysLater=false) (h2:P.bearsReflect=false) (h3:P.doorFits []=true):P.mayEnter=true:=by
 unfold Program.mayEnter
 simp only [h,strip,is_cut,h1,h2,h3,List.contains_nil,Bool.not_false,Bool.or_true,Bool.and_true,Bool.and_self]
theorem mayEnter:Try.prog.mayEnter=true:=by obtain ⟨r,h⟩:=behind;exact may_of h later reflects door
theorem stopsHeard:Try.prog.stopsHeard=true:=by kernel_rfl
theorem laidOut:laidOutB Try.prog=true:=by kernel_rfl
theorem mapsRowed:mapsRowed Try.prog=true:=by kernel_rfl
theorem stops:(Try.prog.stops==[])=true:=by kernel_rfl
theorem stopKnobs:(Try.prog.stopKnobs==[])=true:=by kernel_rfl
end Go.Proofs.Ytahidkjncljkaaa.Head

-- PRINTED WORDS (module Derived/Print/Sized.lean): go-gate-2's, for the rows of laws over slices: an AI agent of Go's test side, Tue Nov 17 2026; no person has read it. Lean checks it.
namespace Go.Proofs.YtahidkjncljkaaaW.PrintWords
open Go.ChangeShapes Go.WideShapes
theorem sized_ints {H:Type} {enc:TypeId×Value→H} {P:Program} {W:World} {base:Nat} {spare:Nat→Bool} {held:Bool} {t e:TypeId} {k:IntKind} {a:Option Addr} {len cap:Nat} {d:DataW H} {ps:List MemPlace} {ts:List TypeId} {ds:List (DataW H)} {j:Nat}
    (hsz:(DataW.weightsEach P ts ds).all (· ≤reachBytes)=true) (ht:ts[j]?=some t) (hd:ds[j]?=some d) (hu:P.underlying t=some (.slice e)) (he:P.underlying e=some (.int k)) (hc:P.cellsOf e=1) {B:Nat} (hB:P.bytesOf e=B)
    (h:DataW.Trod enc P W base spare held t (.slice a len cap) d ps):len*B≤140737488351232:=by
  obtain ⟨fuel,hf⟩:=h
  rcases open_ints hu he hc hf with ⟨hcs,_⟩|⟨x,l,c,zs,hcs,_,hl,_,hz,hx,_,_⟩
  · simp [Value.cells] at hcs
    obtain ⟨rfl,rfl,rfl⟩:=hcs
    simp
  · simp [Value.cells] at hcs
    obtain ⟨rfl,rfl,rfl⟩:=hcs
    obtain ⟨hx,_⟩:=Prod.mk.inj hx
    subst hx
    have z:=sized_slice hsz ht hd hu
    rw [hB] at z
    have hl2:len≤zs.length:=by
      rw [hz]
      split
      · exact hl
      · exact Nat.le_refl _
    have h1:(lits (H:=H) k (zs.take len)).length+(lits (H:=H) k (zs.drop len)).length=zs.length:=by
      simp [lits]
      omega
    rw [h1] at z
    exact Nat.le_trans (Nat.mul_le_mul_right _ hl2) z
end Go.Proofs.YtahidkjncljkaaaW.PrintWords
