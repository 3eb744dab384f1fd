/- PlanMade: a part -/
import Derived.WalkSpells
import Derived.Laws.Cover1
import Derived.Shelf.Abstract
import Derived.Lib.SliceRun
import Derived.Lib.JoinLaws
import Derived.Lib.AppendZerosOnto
import Derived.Lib.Overlaps
import Derived.Laws.Externs
import Derived.Laws.IdiomCopy
import Derived.Laws.NewBlocks
import Derived.Deep.RegionLaw
import Derived.Shelf.RegionOpenPlain
import Derived.Test.YtahidkjncljkaaaRows
import Derived.WalkKit
import Derived.ProofKit
import Derived.OpenShut
import Derived.JoinedOf
import Derived.SizedLaws
import Derived.ChangeSlices
import Derived.Test.YtahidkjncljkaaaBPlanMade0
import Derived.Test.YtahidkjncljkaaaBPlanMade1
import Derived.Test.YtahidkjncljkaaaBPlanMade2
import Derived.Test.YtahidkjncljkaaaBPlanMade4
import Derived.Test.YtahidkjncljkaaaBPlanMade5
set_option linter.unusedVariables false
set_option linter.unusedSimpArgs false
namespace Go.Proofs.Ytahidkjncljkaaa.Print
open Go.RowKit Go.Proofs.YtahidkjncljkaaaW.PrintWords Go.Proofs.YtahidkjncljkaaaW.PrintLast Go.Proofs.YtahidkjncljkaaaW.PrintMore
attribute [local go_sem] max2_int min2_int max_two min_two max_three min_three max_four min_four

mutual
def law11_Make.l0:Nat→List Int→Bool→List (S39)→List Int→Int→Option ((List (S39)))
 |0,_,_,_,_,_=>none
 |k+1,x0,x1,x5,x6,x7=>if (wrap64 (x7+1))<(x0.length:Int) then (law11_Make.j1 k x0 x1 x5 x6 x7 (decide ((x5.length:Int)<24))) else (law11_Make.j1 k x0 x1 x5 x6 x7 false)
def law11_Make.j1:Nat→List Int→Bool→List (S39)→List Int→Int→Bool→Option ((List (S39)))
 |0,_,_,_,_,_,_=>none
 |k+1,x0,x1,x5,x6,x7,x23=>if x23=true then (if 0≤x7 then (if x7<(x0.length:Int) then ((some (([(wrap64 (97+(Int.tmod (wrap64 ((x5.length:Int)*7)) 24))) % 256]:List Int):List Int)).bind fun y5=>(if (x5.length:Int)>0 then (law11_Make.j2 k x0 x1 x5 x6 x7 (x5.length:Int) (wrap64 (rd x0 x7)) 4096 (decide ((Int.tmod (wrap64 (rd x0 x7)) 3)>0)) (strOfNums y5) (⟨#[]⟩:ByteArray) 4096 4096 4096) else (law11_Make.j2 k x0 x1 x5 x6 x7 (x5.length:Int) (wrap64 (rd x0 x7)) 4096 false (strOfNums y5) (⟨#[]⟩:ByteArray) 4096 4096 4096))) else (none)) else (none)) else (some x5)
def law11_Make.j2:Nat→List Int→Bool→List (S39)→List Int→Int→Int→Int→Int→Bool→ByteArray→ByteArray→Int→Int→Int→Option ((List (S39)))
 |0,_,_,_,_,_,_,_,_,_,_,_,_,_,_=>none
 |k+1,x0,x1,x5,x6,x7,x8,x9,x11,x48,x9000,x9001,x9002,x9003,x9004=>if x48=true then (if x8=0 then (none) else (if 0≤(Int.tmod (wrap64 (Int.tdiv x9 3)) x8) then (if (Int.tmod (wrap64 (Int.tdiv x9 3)) x8)<(x5.length:Int) then (if (Int.tmod (wrap64 (Int.tdiv x9 3)) x8)<(x6.length:Int) then ((some (x6.set ((Int.tmod (wrap64 (Int.tdiv x9 3)) x8):Int).toNat (wrap64 ((rd x6 (Int.tmod (wrap64 (Int.tdiv x9 3)) x8)) - (wrap64 (Int.tdiv (rd x6 (Int.tmod (wrap64 (Int.tdiv x9 3)) x8)) 2)))):List Int)).bind fun y12=>(if x1=true then (if 0≤(wrap64 (x7+1)) then (if (wrap64 (x7+1))<(x0.length:Int) then (if (Int.tmod (rd x0 (wrap64 (x7+1))) 16)=0 then (if x5.length<2513169434916 then (if y12.length<17592186044416 then (law11_Make.l0 k x0 x1 (x5++ [(⟨x9000,(rd_T39 x5 (Int.tmod (wrap64 (Int.tdiv x9 3)) x8)).f0,(⟨wrap64 ((wrap64 ((wrap64 (Int.tdiv (rd x6 (Int.tmod (wrap64 (Int.tdiv x9 3)) x8)) 2))*2))+1),wrap64 ((wrap64 ((wrap64 (Int.tdiv (rd x6 (Int.tmod (wrap64 (Int.tdiv x9 3)) x8)) 2))*2))+1),wrap64 ((wrap64 ((wrap64 ((wrap64 (Int.tdiv (rd x6 (Int.tmod (wrap64 (Int.tdiv x9 3)) x8)) 2))*2))+1)) - (wrap64 ((wrap64 (Int.tdiv (wrap64 ((wrap64 ((wrap64 (Int.tdiv (rd x6 (Int.tmod (wrap64 (Int.tdiv x9 3)) x8)) 2))*2))+1)) 3))*(wrap64 (Int.tmod (rd x0 (wrap64 (x7+1))) 2)))))⟩:S37)⟩:S39)]) (y12++ [wrap64 ((wrap64 ((wrap64 ((wrap64 (Int.tdiv (rd x6 (Int.tmod (wrap64 (Int.tdiv x9 3)) x8)) 2))*2))+1)) - (wrap64 (Int.tdiv (wrap64 ((wrap64 ((wrap64 (Int.tdiv (rd x6 (Int.tmod (wrap64 (Int.tdiv x9 3)) x8)) 2))*2))+1)) 3)))]) (wrap64 (x7+2))) else (none)) else (none)) else (if x5.length<2513169434916 then (if y12.length<17592186044416 then (law11_Make.l0 k x0 x1 (x5++ [(⟨x9000,(rd_T39 x5 (Int.tmod (wrap64 (Int.tdiv x9 3)) x8)).f0,(⟨wrap64 (Int.tdiv (rd x6 (Int.tmod (wrap64 (Int.tdiv x9 3)) x8)) 2),wrap64 (Int.tdiv (rd x6 (Int.tmod (wrap64 (Int.tdiv x9 3)) x8)) 2),wrap64 ((wrap64 (Int.tdiv (rd x6 (Int.tmod (wrap64 (Int.tdiv x9 3)) x8)) 2)) - (wrap64 ((wrap64 (Int.tdiv (wrap64 (Int.tdiv (rd x6 (Int.tmod (wrap64 (Int.tdiv x9 3)) x8)) 2)) 3))*(wrap64 (Int.tmod (rd x0 (wrap64 (x7+1))) 2)))))⟩:S37)⟩:S39)]) (y12++ [wrap64 ((wrap64 (Int.tdiv (rd x6 (Int.tmod (wrap64 (Int.tdiv x9 3)) x8)) 2)) - (wrap64 (Int.tdiv (wrap64 (Int.tdiv (rd x6 (Int.tmod (wrap64 (Int.tdiv x9 3)) x8)) 2)) 3)))]) (wrap64 (x7+2))) else (none)) else (none))) else (none)) else (none)) else (if 0≤(wrap64 (x7+1)) then (if (wrap64 (x7+1))<(x0.length:Int) then (if x5.length<2513169434916 then (if y12.length<17592186044416 then (law11_Make.l0 k x0 x1 (x5++ [(⟨x9000,(rd_T39 x5 (Int.tmod (wrap64 (Int.tdiv x9 3)) x8)).f0,(⟨wrap64 (Int.tdiv (rd x6 (Int.tmod (wrap64 (Int.tdiv x9 3)) x8)) 2),wrap64 (Int.tdiv (rd x6 (Int.tmod (wrap64 (Int.tdiv x9 3)) x8)) 2),wrap64 ((wrap64 (Int.tdiv (rd x6 (Int.tmod (wrap64 (Int.tdiv x9 3)) x8)) 2)) - (wrap64 ((wrap64 (Int.tdiv (wrap64 (Int.tdiv (rd x6 (Int.tmod (wrap64 (Int.tdiv x9 3)) x8)) 2)) 3))*(wrap64 (Int.tmod (rd x0 (wrap64 (x7+1))) 2)))))⟩:S37)⟩:S39)]) (y12++ [wrap64 ((wrap64 (Int.tdiv (rd x6 (Int.tmod (wrap64 (Int.tdiv x9 3)) x8)) 2)) - (wrap64 (Int.tdiv (wrap64 (Int.tdiv (rd x6 (Int.tmod (wrap64 (Int.tdiv x9 3)) x8)) 2)) 3)))]) (wrap64 (x7+2))) else (none)) else (none)) else (none)) else (none)))) else (none)) else (none)) else (none))) else (if x1=true then (if 0≤(wrap64 (x7+1)) then (if (wrap64 (x7+1))<(x0.length:Int) then (if (Int.tmod (rd x0 (wrap64 (x7+1))) 16)=0 then (if x5.length<2513169434916 then (if x6.length<17592186044416 then (law11_Make.l0 k x0 x1 (x5++ [(⟨x9000,x9001,(⟨wrap64 ((wrap64 (x11*2))+1),wrap64 ((wrap64 (x11*2))+1),wrap64 ((wrap64 ((wrap64 (x11*2))+1)) - (wrap64 ((wrap64 (Int.tdiv (wrap64 ((wrap64 (x11*2))+1)) 3))*(wrap64 (Int.tmod (rd x0 (wrap64 (x7+1))) 2)))))⟩:S37)⟩:S39)]) (x6++ [wrap64 ((wrap64 ((wrap64 (x11*2))+1)) - (wrap64 (Int.tdiv (wrap64 ((wrap64 (x11*2))+1)) 3)))]) (wrap64 (x7+2))) else (none)) else (none)) else (if x5.length<2513169434916 then (if x6.length<17592186044416 then (law11_Make.l0 k x0 x1 (x5++ [(⟨x9000,x9001,(⟨x11,x11,wrap64 (x11 - (wrap64 ((wrap64 (Int.tdiv x11 3))*(wrap64 (Int.tmod (rd x0 (wrap64 (x7+1))) 2)))))⟩:S37)⟩:S39)]) (x6++ [wrap64 (x11 - (wrap64 (Int.tdiv x11 3)))]) (wrap64 (x7+2))) else (none)) else (none))) else (none)) else (none)) else (if 0≤(wrap64 (x7+1)) then (if (wrap64 (x7+1))<(x0.length:Int) then (if x5.length<2513169434916 then (if x6.length<17592186044416 then (law11_Make.l0 k x0 x1 (x5++ [(⟨x9000,x9001,(⟨x11,x11,wrap64 (x11 - (wrap64 ((wrap64 (Int.tdiv x11 3))*(wrap64 (Int.tmod (rd x0 (wrap64 (x7+1))) 2)))))⟩:S37)⟩:S39)]) (x6++ [wrap64 (x11 - (wrap64 (Int.tdiv x11 3)))]) (wrap64 (x7+2))) else (none)) else (none)) else (none)) else (none)))
end
def law11_Make.f (k:Nat) (l0:List Int) (a1:Bool):Option ((List (S39))):=law11_Make.l0 k l0 a1 ([]:List (S39)) (([]:List Int)) 0
theorem law11_Make.mono_l: ∀k,(∀y0 y1 y2 y3 y4,LeO (law11_Make.l0 k y0 y1 y2 y3 y4) (law11_Make.l0 (k+1) y0 y1 y2 y3 y4))∧(∀y0 y1 y2 y3 y4 y5,LeO (law11_Make.j1 k y0 y1 y2 y3 y4 y5) (law11_Make.j1 (k+1) y0 y1 y2 y3 y4 y5))∧(∀y0 y1 y2 y3 y4 y5 y6 y7 y8 y9 y10 y11 y12 y13,LeO (law11_Make.j2 k y0 y1 y2 y3 y4 y5 y6 y7 y8 y9 y10 y11 y12 y13) (law11_Make.j2 (k+1) y0 y1 y2 y3 y4 y5 y6 y7 y8 y9 y10 y11 y12 y13))
 |0=>⟨fun _ _ _ _ _ r h=>by simp [law11_Make.l0] at h,fun _ _ _ _ _ _ r h=>by simp [law11_Make.j1] at h,fun _ _ _ _ _ _ _ _ _ _ _ _ _ _ r h=>by simp [law11_Make.j2] at h⟩
 |k+1=>by
  obtain ⟨ih0,ih1,ih2⟩:=law11_Make.mono_l k;refine ⟨?_, ?_, ?_⟩<;>(intros;first|unfold law11_Make.l0|unfold law11_Make.j1|unfold law11_Make.j2)<;>repeat' with_reducible first|apply ih0|apply ih1|apply ih2|apply LeO.refl|apply LeO.none|apply LeO.ite|refine LeO.bind ?_ fun _=> ?_
theorem law11_Make.mono: ∀a0 a1 k,LeO (law11_Make.f k a0 a1) (law11_Make.f (k+1) a0 a1):=by
 intro a0 a1 k;obtain ⟨ih0,ih1,ih2⟩:=law11_Make.mono_l k;unfold law11_Make.f
 repeat' with_reducible first|apply ih0|apply ih1|apply ih2|apply LeO.refl|apply LeO.none|apply LeO.ite|refine LeO.bind ?_ fun _=> ?_
theorem lm_E1:wrap64 ((wrap64 (4096*2))+1)=8193:=by unfold wrap64;rfl
theorem lm_E2:wrap64 (Int.tdiv 8193 3)=2731:=by unfold wrap64;rfl
theorem lm_E3:wrap64 (8193 - 2731)=5462:=by unfold wrap64;rfl
theorem lm_E4:wrap64 (Int.tdiv 4096 3)=1365:=by unfold wrap64;rfl
theorem lm_E5:wrap64 (4096 - 1365)=2731:=by unfold wrap64;rfl
set_option maxHeartbeats 8000000 in
set_option maxRecDepth 100000 in
theorem law11_Make.calls (k:Nat) (A0:Option Addr) (c0:Nat) (l0:List Int) (a1:Bool) (r:List (S39)) (w:World) (hr0:Kd.C (Kd.int .u8) w A0 l0.length l0) (hc0:l0.length≤c0) (h:law11_Make.f k l0 a1=some r):
  Calls Try.prog 32 #[.slice A0 l0.length c0, .bool a1] w fun e w'=> ∃v0_:Value,e= .returned (v0_)∧Kd.R k39 39 w' w.heap.size (fun _=>True) v0_ r∧Below w.heap.size w w':=by
 have hu37:=Try.underlying37;have hu39:=Try.underlying39;have HR0:=Aside0.mk hr0;have HC0:=Aside0.mk hc0;clear hr0 hc0;have HB:=am_ (Below.refl w.heap.size w);have H:(law11_Make.l0 k l0 a1 ([]:List (S39)) (([]:List Int)) 0)=some r:=h;clear h;obtain ⟨y1,hy1⟩: ∃y_:List Int,y_=(([]:List Int)):=⟨_,rfl⟩;(first|replace H:=zsb_ hy1 H|rw [←hy1] at H);have Ny1:=Aside0.mk hy1;clear hy1;have H':=Aside0.mk H;clear H;go_enter Try.func32,Try.ntmps32;go_wp2_with ((with_reducible refine gate_dst (N:=13) rfl ?_);(try (refine gate_guard (by rfl) ?_;dsimp only));refine Kd.R_lit (Kd.int .i64) _ 3 ?hg (N:=13) ?hd (xs:=([]:List Int)) (inner:=[]) (ok:=fun _=>True) (okp:=fun _=>True) ?hr ?hp (fun _ hk=>hk) trivial (Below.refl _ _) (Nat.le_refl _) (by simp) ?_;(case hd=>rfl);(case hg=>rfl);(case hr=>first|(go_simp;done)|(go_simp;rfl));(case hp=>exact (Reps.none _ _));intro v2 w3 ho4 hb hg_ hnew_;clear hg_ hnew_;(first|rw [←Ny1.out] at ho4|(simp only [Int.reduceToNat] at ho4;rw [←Ny1.out] at ho4));have HO3:=am_ (Kd.R_lower ho4 (below_size (zl0_ HB)));replace HB:=am_ (below_step (zl0_ HB) hb);clear hb ho4)
 repeat (go_quiet (fail);try go_wp2_with fail)
 go_loopg [5,6,7] k (fun kq v5 v6 v7 w'=> ∃(x5_1:List (S39)) (x6_1:List Int) (x7_1:Int),v7= .int .i64 x7_1∧Aside0 (law11_Make.l0 kq l0 a1 x5_1 x6_1 x7_1=some r)∧Aside0 (kq≤k)∧Aside0 (Kd.R k39 39 w' w.heap.size (fun _=>True) v5 x5_1)∧Aside0 (Kd.R (Kd.int .i64) 3 w' w.heap.size (fun _=>True) v6 x6_1)∧Aside0 (Below w.heap.size w w'))
 case atStart=>exact ⟨(([]:List (S39))),(y1),(0),rf_,H',⟨Nat.le_refl _⟩,⟨by first|exact Kd.R_nil _ _ _ _ _|exact Kd.N_nil _ _ _ _ _|exact Kd.V_nil _ _ _ _ _|exact Kd.Q_nil _ _ _ _ _|exact Kd.S_nil _ _ _ _ _⟩,am_ (zr_ HO3),⟨zl0_ HB⟩⟩
 case round=>
  clear H';obtain ⟨x5_1,x6_1,x7_1,rfl,HA,HK1,HO_5,HO_6,HB⟩:=hrel
  cases gk with
  |zero=>exact absurd HA.out (by simp [law11_Make.l0])
  |succ k1=>
   have H:=HA.out;clear HA;simp only [law11_Make.l0] at H;have HC5:=Aside0.mk H;clear H;go_upto_region 4 with (fail)
   repeat (go_quiet (fail);go_upto_region 4 with (fail))
   go_cut [23] (fun v23 wc=> ∃(kq:Nat) (x23_4:Bool),v23= .bool x23_4∧Aside0 (law11_Make.j1 kq l0 a1 x5_1 x6_1 x7_1 x23_4=some r)∧Aside0 (kq≤k1)∧Aside0 (Kd.R k39 39 wc w.heap.size (fun _=>True) u5 x5_1)∧Aside0 (Kd.R (Kd.int .i64) 3 wc w.heap.size (fun _=>True) u6 x6_1)∧Aside0 (Below w.heap.size w wc))
   case first=>
    have H:=HC5.out;clear HC5;by_cases c6:(wrap64 (x7_1+1))<(l0.length:Int);rotate_left
    ·rw [if_neg c6] at H;have c6b0:=decide_eq_false c6;clear c6;(first|rw [c6b0]|(simp only [i64_w,i32_w];rw [c6b0])|skip);have H':=Aside0.mk H;clear H;go_wp2
     repeat (go_quiet (fail);try go_wp2)
     go_meet
     case rel=>exact ⟨_,(false),rf_,H',⟨by have:=HK1.out;first|omega|exact Nat.le_refl _⟩,am_ (zr_ HO_5),am_ (zr_ HO_6),⟨zl0_ HB⟩⟩
    rw [if_pos c6] at H;have c6b0:=decide_eq_true c6;clear c6;(first|rw [c6b0]|(simp only [i64_w,i32_w];rw [c6b0])|skip);have H':=Aside0.mk H;clear H;obtain ⟨Ao7,co7,eo7⟩:=Kd.R_slice HO_5.out;subst eo7;go_wp2
    repeat (go_quiet (fail);try go_wp2)
    go_meet
    case rel=>exact ⟨_,(decide ((x5_1.length:Int)<24)),rf_,H',⟨by have:=HK1.out;first|omega|exact Nat.le_refl _⟩,am_ (zr_ HO_5),am_ (zr_ HO_6),⟨zl0_ HB⟩⟩
   case rest=>
    clear HC5;obtain ⟨kq,x23_4,rfl,HA,HJ4,HO_5,HO_6,HB⟩:=hcut
    cases kq with
    |zero=>exact absurd HA.out (by simp [law11_Make.j1])
    |succ kj4=>
     have H:=HA.out;clear HA;simp only [law11_Make.j1] at H;by_cases c8:x23_4=true;rotate_left
     ·replace c8:=Bool.eq_false_iff.mpr c8;subst c8;rw [if_neg (show¬(false=true) by decide)] at H;obtain rfl:=Option.some.inj H;go_wp2
      repeat (go_quiet (fail);try go_wp2)
      go_ret
      exact ⟨_,by first|rfl|(simp [errW_none,errW_some]<;>rfl)|(simp [*,errW_none,errW_some]<;>rfl),zr_ HO_5,zl0_ HB⟩

     subst c8;rw [if_pos rfl] at H;replace H:=zif_ H;obtain ⟨c9,H⟩:=H;have c9b0:=decide_eq_true c9;clear c9;replace H:=zif_ H;obtain ⟨c10,H⟩:=H;have c10b0:=decide_eq_true c10;clear c10;obtain ⟨y5,hy5⟩: ∃y_:List Int,y_=(([(wrap64 (97+(Int.tmod (wrap64 ((x5_1.length:Int)*7)) 24))) % 256]:List Int)):=⟨_,rfl⟩;(first|replace H:=zsb_ hy5 H|rw [←hy5] at H);have Ny5:=Aside0.mk hy5;clear hy5;have HC11:=Aside0.mk H;clear H;obtain ⟨Ao12,co12,eo12⟩:=Kd.R_slice HO_5.out;subst eo12;obtain ⟨p4,q4,ad4,e4,hx4_0⟩:=zat_ (Kd.at_int HR0.out x7_1);cases e4;replace hx4_0:=zx_ HB hx4_0
     go_upto_region 9 with (first|((with_reducible refine gate_dst (N:=38) rfl ?_);(try (refine gate_guard (by rfl) ?_;dsimp only));refine Kd.R_lit (Kd.int .u8) _ 5 ?hg (N:=38) ?hd (xs:=([(wrap64 (97+(Int.tmod (wrap64 ((x5_1.length:Int)*7)) 24))) % 256]:List Int)) (inner:=[.int .u8 ((wrap64 (97+(Int.tmod (wrap64 ((x5_1.length:Int)*7)) 24))) % 256)]) (ok:=fun _=>True) (okp:=fun _=>True) ?hr ?hp (fun _ hk=>hk) trivial (Below.refl _ _) (Nat.le_refl _) (by simp) ?_;(case hd=>rfl);(case hg=>rfl);(case hr=>first|(go_simp;done)|(go_simp;rfl));(case hp=>exact (Reps.one (show Kd.M (Kd.int .u8) _ _ _ ((wrap64 (97+(Int.tmod (wrap64 ((x5_1.length:Int)*7)) 24))) % 256) [.int .u8 ((wrap64 (97+(Int.tmod (wrap64 ((x5_1.length:Int)*7)) 24))) % 256)] from rfl) (Reps.none _ _)));intro v6 w13 ho14 hb hg_ hnew_;clear hg_ hnew_;(first|rw [←Ny5.out] at ho14|(simp only [Int.reduceToNat] at ho14;rw [←Ny5.out] at ho14));replace HO_5:=ob_ HO_5 hb;replace HO_6:=ob_ HO_6 hb;have HO7:=am_ (Kd.R_lower ho14 (below_size (zl0_ HB)));replace HB:=am_ (below_step (zl0_ HB) hb);clear hb ho14;have hcv15:=own_string (P:=Try.prog) Try.underlying33 Try.underlying5 Try.underlying9 (Kd.own_of_R HO7.out))|((with_reducible refine gate_dst (N:=10) rfl ?_);(try (refine gate_guard (by rfl) ?_;dsimp only));refine bx_ (N:=10) (cs:=#[.string (⟨#[]⟩:ByteArray), .string (⟨#[]⟩:ByteArray), .int .i64 0, .int .i64 0, .int .i64 0]) (t:=39) ?_;intro gb8 hg w16 hbox hb;replace HO_5:=am_ (Kd.R_below (Kd.R_elderB (zr_ HO_5) gb8 (Nat.le_of_eq hg.symm)) hb);replace HO_6:=ob_ HO_6 hb;replace HO7:=ob_ HO7 hb;have BK8:=am_ (hbox);have GE8:=am_ ((zg0_ HB hg:w.heap.size≤gb8));replace HB:=am_ (below_step (zl0_ HB) hb);clear hb hbox hg;obtain ⟨hcz17_0,hcz17_1,hcz17_2,hcz17_3,hcz17_4⟩:=x5_ BK8;have hfz17_0:=blk_frozen BK8.out 0;have hfz17_1:=blk_frozen BK8.out 1;have hfz17_2:=blk_frozen BK8.out 2;have hfz17_3:=blk_frozen BK8.out 3;have hfz17_4:=blk_frozen BK8.out 4))
     repeat (go_quiet (fail);go_upto_region 9 with (first|((with_reducible refine gate_dst (N:=38) rfl ?_);(try (refine gate_guard (by rfl) ?_;dsimp only));refine Kd.R_lit (Kd.int .u8) _ 5 ?hg (N:=38) ?hd (xs:=([(wrap64 (97+(Int.tmod (wrap64 ((x5_1.length:Int)*7)) 24))) % 256]:List Int)) (inner:=[.int .u8 ((wrap64 (97+(Int.tmod (wrap64 ((x5_1.length:Int)*7)) 24))) % 256)]) (ok:=fun _=>True) (okp:=fun _=>True) ?hr ?hp (fun _ hk=>hk) trivial (Below.refl _ _) (Nat.le_refl _) (by simp) ?_;(case hd=>rfl);(case hg=>rfl);(case hr=>first|(go_simp;done)|(go_simp;rfl));(case hp=>exact (Reps.one (show Kd.M (Kd.int .u8) _ _ _ ((wrap64 (97+(Int.tmod (wrap64 ((x5_1.length:Int)*7)) 24))) % 256) [.int .u8 ((wrap64 (97+(Int.tmod (wrap64 ((x5_1.length:Int)*7)) 24))) % 256)] from rfl) (Reps.none _ _)));intro v6 w13 ho14 hb hg_ hnew_;clear hg_ hnew_;(first|rw [←Ny5.out] at ho14|(simp only [Int.reduceToNat] at ho14;rw [←Ny5.out] at ho14));replace HO_5:=ob_ HO_5 hb;replace HO_6:=ob_ HO_6 hb;have HO7:=am_ (Kd.R_lower ho14 (below_size (zl0_ HB)));replace HB:=am_ (below_step (zl0_ HB) hb);clear hb ho14;have hcv15:=own_string (P:=Try.prog) Try.underlying33 Try.underlying5 Try.underlying9 (Kd.own_of_R HO7.out))|((with_reducible refine gate_dst (N:=10) rfl ?_);(try (refine gate_guard (by rfl) ?_;dsimp only));refine bx_ (N:=10) (cs:=#[.string (⟨#[]⟩:ByteArray), .string (⟨#[]⟩:ByteArray), .int .i64 0, .int .i64 0, .int .i64 0]) (t:=39) ?_;intro gb8 hg w16 hbox hb;replace HO_5:=am_ (Kd.R_below (Kd.R_elderB (zr_ HO_5) gb8 (Nat.le_of_eq hg.symm)) hb);replace HO_6:=ob_ HO_6 hb;replace HO7:=ob_ HO7 hb;have BK8:=am_ (hbox);have GE8:=am_ ((zg0_ HB hg:w.heap.size≤gb8));replace HB:=am_ (below_step (zl0_ HB) hb);clear hb hbox hg;obtain ⟨hcz17_0,hcz17_1,hcz17_2,hcz17_3,hcz17_4⟩:=x5_ BK8;have hfz17_0:=blk_frozen BK8.out 0;have hfz17_1:=blk_frozen BK8.out 1;have hfz17_2:=blk_frozen BK8.out 2;have hfz17_3:=blk_frozen BK8.out 3;have hfz17_4:=blk_frozen BK8.out 4)))
     (try simp only [Act.put,List.setIfInBounds_toArray,List.set_cons_zero,List.set_cons_succ]);go_cut [48] (fun v48 wc=> ∃(kq:Nat) (x48_10:Bool),v48= .bool x48_10∧Aside0 (law11_Make.j2 kq l0 a1 x5_1 x6_1 x7_1 (x5_1.length:Int) (wrap64 (rd l0 x7_1)) 4096 x48_10 (strOfNums y5) (⟨#[]⟩:ByteArray) 4096 4096 4096=some r)∧Aside0 (kq≤kj4)∧Aside0 (Kd.R k39 39 wc w.heap.size (fun k_=>k_≠gb8) (.slice Ao12 x5_1.length co12) x5_1)∧Aside0 (Kd.R (Kd.int .i64) 3 wc w.heap.size (fun _=>True) u6 x6_1)∧Aside0 (wc.heap[gb8]?=some (.cells #[.string (strOfNums y5), .string (⟨#[]⟩:ByteArray), .int .i64 4096, .int .i64 4096, .int .i64 4096] 39 (0,0)))∧Aside0 (Below w.heap.size w wc))
     case first=>
      have H:=HC11.out;clear HC11;by_cases c18:(x5_1.length:Int)>0
      ·rw [if_pos c18] at H;have c18b0:decide (0<(x5_1.length:Int))=true:=decide_eq_true c18;have c18b1:decide (0<x5_1.length)=true:=decide_eq_true (by omega);clear c18;(first|rw [c18b0]|(simp only [i64_w,i32_w];rw [c18b0])|skip);have H':=Aside0.mk H;clear H;go_wp2
       repeat (go_quiet (fail);try go_wp2)
       go_meet
       case rel=>exact ⟨_,(decide ((Int.tmod (wrap64 (rd l0 x7_1)) 3)>0)),rf_,H',⟨by have:=HK1.out;have:=HJ4.out;first|omega|exact Nat.le_refl _⟩,⟨by (with_reducible repeat (first|apply Kd.R_alloc|apply Kd.R_drewN|apply Kd.R_drew));exact Kd.R_mono (Kd.R_far (p:=⟨gb8,4,none⟩) (Kd.R_far (p:=⟨gb8,3,none⟩) (Kd.R_far (p:=⟨gb8,2,none⟩) (Kd.R_far (p:=⟨gb8,1,none⟩) (Kd.R_far (p:=⟨gb8,0,none⟩) (Kd.R_mono HO_5.out (fun k_ hk=>(⟨hk,hk.2⟩:_∧k_≠gb8))) (fun _ hk=>hk.2) (.string (strOfNums y5))) (fun _ hk=>hk.2) (.string (⟨#[]⟩:ByteArray))) (fun _ hk=>hk.2) (.int .i64 4096)) (fun _ hk=>hk.2) (.int .i64 4096)) (fun _ hk=>hk.2) (.int .i64 4096)) (fun _ hk=>hk.1.2)⟩,⟨zy_ HO_6 BK8⟩,⟨zw_ BK8⟩,⟨zl1_ HB GE8⟩⟩
      rw [if_neg c18] at H;have c18b0:decide (0<(x5_1.length:Int))=false:=decide_eq_false c18;have c18b1:decide (0<x5_1.length)=false:=decide_eq_false (by omega);clear c18;(first|rw [c18b0]|(simp only [i64_w,i32_w];rw [c18b0])|skip);have H':=Aside0.mk H;clear H;go_wp2
      repeat (go_quiet (fail);try go_wp2)
      go_meet
      case rel=>exact ⟨_,(false),rf_,H',⟨by have:=HK1.out;have:=HJ4.out;first|omega|exact Nat.le_refl _⟩,⟨by (with_reducible repeat (first|apply Kd.R_alloc|apply Kd.R_drewN|apply Kd.R_drew));exact Kd.R_mono (Kd.R_far (p:=⟨gb8,4,none⟩) (Kd.R_far (p:=⟨gb8,3,none⟩) (Kd.R_far (p:=⟨gb8,2,none⟩) (Kd.R_far (p:=⟨gb8,1,none⟩) (Kd.R_far (p:=⟨gb8,0,none⟩) (Kd.R_mono HO_5.out (fun k_ hk=>(⟨hk,hk.2⟩:_∧k_≠gb8))) (fun _ hk=>hk.2) (.string (strOfNums y5))) (fun _ hk=>hk.2) (.string (⟨#[]⟩:ByteArray))) (fun _ hk=>hk.2) (.int .i64 4096)) (fun _ hk=>hk.2) (.int .i64 4096)) (fun _ hk=>hk.2) (.int .i64 4096)) (fun _ hk=>hk.1.2)⟩,⟨zy_ HO_6 BK8⟩,⟨zw_ BK8⟩,⟨zl1_ HB GE8⟩⟩
     case rest=>
      clear HC11;obtain ⟨kq,x48_10,rfl,HA,HJ10,HO_5,HO_6,BK8,HB⟩:=hcut
      cases kq with
      |zero=>exact absurd HA.out (by simp [law11_Make.j2])
      |succ kj10=>
       have H:=HA.out;clear HA;simp only [law11_Make.j2] at H;by_cases c19:x48_10=true;rotate_left
       ·replace c19:=Bool.eq_false_iff.mpr c19;subst c19;rw [if_neg (show¬(false=true) by decide)] at H;by_cases c64:a1=true;rotate_left
        ·replace c64:=Bool.eq_false_iff.mpr c64;subst c64;rw [if_neg (show¬(false=true) by decide)] at H;obtain ⟨ji79,hji79⟩: ∃j_:Int,(wrap64 (x7_1+1))=j_:=⟨_,rfl⟩;replace H:(if 0≤(ji79) then (if (ji79)<(l0.length:Int) then (if x5_1.length<2513169434916 then (if x6_1.length<17592186044416 then (law11_Make.l0 kj10 l0 false (x5_1++ [(⟨(strOfNums y5),(⟨#[]⟩:ByteArray),(⟨4096,4096,wrap64 (4096 - (wrap64 ((wrap64 (Int.tdiv 4096 3))*(wrap64 (Int.tmod (rd l0 (ji79)) 2)))))⟩:S37)⟩:S39)]) (x6_1++ [wrap64 (4096 - (wrap64 (Int.tdiv 4096 3)))]) (wrap64 (x7_1+2))) else (none)) else (none)) else (none)) else (none))=some r:=by first|(rw [hji79] at H;exact H)|(simp only [hji79] at H ⊢;exact H)
         have hji79w:(IntKind.i64.wrap (x7_1+1))=ji79:=(i64_w _).trans hji79;replace H:=zif_ H;obtain ⟨c80,H⟩:=H;have c80b0:=decide_eq_true c80;clear c80;replace H:=zif_ H;obtain ⟨c81,H⟩:=H;have c81b0:=decide_eq_true c81;clear c81;replace H:=zif_ H;obtain ⟨c82,H⟩:=H;have LMc82:=Aside0.mk c82;clear c82;simp only [lm_E1,lm_E2,lm_E3,lm_E4,lm_E5] at H;obtain ⟨y51,hy51⟩: ∃y_:List (S39),y_=(x5_1++ [(⟨(strOfNums y5),(⟨#[]⟩:ByteArray),(⟨4096,4096,wrap64 (4096 - (wrap64 ((1365)*(wrap64 (Int.tmod (rd l0 (ji79)) 2)))))⟩:S37)⟩:S39)]):=⟨_,rfl⟩;(first|replace H:=zsb_ hy51 H|rw [←hy51] at H);have Ny51:=Aside0.mk hy51;clear hy51;replace H:=zif_ H;obtain ⟨c83,H⟩:=H;have LMc83:=Aside0.mk c83;clear c83;obtain ⟨y54,hy54⟩: ∃y_:List Int,y_=(x6_1++ [2731]):=⟨_,rfl⟩;(first|replace H:=zsb_ hy54 H|rw [←hy54] at H);have Ny54:=Aside0.mk hy54;clear hy54;have H':=Aside0.mk H;clear H;obtain ⟨p50,q50,ad50,e50,hx50_0⟩:=zat_ (Kd.at_int HR0.out (ji79));obtain rfl:ad4=ad50:=(by injection e50);replace hx50_0:=zx_ HB hx50_0;obtain ⟨hcz84_0,hcz84_1,hcz84_2,hcz84_3,hcz84_4,hfz84_0,hfz84_1,hfz84_2,hfz84_3,hfz84_4⟩:=y5_ BK8
         go_wp2_with (first|((with_reducible refine gate_builtin (b:= .append) (xs:=#[.tmp 102, .tmp 104]) rfl ?_);(try (refine gate_guard (by rfl) ?_;dsimp only));at_builtin;refine Kd.R_append k39 (w0:=w) w.heap.size rfl (.tmp 102) (.tmp 104) 22 39 (.agg #[(.string ⟨#[]⟩),(.string ⟨#[]⟩),(.int .i64 0),(.int .i64 0),(.int .i64 0)]) 56 rfl Try.underlying22 info39 rfl (by decide) (by omega) (.slice Ao12 x5_1.length co12) x5_1 (⟨(strOfNums y5),(⟨#[]⟩:ByteArray),(⟨4096,4096,wrap64 (4096 - (wrap64 ((1365)*(wrap64 (Int.tmod (rd l0 (ji79)) 2)))))⟩:S37)⟩:S39) [.string (strOfNums y5), .string (⟨#[]⟩:ByteArray), .int .i64 4096, .int .i64 4096, .int .i64 (wrap64 (4096 - (wrap64 ((1365)*(wrap64 (Int.tmod (rd l0 (ji79)) 2))))))] (fun k_=>k_≠gb8) (fun _=>False) rfl (by first|(go_simp;done)|(go_simp;rfl)) ?aP (fun _ hk=>hk.elim) ?aF ?aO ?aB ?aS ?aL ?_;(case aP=>exact k39_mkM _ _ _ (⟨(strOfNums y5),(⟨#[]⟩:ByteArray),(⟨4096,4096,wrap64 (4096 - (wrap64 ((1365)*(wrap64 (Int.tmod (rd l0 (ji79)) 2)))))⟩:S37)⟩:S39));(case aB=>exact (zl1_ HB GE8));(case aF=>exact (fun k_ hk=>Kd.freshB (g:=gb8) (o:= .cells #[.string (strOfNums y5), .string (⟨#[]⟩:ByteArray), .int .i64 4096, .int .i64 4096, .int .i64 (wrap64 (4096 - (wrap64 ((1365)*(wrap64 (Int.tmod (rd l0 (ji79)) 2))))))] 39 (0,0)) (zw_ BK8) k_ hk));(case aO=>exact (by refine zt_ ?_;exact zu2_ gb8 HO_5));(case aS=>exact (below_size (zl1_ HB GE8)));(case aL=>have:=LMc82.out;omega);intro v52 w85 ho hb hg hat;rw [←Ny51.out] at ho;have n0_:=am_ (Kd.R_over' (by refine zt_ ?_;exact (zv2_ HO_6 BK8)) (Kd.R_typed (by refine zt_ ?_;exact (zu2_ gb8 HO_5))) (by decide) hg);have n1_:=am_ (blk_grown (g:=gb8) (o:= .cells #[.string (strOfNums y5), .string (⟨#[]⟩:ByteArray), .int .i64 4096, .int .i64 4096, .int .i64 (wrap64 (4096 - (wrap64 ((1365)*(wrap64 (Int.tmod (rd l0 (ji79)) 2))))))] 39 (0,0)) (zw_ BK8) hg (Kd.R_away HO_5.out (fun _ hk=>hk)));have n2_:=am_ (hb);have n3_:=am_ (ho);clear HO_6;clear BK8;clear HB;clear HO_5;have HO_6:=n0_;have BK8:=n1_;have HB:=n2_;have HO53:=n3_;clear n0_ n1_ n2_ n3_;clear ho hb hg hat)|((with_reducible refine gate_builtin (b:= .append) (xs:=#[.tmp 106, .tmp 111]) rfl ?_);(try (refine gate_guard (by rfl) ?_;dsimp only));at_builtin;refine Kd.R_append (Kd.int .i64) (w0:=w) w.heap.size rfl (.tmp 106) (.tmp 111) 122 3 (.int .i64 0) 8 rfl Try.underlying122 info3 rfl (by decide) (by omega) u6 x6_1 (2731) [.int .i64 (2731)] (fun _=>True) (fun _=>False) rfl rfl ?aP (fun _ hk=>hk.elim) ?aF ?aO ?aB ?aS ?aL ?_;(case aP=>exact rfl);(case aB=>exact (zl1_ HB GE8));(case aF=>exact (fun _ _=>trivial));(case aO=>exact (zr_ HO_6));(case aS=>exact (below_size (zl1_ HB GE8)));(case aL=>have:=LMc83.out;omega);intro v55 w86 ho hb hg hat;rw [←Ny54.out] at ho;have n0_:=am_ (blk_grown (g:=gb8) (o:= .cells #[.string (strOfNums y5), .string (⟨#[]⟩:ByteArray), .int .i64 4096, .int .i64 4096, .int .i64 (wrap64 (4096 - (wrap64 ((1365)*(wrap64 (Int.tmod (rd l0 (ji79)) 2))))))] 39 (0,0)) (zb_ BK8) hg (Kd.R_ne HO_6.out BK8.out (by decide)));have n1_:=am_ (Kd.R_over' (zr_ HO53) (Kd.R_typed (zr_ HO_6)) (by decide) hg);have n2_:=am_ (hb);have n3_:=am_ (ho);clear BK8;clear HO53;clear HB;clear HO_6;have BK8:=n0_;have HO53:=n1_;have HB:=n2_;have HO56:=n3_;clear n0_ n1_ n2_ n3_;clear ho hb hg hat))
         repeat (go_quiet (fail);try go_wp2_with fail)
         go_roundg kj10
         case measure=>have:=HK1.out;have:=HJ4.out;have:=HJ10.out;omega
         case rel=>exact ⟨(y51),(y54),(wrap64 (x7_1+2)),rf_,H',⟨by have:=HK1.out;have:=HJ4.out;have:=HJ10.out;omega⟩,⟨by (with_reducible repeat (first|apply Kd.R_alloc|apply Kd.R_drewN|apply Kd.R_drew));exact Kd.R_mono HO53.out (fun _ hk=>trivial)⟩,am_ (zr_ HO56),⟨zl1_ HB GE8⟩⟩
        subst c64;rw [if_pos rfl] at H;obtain ⟨ji65,hji65⟩: ∃j_:Int,(wrap64 (x7_1+1))=j_:=⟨_,rfl⟩;replace H:(if 0≤(ji65) then (if (ji65)<(l0.length:Int) then (if (Int.tmod (rd l0 (ji65)) 16)=0 then (if x5_1.length<2513169434916 then (if x6_1.length<17592186044416 then (law11_Make.l0 kj10 l0 true (x5_1++ [(⟨(strOfNums y5),(⟨#[]⟩:ByteArray),(⟨wrap64 ((wrap64 (4096*2))+1),wrap64 ((wrap64 (4096*2))+1),wrap64 ((wrap64 ((wrap64 (4096*2))+1)) - (wrap64 ((wrap64 (Int.tdiv (wrap64 ((wrap64 (4096*2))+1)) 3))*(wrap64 (Int.tmod (rd l0 (ji65)) 2)))))⟩:S37)⟩:S39)]) (x6_1++ [wrap64 ((wrap64 ((wrap64 (4096*2))+1)) - (wrap64 (Int.tdiv (wrap64 ((wrap64 (4096*2))+1)) 3)))]) (wrap64 (x7_1+2))) else (none)) else (none)) else (if x5_1.length<2513169434916 then (if x6_1.length<17592186044416 then (law11_Make.l0 kj10 l0 true (x5_1++ [(⟨(strOfNums y5),(⟨#[]⟩:ByteArray),(⟨4096,4096,wrap64 (4096 - (wrap64 ((wrap64 (Int.tdiv 4096 3))*(wrap64 (Int.tmod (rd l0 (ji65)) 2)))))⟩:S37)⟩:S39)]) (x6_1++ [wrap64 (4096 - (wrap64 (Int.tdiv 4096 3)))]) (wrap64 (x7_1+2))) else (none)) else (none))) else (none)) else (none))=some r:=by first|(rw [hji65] at H;exact H)|(simp only [hji65] at H ⊢;exact H)
        have hji65w:(IntKind.i64.wrap (x7_1+1))=ji65:=(i64_w _).trans hji65;replace H:=zif_ H;obtain ⟨c66,H⟩:=H;have c66b0:=decide_eq_true c66;clear c66;replace H:=zif_ H;obtain ⟨c67,H⟩:=H;have c67b0:=decide_eq_true c67;clear c67;by_cases c68:(Int.tmod (rd l0 (ji65)) 16)=0
        ·rw [if_pos c68] at H;have c68b0:=beq_iff_eq.mpr c68;have c68b1:=bne_eq_false_iff_eq.mpr c68;clear c68;replace H:=zif_ H;obtain ⟨c69,H⟩:=H;have LMc69:=Aside0.mk c69;clear c69;simp only [lm_E1,lm_E2,lm_E3,lm_E4,lm_E5] at H;obtain ⟨y37,hy37⟩: ∃y_:List (S39),y_=(x5_1++ [(⟨(strOfNums y5),(⟨#[]⟩:ByteArray),(⟨8193,8193,wrap64 ((8193) - (wrap64 ((2731)*(wrap64 (Int.tmod (rd l0 (ji65)) 2)))))⟩:S37)⟩:S39)]):=⟨_,rfl⟩;(first|replace H:=zsb_ hy37 H|rw [←hy37] at H);have Ny37:=Aside0.mk hy37;clear hy37;replace H:=zif_ H;obtain ⟨c70,H⟩:=H;have LMc70:=Aside0.mk c70;clear c70;obtain ⟨y40,hy40⟩: ∃y_:List Int,y_=(x6_1++ [5462]):=⟨_,rfl⟩;(first|replace H:=zsb_ hy40 H|rw [←hy40] at H);have Ny40:=Aside0.mk hy40;clear hy40;have H':=Aside0.mk H;clear H;obtain ⟨p35,q35,ad35,e35,hx35_0⟩:=zat_ (Kd.at_int HR0.out (ji65));obtain rfl:ad4=ad35:=(by injection e35);replace hx35_0:=zx_ HB hx35_0;obtain ⟨p36,q36,ad36,e36,hx36_0⟩:=zat_ (Kd.at_int HR0.out (ji65));obtain rfl:ad4=ad36:=(by injection e36);replace hx36_0:=zx_ HB hx36_0;obtain ⟨hcz71_0,hcz71_1,hcz71_2,hcz71_3,hcz71_4,hfz71_0,hfz71_1,hfz71_2,hfz71_3,hfz71_4⟩:=y5_ BK8
         go_wp2_with (first|((with_reducible refine gate_builtin (b:= .append) (xs:=#[.tmp 102, .tmp 104]) rfl ?_);(try (refine gate_guard (by rfl) ?_;dsimp only));at_builtin;refine Kd.R_append k39 (w0:=w) w.heap.size rfl (.tmp 102) (.tmp 104) 22 39 (.agg #[(.string ⟨#[]⟩),(.string ⟨#[]⟩),(.int .i64 0),(.int .i64 0),(.int .i64 0)]) 56 rfl Try.underlying22 info39 rfl (by decide) (by omega) (.slice Ao12 x5_1.length co12) x5_1 (⟨(strOfNums y5),(⟨#[]⟩:ByteArray),(⟨8193,8193,wrap64 ((8193) - (wrap64 ((2731)*(wrap64 (Int.tmod (rd l0 (ji65)) 2)))))⟩:S37)⟩:S39) [.string (strOfNums y5), .string (⟨#[]⟩:ByteArray), .int .i64 (8193), .int .i64 (8193), .int .i64 (wrap64 ((8193) - (wrap64 ((2731)*(wrap64 (Int.tmod (rd l0 (ji65)) 2))))))] (fun k_=>k_≠gb8) (fun _=>False) rfl (by first|(go_simp;done)|(go_simp;rfl)) ?aP (fun _ hk=>hk.elim) ?aF ?aO ?aB ?aS ?aL ?_;(case aP=>exact k39_mkM _ _ _ (⟨(strOfNums y5),(⟨#[]⟩:ByteArray),(⟨8193,8193,wrap64 ((8193) - (wrap64 ((2731)*(wrap64 (Int.tmod (rd l0 (ji65)) 2)))))⟩:S37)⟩:S39));(case aB=>exact (zl1_ HB GE8));(case aF=>exact (fun k_ hk=>Kd.freshB (g:=gb8) (o:= .cells #[.string (strOfNums y5), .string (⟨#[]⟩:ByteArray), .int .i64 (8193), .int .i64 (8193), .int .i64 (wrap64 ((8193) - (wrap64 ((2731)*(wrap64 (Int.tmod (rd l0 (ji65)) 2))))))] 39 (0,0)) (zw_ BK8) k_ hk));(case aO=>exact (by refine zt_ ?_;exact zu2_ gb8 HO_5));(case aS=>exact (below_size (zl1_ HB GE8)));(case aL=>have:=LMc69.out;omega);intro v38 w72 ho hb hg hat;rw [←Ny37.out] at ho;have n0_:=am_ (Kd.R_over' (by refine zt_ ?_;exact (zv2_ HO_6 BK8)) (Kd.R_typed (by refine zt_ ?_;exact (zu2_ gb8 HO_5))) (by decide) hg);have n1_:=am_ (blk_grown (g:=gb8) (o:= .cells #[.string (strOfNums y5), .string (⟨#[]⟩:ByteArray), .int .i64 (8193), .int .i64 (8193), .int .i64 (wrap64 ((8193) - (wrap64 ((2731)*(wrap64 (Int.tmod (rd l0 (ji65)) 2))))))] 39 (0,0)) (zw_ BK8) hg (Kd.R_away HO_5.out (fun _ hk=>hk)));have n2_:=am_ (hb);have n3_:=am_ (ho);clear HO_6;clear BK8;clear HB;clear HO_5;have HO_6:=n0_;have BK8:=n1_;have HB:=n2_;have HO39:=n3_;clear n0_ n1_ n2_ n3_;clear ho hb hg hat)|((with_reducible refine gate_builtin (b:= .append) (xs:=#[.tmp 106, .tmp 111]) rfl ?_);(try (refine gate_guard (by rfl) ?_;dsimp only));at_builtin;refine Kd.R_append (Kd.int .i64) (w0:=w) w.heap.size rfl (.tmp 106) (.tmp 111) 122 3 (.int .i64 0) 8 rfl Try.underlying122 info3 rfl (by decide) (by omega) u6 x6_1 (5462) [.int .i64 (5462)] (fun _=>True) (fun _=>False) rfl rfl ?aP (fun _ hk=>hk.elim) ?aF ?aO ?aB ?aS ?aL ?_;(case aP=>exact rfl);(case aB=>exact (zl1_ HB GE8));(case aF=>exact (fun _ _=>trivial));(case aO=>exact (zr_ HO_6));(case aS=>exact (below_size (zl1_ HB GE8)));(case aL=>have:=LMc70.out;omega);intro v41 w73 ho hb hg hat;rw [←Ny40.out] at ho;have n0_:=am_ (blk_grown (g:=gb8) (o:= .cells #[.string (strOfNums y5), .string (⟨#[]⟩:ByteArray), .int .i64 (8193), .int .i64 (8193), .int .i64 (wrap64 ((8193) - (wrap64 ((2731)*(wrap64 (Int.tmod (rd l0 (ji65)) 2))))))] 39 (0,0)) (zb_ BK8) hg (Kd.R_ne HO_6.out BK8.out (by decide)));have n1_:=am_ (Kd.R_over' (zr_ HO39) (Kd.R_typed (zr_ HO_6)) (by decide) hg);have n2_:=am_ (hb);have n3_:=am_ (ho);clear BK8;clear HO39;clear HB;clear HO_6;have BK8:=n0_;have HO39:=n1_;have HB:=n2_;have HO42:=n3_;clear n0_ n1_ n2_ n3_;clear ho hb hg hat))
         repeat (go_quiet (fail);try go_wp2_with fail)
         go_roundg kj10
         case measure=>have:=HK1.out;have:=HJ4.out;have:=HJ10.out;omega
         case rel=>exact ⟨(y37),(y40),(wrap64 (x7_1+2)),rf_,H',⟨by have:=HK1.out;have:=HJ4.out;have:=HJ10.out;omega⟩,⟨by (with_reducible repeat (first|apply Kd.R_alloc|apply Kd.R_drewN|apply Kd.R_drew));exact Kd.R_mono HO39.out (fun _ hk=>trivial)⟩,am_ (zr_ HO42),⟨zl1_ HB GE8⟩⟩
        rw [if_neg c68] at H;have c68b0:=beq_eq_false_iff_ne.mpr c68;have c68b1:=bne_iff_ne.mpr c68;replace H:=zif_ H;obtain ⟨c74,H⟩:=H;have LMc74:=Aside0.mk c74;clear c74;simp only [lm_E1,lm_E2,lm_E3,lm_E4,lm_E5] at H;obtain ⟨y44,hy44⟩: ∃y_:List (S39),y_=(x5_1++ [(⟨(strOfNums y5),(⟨#[]⟩:ByteArray),(⟨4096,4096,wrap64 (4096 - (wrap64 ((1365)*(wrap64 (Int.tmod (rd l0 (ji65)) 2)))))⟩:S37)⟩:S39)]):=⟨_,rfl⟩;(first|replace H:=zsb_ hy44 H|rw [←hy44] at H);have Ny44:=Aside0.mk hy44;clear hy44;replace H:=zif_ H;obtain ⟨c75,H⟩:=H;have LMc75:=Aside0.mk c75;clear c75;obtain ⟨y47,hy47⟩: ∃y_:List Int,y_=(x6_1++ [2731]):=⟨_,rfl⟩;(first|replace H:=zsb_ hy47 H|rw [←hy47] at H);have Ny47:=Aside0.mk hy47;clear hy47;have H':=Aside0.mk H;clear H;obtain ⟨p35,q35,ad35,e35,hx35_0⟩:=zat_ (Kd.at_int HR0.out (ji65));obtain rfl:ad4=ad35:=(by injection e35);replace hx35_0:=zx_ HB hx35_0;obtain ⟨p43,q43,ad43,e43,hx43_0⟩:=zat_ (Kd.at_int HR0.out (ji65));obtain rfl:ad4=ad43:=(by injection e43);replace hx43_0:=zx_ HB hx43_0;obtain ⟨hcz76_0,hcz76_1,hcz76_2,hcz76_3,hcz76_4,hfz76_0,hfz76_1,hfz76_2,hfz76_3,hfz76_4⟩:=y5_ BK8
        go_wp2_with (first|((with_reducible refine gate_builtin (b:= .append) (xs:=#[.tmp 102, .tmp 104]) rfl ?_);(try (refine gate_guard (by rfl) ?_;dsimp only));at_builtin;refine Kd.R_append k39 (w0:=w) w.heap.size rfl (.tmp 102) (.tmp 104) 22 39 (.agg #[(.string ⟨#[]⟩),(.string ⟨#[]⟩),(.int .i64 0),(.int .i64 0),(.int .i64 0)]) 56 rfl Try.underlying22 info39 rfl (by decide) (by omega) (.slice Ao12 x5_1.length co12) x5_1 (⟨(strOfNums y5),(⟨#[]⟩:ByteArray),(⟨4096,4096,wrap64 (4096 - (wrap64 ((1365)*(wrap64 (Int.tmod (rd l0 (ji65)) 2)))))⟩:S37)⟩:S39) [.string (strOfNums y5), .string (⟨#[]⟩:ByteArray), .int .i64 4096, .int .i64 4096, .int .i64 (wrap64 (4096 - (wrap64 ((1365)*(wrap64 (Int.tmod (rd l0 (ji65)) 2))))))] (fun k_=>k_≠gb8) (fun _=>False) rfl (by first|(go_simp;done)|(go_simp;rfl)) ?aP (fun _ hk=>hk.elim) ?aF ?aO ?aB ?aS ?aL ?_;(case aP=>exact k39_mkM _ _ _ (⟨(strOfNums y5),(⟨#[]⟩:ByteArray),(⟨4096,4096,wrap64 (4096 - (wrap64 ((1365)*(wrap64 (Int.tmod (rd l0 (ji65)) 2)))))⟩:S37)⟩:S39));(case aB=>exact (zl1_ HB GE8));(case aF=>exact (fun k_ hk=>Kd.freshB (g:=gb8) (o:= .cells #[.string (strOfNums y5), .string (⟨#[]⟩:ByteArray), .int .i64 4096, .int .i64 4096, .int .i64 (wrap64 (4096 - (wrap64 ((1365)*(wrap64 (Int.tmod (rd l0 (ji65)) 2))))))] 39 (0,0)) (zw_ BK8) k_ hk));(case aO=>exact (by refine zt_ ?_;exact zu2_ gb8 HO_5));(case aS=>exact (below_size (zl1_ HB GE8)));(case aL=>have:=LMc74.out;omega);intro v45 w77 ho hb hg hat;rw [←Ny44.out] at ho;have n0_:=am_ (Kd.R_over' (by refine zt_ ?_;exact (zv2_ HO_6 BK8)) (Kd.R_typed (by refine zt_ ?_;exact (zu2_ gb8 HO_5))) (by decide) hg);have n1_:=am_ (blk_grown (g:=gb8) (o:= .cells #[.string (strOfNums y5), .string (⟨#[]⟩:ByteArray), .int .i64 4096, .int .i64 4096, .int .i64 (wrap64 (4096 - (wrap64 ((1365)*(wrap64 (Int.tmod (rd l0 (ji65)) 2))))))] 39 (0,0)) (zw_ BK8) hg (Kd.R_away HO_5.out (fun _ hk=>hk)));have n2_:=am_ (hb);have n3_:=am_ (ho);clear HO_6;clear BK8;clear HB;clear HO_5;have HO_6:=n0_;have BK8:=n1_;have HB:=n2_;have HO46:=n3_;clear n0_ n1_ n2_ n3_;clear ho hb hg hat)|((with_reducible refine gate_builtin (b:= .append) (xs:=#[.tmp 106, .tmp 111]) rfl ?_);(try (refine gate_guard (by rfl) ?_;dsimp only));at_builtin;refine Kd.R_append (Kd.int .i64) (w0:=w) w.heap.size rfl (.tmp 106) (.tmp 111) 122 3 (.int .i64 0) 8 rfl Try.underlying122 info3 rfl (by decide) (by omega) u6 x6_1 (2731) [.int .i64 (2731)] (fun _=>True) (fun _=>False) rfl rfl ?aP (fun _ hk=>hk.elim) ?aF ?aO ?aB ?aS ?aL ?_;(case aP=>exact rfl);(case aB=>exact (zl1_ HB GE8));(case aF=>exact (fun _ _=>trivial));(case aO=>exact (zr_ HO_6));(case aS=>exact (below_size (zl1_ HB GE8)));(case aL=>have:=LMc75.out;omega);intro v48 w78 ho hb hg hat;rw [←Ny47.out] at ho;have n0_:=am_ (blk_grown (g:=gb8) (o:= .cells #[.string (strOfNums y5), .string (⟨#[]⟩:ByteArray), .int .i64 4096, .int .i64 4096, .int .i64 (wrap64 (4096 - (wrap64 ((1365)*(wrap64 (Int.tmod (rd l0 (ji65)) 2))))))] 39 (0,0)) (zb_ BK8) hg (Kd.R_ne HO_6.out BK8.out (by decide)));have n1_:=am_ (Kd.R_over' (zr_ HO46) (Kd.R_typed (zr_ HO_6)) (by decide) hg);have n2_:=am_ (hb);have n3_:=am_ (ho);clear BK8;clear HO46;clear HB;clear HO_6;have BK8:=n0_;have HO46:=n1_;have HB:=n2_;have HO49:=n3_;clear n0_ n1_ n2_ n3_;clear ho hb hg hat))
        repeat (go_quiet (fail);try go_wp2_with fail)
        go_roundg kj10
        case measure=>have:=HK1.out;have:=HJ4.out;have:=HJ10.out;omega
        case rel=>exact ⟨(y44),(y47),(wrap64 (x7_1+2)),rf_,H',⟨by have:=HK1.out;have:=HJ4.out;have:=HJ10.out;omega⟩,⟨by (with_reducible repeat (first|apply Kd.R_alloc|apply Kd.R_drewN|apply Kd.R_drew));exact Kd.R_mono HO46.out (fun _ hk=>trivial)⟩,am_ (zr_ HO49),⟨zl1_ HB GE8⟩⟩
       subst c19;rw [if_pos rfl] at H;by_cases c20:(x5_1.length:Int)=0
       ·rw [if_pos c20] at H;exact absurd H (by simp)
       rw [if_neg c20] at H;have c20b0:=beq_eq_false_iff_ne.mpr c20;have c20b1:=bne_iff_ne.mpr c20;have c20b2: ¬(x5_1=[]):=fun h_=>c20 (by rw [h_];rfl)
       obtain ⟨ji21,hji21⟩: ∃j_:Int,(Int.tmod (wrap64 (Int.tdiv (wrap64 (rd l0 x7_1)) 3)) (x5_1.length:Int))=j_:=⟨_,rfl⟩
       replace H:(if 0≤(ji21) then (if (ji21)<(x5_1.length:Int) then (if (ji21)<(x6_1.length:Int) then ((some (x6_1.set ((ji21):Int).toNat (wrap64 ((rd x6_1 (ji21)) - (wrap64 (Int.tdiv (rd x6_1 (ji21)) 2)))):List Int)).bind fun y12=>(if a1=true then (if 0≤(wrap64 (x7_1+1)) then (if (wrap64 (x7_1+1))<(l0.length:Int) then (if (Int.tmod (rd l0 (wrap64 (x7_1+1))) 16)=0 then (if x5_1.length<2513169434916 then (if y12.length<17592186044416 then (law11_Make.l0 kj10 l0 a1 (x5_1++ [(⟨(strOfNums y5),(rd_T39 x5_1 (ji21)).f0,(⟨wrap64 ((wrap64 ((wrap64 (Int.tdiv (rd x6_1 (ji21)) 2))*2))+1),wrap64 ((wrap64 ((wrap64 (Int.tdiv (rd x6_1 (ji21)) 2))*2))+1),wrap64 ((wrap64 ((wrap64 ((wrap64 (Int.tdiv (rd x6_1 (ji21)) 2))*2))+1)) - (wrap64 ((wrap64 (Int.tdiv (wrap64 ((wrap64 ((wrap64 (Int.tdiv (rd x6_1 (ji21)) 2))*2))+1)) 3))*(wrap64 (Int.tmod (rd l0 (wrap64 (x7_1+1))) 2)))))⟩:S37)⟩:S39)]) (y12++ [wrap64 ((wrap64 ((wrap64 ((wrap64 (Int.tdiv (rd x6_1 (ji21)) 2))*2))+1)) - (wrap64 (Int.tdiv (wrap64 ((wrap64 ((wrap64 (Int.tdiv (rd x6_1 (ji21)) 2))*2))+1)) 3)))]) (wrap64 (x7_1+2))) else (none)) else (none)) else (if x5_1.length<2513169434916 then (if y12.length<17592186044416 then (law11_Make.l0 kj10 l0 a1 (x5_1++ [(⟨(strOfNums y5),(rd_T39 x5_1 (ji21)).f0,(⟨wrap64 (Int.tdiv (rd x6_1 (ji21)) 2),wrap64 (Int.tdiv (rd x6_1 (ji21)) 2),wrap64 ((wrap64 (Int.tdiv (rd x6_1 (ji21)) 2)) - (wrap64 ((wrap64 (Int.tdiv (wrap64 (Int.tdiv (rd x6_1 (ji21)) 2)) 3))*(wrap64 (Int.tmod (rd l0 (wrap64 (x7_1+1))) 2)))))⟩:S37)⟩:S39)]) (y12++ [wrap64 ((wrap64 (Int.tdiv (rd x6_1 (ji21)) 2)) - (wrap64 (Int.tdiv (wrap64 (Int.tdiv (rd x6_1 (ji21)) 2)) 3)))]) (wrap64 (x7_1+2))) else (none)) else (none))) else (none)) else (none)) else (if 0≤(wrap64 (x7_1+1)) then (if (wrap64 (x7_1+1))<(l0.length:Int) then (if x5_1.length<2513169434916 then (if y12.length<17592186044416 then (law11_Make.l0 kj10 l0 a1 (x5_1++ [(⟨(strOfNums y5),(rd_T39 x5_1 (ji21)).f0,(⟨wrap64 (Int.tdiv (rd x6_1 (ji21)) 2),wrap64 (Int.tdiv (rd x6_1 (ji21)) 2),wrap64 ((wrap64 (Int.tdiv (rd x6_1 (ji21)) 2)) - (wrap64 ((wrap64 (Int.tdiv (wrap64 (Int.tdiv (rd x6_1 (ji21)) 2)) 3))*(wrap64 (Int.tmod (rd l0 (wrap64 (x7_1+1))) 2)))))⟩:S37)⟩:S39)]) (y12++ [wrap64 ((wrap64 (Int.tdiv (rd x6_1 (ji21)) 2)) - (wrap64 (Int.tdiv (wrap64 (Int.tdiv (rd x6_1 (ji21)) 2)) 3)))]) (wrap64 (x7_1+2))) else (none)) else (none)) else (none)) else (none)))) else (none)) else (none)) else (none))=some r:=by first|(rw [hji21] at H;exact H)|(simp only [hji21] at H ⊢;exact H)
       replace H:=zif_ H;obtain ⟨c22,H⟩:=H;have c22b0:=decide_eq_true c22;clear c22;replace H:=zif_ H;obtain ⟨c23,H⟩:=H;have c23b0:=decide_eq_true c23;clear c23;replace H:=zif_ H;obtain ⟨c24,H⟩:=H;have c24b0:=decide_eq_true c24;clear c24;obtain ⟨y12,hy12⟩: ∃y_:List Int,y_=(x6_1.set ((ji21):Int).toNat (wrap64 ((rd x6_1 (ji21)) - (wrap64 (Int.tdiv (rd x6_1 (ji21)) 2))))):=⟨_,rfl⟩;(first|replace H:=zsb_ hy12 H|rw [←hy12] at H);have Ny12:=Aside0.mk hy12;clear hy12;by_cases c26:a1=true;rotate_left
       ·replace c26:=Bool.eq_false_iff.mpr c26;subst c26;rw [if_neg (show¬(false=true) by decide)] at H;obtain ⟨ji51,hji51⟩: ∃j_:Int,(wrap64 (x7_1+1))=j_:=⟨_,rfl⟩;replace H:(if 0≤(ji51) then (if (ji51)<(l0.length:Int) then (if x5_1.length<2513169434916 then (if y12.length<17592186044416 then (law11_Make.l0 kj10 l0 false (x5_1++ [(⟨(strOfNums y5),(rd_T39 x5_1 (ji21)).f0,(⟨wrap64 (Int.tdiv (rd x6_1 (ji21)) 2),wrap64 (Int.tdiv (rd x6_1 (ji21)) 2),wrap64 ((wrap64 (Int.tdiv (rd x6_1 (ji21)) 2)) - (wrap64 ((wrap64 (Int.tdiv (wrap64 (Int.tdiv (rd x6_1 (ji21)) 2)) 3))*(wrap64 (Int.tmod (rd l0 (ji51)) 2)))))⟩:S37)⟩:S39)]) (y12++ [wrap64 ((wrap64 (Int.tdiv (rd x6_1 (ji21)) 2)) - (wrap64 (Int.tdiv (wrap64 (Int.tdiv (rd x6_1 (ji21)) 2)) 3)))]) (wrap64 (x7_1+2))) else (none)) else (none)) else (none)) else (none))=some r:=by first|(rw [hji51] at H;exact H)|(simp only [hji51] at H ⊢;exact H)
        have hji51w:(IntKind.i64.wrap (x7_1+1))=ji51:=(i64_w _).trans hji51;replace H:=zif_ H;obtain ⟨c52,H⟩:=H;have c52b0:=decide_eq_true c52;clear c52;replace H:=zif_ H;obtain ⟨c53,H⟩:=H;have c53b0:=decide_eq_true c53;clear c53;replace H:=zif_ H;obtain ⟨c54,H⟩:=H;have LMc54:=Aside0.mk c54;clear c54;obtain ⟨y29,hy29⟩: ∃y_:List (S39),y_=(x5_1++ [(⟨(strOfNums y5),(rd_T39 x5_1 (ji21)).f0,(⟨wrap64 (Int.tdiv (rd x6_1 (ji21)) 2),wrap64 (Int.tdiv (rd x6_1 (ji21)) 2),wrap64 ((wrap64 (Int.tdiv (rd x6_1 (ji21)) 2)) - (wrap64 ((wrap64 (Int.tdiv (wrap64 (Int.tdiv (rd x6_1 (ji21)) 2)) 3))*(wrap64 (Int.tmod (rd l0 (ji51)) 2)))))⟩:S37)⟩:S39)]):=⟨_,rfl⟩;(first|replace H:=zsb_ hy29 H|rw [←hy29] at H);have Ny29:=Aside0.mk hy29;clear hy29;replace H:=zif_ H;obtain ⟨c55,H⟩:=H;have LMc55:=Aside0.mk c55;clear c55;obtain ⟨y32,hy32⟩: ∃y_:List Int,y_=(y12++ [wrap64 ((wrap64 (Int.tdiv (rd x6_1 (ji21)) 2)) - (wrap64 (Int.tdiv (wrap64 (Int.tdiv (rd x6_1 (ji21)) 2)) 3)))]):=⟨_,rfl⟩;(first|replace H:=zsb_ hy32 H|rw [←hy32] at H);have Ny32:=Aside0.mk hy32;clear hy32;have H':=Aside0.mk H;clear H;obtain ⟨p9,q9,ad9,e9,hx9_0,hx9_1,hx9_2,hx9_3,hx9_4⟩:=zat_ (at_T39 (Kd.R_reads' HO_5.out).2.2 (ji21));cases e9;obtain ⟨hcz56_0,hcz56_1,hcz56_2,hcz56_3,hcz56_4,hfz56_0,hfz56_1,hfz56_2,hfz56_3,hfz56_4⟩:=y5_ BK8
        go_wp2_with (first|((with_reducible refine gate_store (t:=9) (p:=58) rfl ?_);(try (rw [drewN_self wc];generalize hq_:World.drewN wc _=wc;have n0_:=am_ (Kd.R_at hq_ HO_5.out);have n1_:=am_ (Kd.R_at hq_ HO_6.out);have n2_:=am_ (blk_at hq_ BK8.out);have n3_:=am_ (below_at hq_ HB.out);clear hq_ HO_5 HO_6 BK8 HB;have HO_5:=n0_;have HO_6:=n1_;have BK8:=n2_;have HB:=n3_;clear n0_ n1_ n2_ n3_));refine store_event (t:=9) (p:=58) (v:= ?vo_w57) (w1:=(wc.setCell ⟨gb8,1,none⟩ (.string ((rd_T39 x5_1 (ji21)).f0)))) ?hg ?ho ?hn ?hr ?_;(case ho=>rfl);(case hg=>rfl);(case hn=>rfl);(case hr=>first|(go_simp;done)|(go_simp;rfl));intro w57 hw;have n0_:Aside0 (Kd.R k39 39 w57 w.heap.size (fun k_=>k_≠gb8) (.slice (some ad9) x5_1.length co12) x5_1):=⟨(by rw [hw];exact (by refine zt_ ?_;exact zu2_ gb8 HO_5))⟩;have n1_:Aside0 (Kd.R (Kd.int .i64) 3 w57 w.heap.size (fun _=>True) u6 x6_1):=⟨(by rw [hw];exact (by refine zt_ ?_;exact zy_ HO_6 BK8))⟩;have n2_:Aside0 (w57.heap[gb8]?=some (.cells #[.string (strOfNums y5), .string ((rd_T39 x5_1 (ji21)).f0), .int .i64 4096, .int .i64 4096, .int .i64 4096] 39 (0,0))):=⟨(by rw [hw];exact (zw_ BK8))⟩;have n3_:Aside0 (Below w.heap.size w w57):=⟨(by rw [hw];exact (zl1_ HB GE8))⟩;clear hw;clear HO_5;clear HO_6;clear BK8;clear HB;have HO_5:=n0_;have HO_6:=n1_;have BK8:=n2_;have HB:=n3_;clear n0_ n1_ n2_ n3_;obtain ⟨Ao58,co58,eo58⟩:=Kd.R_slice HO_6.out;subst eo58;have p10:0≤((ji21):Int):=of_decide_eq_true zq_;have q10:(ji21)<(x6_1.length:Int):=of_decide_eq_true zq_;obtain ⟨ad10,e10,hx10_0⟩:=Kd.at_int (Kd.R_reads' HO_6.out).2.2 (ji21) p10 q10;cases e10;replace p10:=eq_true p10;replace q10:=eq_true q10;have p11:0≤((ji21):Int):=of_decide_eq_true zq_;have q11:(ji21)<(x6_1.length:Int):=of_decide_eq_true zq_;obtain ⟨ad11,e11,hx11_0⟩:=Kd.at_int (Kd.R_reads' HO_6.out).2.2 (ji21) p11 q11;obtain rfl:ad10=ad11:=(by injection e11);replace p11:=eq_true p11;replace q11:=eq_true q11;have p25:0≤((ji21):Int):=of_decide_eq_true zq_;have q25:((ji21):Int)<((x6_1.length:Int):Int):=of_decide_eq_true zq_;obtain ⟨go25,co25,eo25,gb25,gl25,cl25,HG25⟩:=Kd.R_form HO_6.out (by omega);(first|cases eo25|(injection eo25 with ea_ en_ ec_;(first|subst ea_|(injection ea_ with ea_;subst ea_));subst ec_;clear en_));have GB25:=Aside0.mk gb25;have GG25:=Aside0.mk HG25;clear gb25 gl25 HG25;replace hx10_0:=zv_ hx10_0;replace hx11_0:=zv_ hx11_0;obtain ⟨hx25_0,hf25_0⟩:=Kd.R_celln 0 HO_6.out ((ji21):Int) p25 q25;replace p25:=eq_true p25;replace q25:=eq_true q25;obtain ⟨hy59_,hz59_⟩:=Kd.R_celln 0 HO_6.out ((ji21):Int) (of_decide_eq_true zq_) (of_decide_eq_true zq_);have HP59:=Kd.R_putg HO_6.out ((ji21):Int) (wrap64 ((rd x6_1 (ji21)) - (wrap64 (Int.tdiv (rd x6_1 (ji21)) 2)))))|((with_reducible refine gate_store (t:=3) (p:=72) rfl ?_);(try (rw [drewN_self w57];generalize hq_:World.drewN w57 _=w57;have n0_:=am_ (Kd.R_at hq_ HO_5.out);have n1_:=am_ (Kd.R_at hq_ HO_6.out);have n2_:=am_ (blk_at hq_ BK8.out);have n3_:=am_ (below_at hq_ HB.out);clear hq_ HO_5 HO_6 BK8 HB;have HO_5:=n0_;have HO_6:=n1_;have BK8:=n2_;have HB:=n3_;clear n0_ n1_ n2_ n3_;(try (obtain ⟨hy59_,hz59_⟩:=Kd.R_celln 0 HO_6.out ((ji21):Int) (of_decide_eq_true zq_) (of_decide_eq_true zq_)));(try (have HP59:=Kd.R_putg HO_6.out ((ji21):Int) (wrap64 ((rd x6_1 (ji21)) - (wrap64 (Int.tdiv (rd x6_1 (ji21)) 2))))))));refine store_event (t:=3) (p:=72) (v:= ?vo_w60) (w1:=(w57.setCell ⟨go25,((ji21):Int).toNat,none⟩ (.int .i64 (wrap64 ((rd x6_1 (ji21)) - (wrap64 (Int.tdiv (rd x6_1 (ji21)) 2))))))) ?hg ?ho ?hn ?hr ?_;(case ho=>rfl);(case hg=>rfl);(case hn=>rfl);(case hr=>first|(go_simp;done)|(go_simp;rfl));intro w60 hw;have hg:w57.grownBy w60 (some go25):=(by rw [hw];exact HP59.2);have hp_:Kd.R (Kd.int .i64) 3 w60 w.heap.size (fun _=>True) (.slice (some ⟨go25,0,none⟩) x6_1.length co58) y12:=(by rw [hw,Ny12.out];exact HP59.1);clear HP59;replace HO_5:=am_ (Kd.R_over' (v:=(.slice (some ⟨go25,0,none⟩) x6_1.length co58)) (zr_ HO_5) (Kd.R_typed HO_6.out) (by decide) hg);replace BK8:=am_ (blk_grown (zb_ BK8) hg (Kd.R_ne HO_6.out BK8.out (by decide)));replace HO_6:=am_ (hp_);replace HB:=am_ ((by rw [hw];exact below_set (HB.out) GB25.out:Below w.heap.size w w60));clear hg hw hp_;have p28:0≤((ji51):Int):=of_decide_eq_true zq_;have q28:(ji51)<(l0.length:Int):=of_decide_eq_true zq_;obtain ⟨ad28,e28,hx28_0⟩:=Kd.at_int HR0.out (ji51) p28 q28;obtain rfl:ad4=ad28:=(by injection e28);replace hx28_0:=zx_ HB hx28_0;replace p28:=eq_true p28;replace q28:=eq_true q28;obtain ⟨hcz61_0,hcz61_1,hcz61_2,hcz61_3,hcz61_4⟩:=x5_ BK8;have hfz61_0:=blk_frozen BK8.out 0;have hfz61_1:=blk_frozen BK8.out 1;have hfz61_2:=blk_frozen BK8.out 2;have hfz61_3:=blk_frozen BK8.out 3;have hfz61_4:=blk_frozen BK8.out 4)|((with_reducible refine gate_builtin (b:= .append) (xs:=#[.tmp 102, .tmp 104]) rfl ?_);(try (refine gate_guard (by rfl) ?_;dsimp only));at_builtin;refine Kd.R_append k39 (w0:=w) w.heap.size rfl (.tmp 102) (.tmp 104) 22 39 (.agg #[(.string ⟨#[]⟩),(.string ⟨#[]⟩),(.int .i64 0),(.int .i64 0),(.int .i64 0)]) 56 rfl Try.underlying22 info39 rfl (by decide) (by omega) (.slice (some ad9) x5_1.length co12) x5_1 (⟨(strOfNums y5),(rd_T39 x5_1 (ji21)).f0,(⟨wrap64 (Int.tdiv (rd x6_1 (ji21)) 2),wrap64 (Int.tdiv (rd x6_1 (ji21)) 2),wrap64 ((wrap64 (Int.tdiv (rd x6_1 (ji21)) 2)) - (wrap64 ((wrap64 (Int.tdiv (wrap64 (Int.tdiv (rd x6_1 (ji21)) 2)) 3))*(wrap64 (Int.tmod (rd l0 (ji51)) 2)))))⟩:S37)⟩:S39) [.string (strOfNums y5), .string ((rd_T39 x5_1 (ji21)).f0), .int .i64 (wrap64 (Int.tdiv (rd x6_1 (ji21)) 2)), .int .i64 (wrap64 (Int.tdiv (rd x6_1 (ji21)) 2)), .int .i64 (wrap64 ((wrap64 (Int.tdiv (rd x6_1 (ji21)) 2)) - (wrap64 ((wrap64 (Int.tdiv (wrap64 (Int.tdiv (rd x6_1 (ji21)) 2)) 3))*(wrap64 (Int.tmod (rd l0 (ji51)) 2))))))] (fun k_=>k_≠gb8) (fun _=>False) rfl (by first|(go_simp;done)|(go_simp;rfl)) ?aP (fun _ hk=>hk.elim) ?aF ?aO ?aB ?aS ?aL ?_;(case aP=>exact k39_mkM _ _ _ (⟨(strOfNums y5),(rd_T39 x5_1 (ji21)).f0,(⟨wrap64 (Int.tdiv (rd x6_1 (ji21)) 2),wrap64 (Int.tdiv (rd x6_1 (ji21)) 2),wrap64 ((wrap64 (Int.tdiv (rd x6_1 (ji21)) 2)) - (wrap64 ((wrap64 (Int.tdiv (wrap64 (Int.tdiv (rd x6_1 (ji21)) 2)) 3))*(wrap64 (Int.tmod (rd l0 (ji51)) 2)))))⟩:S37)⟩:S39));(case aB=>exact (zl1_ HB GE8));(case aF=>exact (fun k_ hk=>Kd.freshB (g:=gb8) (o:= .cells #[.string (strOfNums y5), .string ((rd_T39 x5_1 (ji21)).f0), .int .i64 (wrap64 (Int.tdiv (rd x6_1 (ji21)) 2)), .int .i64 (wrap64 (Int.tdiv (rd x6_1 (ji21)) 2)), .int .i64 (wrap64 ((wrap64 (Int.tdiv (rd x6_1 (ji21)) 2)) - (wrap64 ((wrap64 (Int.tdiv (wrap64 (Int.tdiv (rd x6_1 (ji21)) 2)) 3))*(wrap64 (Int.tmod (rd l0 (ji51)) 2))))))] 39 (0,0)) (zw_ BK8) k_ hk));(case aO=>exact (by refine zt_ ?_;exact zu2_ gb8 HO_5));(case aS=>exact (below_size (zl1_ HB GE8)));(case aL=>have:=LMc54.out;omega);intro v30 w62 ho hb hg hat;rw [←Ny29.out] at ho;have n0_:=am_ (Kd.R_over' (by refine zt_ ?_;exact (zv2_ HO_6 BK8)) (Kd.R_typed (by refine zt_ ?_;exact (zu2_ gb8 HO_5))) (by decide) hg);have n1_:=am_ (blk_grown (g:=gb8) (o:= .cells #[.string (strOfNums y5), .string ((rd_T39 x5_1 (ji21)).f0), .int .i64 (wrap64 (Int.tdiv (rd x6_1 (ji21)) 2)), .int .i64 (wrap64 (Int.tdiv (rd x6_1 (ji21)) 2)), .int .i64 (wrap64 ((wrap64 (Int.tdiv (rd x6_1 (ji21)) 2)) - (wrap64 ((wrap64 (Int.tdiv (wrap64 (Int.tdiv (rd x6_1 (ji21)) 2)) 3))*(wrap64 (Int.tmod (rd l0 (ji51)) 2))))))] 39 (0,0)) (zw_ BK8) hg (Kd.R_away HO_5.out (fun _ hk=>hk)));have n2_:=am_ (hb);have n3_:=am_ (ho);clear HO_6;clear BK8;clear HB;clear HO_5;have HO_6:=n0_;have BK8:=n1_;have HB:=n2_;have HO31:=n3_;clear n0_ n1_ n2_ n3_;clear ho hb hg hat)|((with_reducible refine gate_builtin (b:= .append) (xs:=#[.tmp 106, .tmp 111]) rfl ?_);(try (refine gate_guard (by rfl) ?_;dsimp only));at_builtin;refine Kd.R_append (Kd.int .i64) (w0:=w) w.heap.size rfl (.tmp 106) (.tmp 111) 122 3 (.int .i64 0) 8 rfl Try.underlying122 info3 rfl (by decide) (by omega) (.slice (some ⟨go25,0,none⟩) x6_1.length co58) y12 (wrap64 ((wrap64 (Int.tdiv (rd x6_1 (ji21)) 2)) - (wrap64 (Int.tdiv (wrap64 (Int.tdiv (rd x6_1 (ji21)) 2)) 3)))) [.int .i64 (wrap64 ((wrap64 (Int.tdiv (rd x6_1 (ji21)) 2)) - (wrap64 (Int.tdiv (wrap64 (Int.tdiv (rd x6_1 (ji21)) 2)) 3))))] (fun _=>True) (fun _=>False) rfl rfl ?aP (fun _ hk=>hk.elim) ?aF ?aO ?aB ?aS ?aL ?_;(case aP=>exact rfl);(case aB=>exact (zl1_ HB GE8));(case aF=>exact (fun _ _=>trivial));(case aO=>exact (zr_ HO_6));(case aS=>exact (below_size (zl1_ HB GE8)));(case aL=>have:=LMc55.out;omega);intro v33 w63 ho hb hg hat;rw [←Ny32.out] at ho;have n0_:=am_ (blk_grown (zb_ BK8) hg (Kd.R_ne HO_6.out BK8.out (by decide)));have n1_:=am_ (Kd.R_over' (zr_ HO31) (Kd.R_typed (zr_ HO_6)) (by decide) hg);have n2_:=am_ (hb);have n3_:=am_ (ho);clear BK8;clear HO31;clear HB;clear HO_6;have BK8:=n0_;have HO31:=n1_;have HB:=n2_;have HO34:=n3_;clear n0_ n1_ n2_ n3_;clear ho hb hg hat))
        repeat (go_quiet (fail);try go_wp2_with fail)
        go_roundg kj10
        case measure=>have:=HK1.out;have:=HJ4.out;have:=HJ10.out;omega
        case rel=>exact ⟨(y29),(y32),(wrap64 (x7_1+2)),rf_,H',⟨by have:=HK1.out;have:=HJ4.out;have:=HJ10.out;omega⟩,⟨by (with_reducible repeat (first|apply Kd.R_alloc|apply Kd.R_drewN|apply Kd.R_drew));exact Kd.R_mono HO31.out (fun _ hk=>trivial)⟩,am_ (zr_ HO34),⟨zl1_ HB GE8⟩⟩
       subst c26;rw [if_pos rfl] at H;obtain ⟨ji27,hji27⟩: ∃j_:Int,(wrap64 (x7_1+1))=j_:=⟨_,rfl⟩
       replace H:(if 0≤(ji27) then (if (ji27)<(l0.length:Int) then (if (Int.tmod (rd l0 (ji27)) 16)=0 then (if x5_1.length<2513169434916 then (if y12.length<17592186044416 then (law11_Make.l0 kj10 l0 true (x5_1++ [(⟨(strOfNums y5),(rd_T39 x5_1 (ji21)).f0,(⟨wrap64 ((wrap64 ((wrap64 (Int.tdiv (rd x6_1 (ji21)) 2))*2))+1),wrap64 ((wrap64 ((wrap64 (Int.tdiv (rd x6_1 (ji21)) 2))*2))+1),wrap64 ((wrap64 ((wrap64 ((wrap64 (Int.tdiv (rd x6_1 (ji21)) 2))*2))+1)) - (wrap64 ((wrap64 (Int.tdiv (wrap64 ((wrap64 ((wrap64 (Int.tdiv (rd x6_1 (ji21)) 2))*2))+1)) 3))*(wrap64 (Int.tmod (rd l0 (ji27)) 2)))))⟩:S37)⟩:S39)]) (y12++ [wrap64 ((wrap64 ((wrap64 ((wrap64 (Int.tdiv (rd x6_1 (ji21)) 2))*2))+1)) - (wrap64 (Int.tdiv (wrap64 ((wrap64 ((wrap64 (Int.tdiv (rd x6_1 (ji21)) 2))*2))+1)) 3)))]) (wrap64 (x7_1+2))) else (none)) else (none)) else (if x5_1.length<2513169434916 then (if y12.length<17592186044416 then (law11_Make.l0 kj10 l0 true (x5_1++ [(⟨(strOfNums y5),(rd_T39 x5_1 (ji21)).f0,(⟨wrap64 (Int.tdiv (rd x6_1 (ji21)) 2),wrap64 (Int.tdiv (rd x6_1 (ji21)) 2),wrap64 ((wrap64 (Int.tdiv (rd x6_1 (ji21)) 2)) - (wrap64 ((wrap64 (Int.tdiv (wrap64 (Int.tdiv (rd x6_1 (ji21)) 2)) 3))*(wrap64 (Int.tmod (rd l0 (ji27)) 2)))))⟩:S37)⟩:S39)]) (y12++ [wrap64 ((wrap64 (Int.tdiv (rd x6_1 (ji21)) 2)) - (wrap64 (Int.tdiv (wrap64 (Int.tdiv (rd x6_1 (ji21)) 2)) 3)))]) (wrap64 (x7_1+2))) else (none)) else (none))) else (none)) else (none))=some r:=by first|(rw [hji27] at H;exact H)|(simp only [hji27] at H ⊢;exact H)
       have hji27w:(IntKind.i64.wrap (x7_1+1))=ji27:=(i64_w _).trans hji27;replace H:=zif_ H;obtain ⟨c28,H⟩:=H;have c28b0:=decide_eq_true c28;clear c28;replace H:=zif_ H;obtain ⟨c29,H⟩:=H;have c29b0:=decide_eq_true c29;clear c29;by_cases c30:(Int.tmod (rd l0 (ji27)) 16)=0
       ·rw [if_pos c30] at H;have c30b0:=beq_iff_eq.mpr c30;have c30b1:=bne_eq_false_iff_eq.mpr c30;clear c30;replace H:=zif_ H;obtain ⟨c31,H⟩:=H;have LMc31:=Aside0.mk c31;clear c31;obtain ⟨y15,hy15⟩: ∃y_:List (S39),y_=(x5_1++ [(⟨(strOfNums y5),(rd_T39 x5_1 (ji21)).f0,(⟨wrap64 ((wrap64 ((wrap64 (Int.tdiv (rd x6_1 (ji21)) 2))*2))+1),wrap64 ((wrap64 ((wrap64 (Int.tdiv (rd x6_1 (ji21)) 2))*2))+1),wrap64 ((wrap64 ((wrap64 ((wrap64 (Int.tdiv (rd x6_1 (ji21)) 2))*2))+1)) - (wrap64 ((wrap64 (Int.tdiv (wrap64 ((wrap64 ((wrap64 (Int.tdiv (rd x6_1 (ji21)) 2))*2))+1)) 3))*(wrap64 (Int.tmod (rd l0 (ji27)) 2)))))⟩:S37)⟩:S39)]):=⟨_,rfl⟩;(first|replace H:=zsb_ hy15 H|rw [←hy15] at H);have Ny15:=Aside0.mk hy15;clear hy15;replace H:=zif_ H;obtain ⟨c32,H⟩:=H;have LMc32:=Aside0.mk c32;clear c32;obtain ⟨y18,hy18⟩: ∃y_:List Int,y_=(y12++ [wrap64 ((wrap64 ((wrap64 ((wrap64 (Int.tdiv (rd x6_1 (ji21)) 2))*2))+1)) - (wrap64 (Int.tdiv (wrap64 ((wrap64 ((wrap64 (Int.tdiv (rd x6_1 (ji21)) 2))*2))+1)) 3)))]):=⟨_,rfl⟩;(first|replace H:=zsb_ hy18 H|rw [←hy18] at H);have Ny18:=Aside0.mk hy18;clear hy18;have H':=Aside0.mk H;clear H;obtain ⟨p9,q9,ad9,e9,hx9_0,hx9_1,hx9_2,hx9_3,hx9_4⟩:=zat_ (at_T39 (Kd.R_reads' HO_5.out).2.2 (ji21));cases e9;obtain ⟨hcz33_0,hcz33_1,hcz33_2,hcz33_3,hcz33_4,hfz33_0,hfz33_1,hfz33_2,hfz33_3,hfz33_4⟩:=y5_ BK8
        go_wp2_with (first|((with_reducible refine gate_store (t:=9) (p:=58) rfl ?_);(try (rw [drewN_self wc];generalize hq_:World.drewN wc _=wc;have n0_:=am_ (Kd.R_at hq_ HO_5.out);have n1_:=am_ (Kd.R_at hq_ HO_6.out);have n2_:=am_ (blk_at hq_ BK8.out);have n3_:=am_ (below_at hq_ HB.out);clear hq_ HO_5 HO_6 BK8 HB;have HO_5:=n0_;have HO_6:=n1_;have BK8:=n2_;have HB:=n3_;clear n0_ n1_ n2_ n3_));refine store_event (t:=9) (p:=58) (v:= ?vo_w34) (w1:=(wc.setCell ⟨gb8,1,none⟩ (.string ((rd_T39 x5_1 (ji21)).f0)))) ?hg ?ho ?hn ?hr ?_;(case ho=>rfl);(case hg=>rfl);(case hn=>rfl);(case hr=>first|(go_simp;done)|(go_simp;rfl));intro w34 hw;have n0_:Aside0 (Kd.R k39 39 w34 w.heap.size (fun k_=>k_≠gb8) (.slice (some ad9) x5_1.length co12) x5_1):=⟨(by rw [hw];exact (by refine zt_ ?_;exact zu2_ gb8 HO_5))⟩;have n1_:Aside0 (Kd.R (Kd.int .i64) 3 w34 w.heap.size (fun _=>True) u6 x6_1):=⟨(by rw [hw];exact (by refine zt_ ?_;exact zy_ HO_6 BK8))⟩;have n2_:Aside0 (w34.heap[gb8]?=some (.cells #[.string (strOfNums y5), .string ((rd_T39 x5_1 (ji21)).f0), .int .i64 4096, .int .i64 4096, .int .i64 4096] 39 (0,0))):=⟨(by rw [hw];exact (zw_ BK8))⟩;have n3_:Aside0 (Below w.heap.size w w34):=⟨(by rw [hw];exact (zl1_ HB GE8))⟩;clear hw;clear HO_5;clear HO_6;clear BK8;clear HB;have HO_5:=n0_;have HO_6:=n1_;have BK8:=n2_;have HB:=n3_;clear n0_ n1_ n2_ n3_;obtain ⟨Ao35,co35,eo35⟩:=Kd.R_slice HO_6.out;subst eo35;have p10:0≤((ji21):Int):=of_decide_eq_true zq_;have q10:(ji21)<(x6_1.length:Int):=of_decide_eq_true zq_;obtain ⟨ad10,e10,hx10_0⟩:=Kd.at_int (Kd.R_reads' HO_6.out).2.2 (ji21) p10 q10;cases e10;replace p10:=eq_true p10;replace q10:=eq_true q10;have p11:0≤((ji21):Int):=of_decide_eq_true zq_;have q11:(ji21)<(x6_1.length:Int):=of_decide_eq_true zq_;obtain ⟨ad11,e11,hx11_0⟩:=Kd.at_int (Kd.R_reads' HO_6.out).2.2 (ji21) p11 q11;obtain rfl:ad10=ad11:=(by injection e11);replace p11:=eq_true p11;replace q11:=eq_true q11;have p25:0≤((ji21):Int):=of_decide_eq_true zq_;have q25:((ji21):Int)<((x6_1.length:Int):Int):=of_decide_eq_true zq_;obtain ⟨go25,co25,eo25,gb25,gl25,cl25,HG25⟩:=Kd.R_form HO_6.out (by omega);(first|cases eo25|(injection eo25 with ea_ en_ ec_;(first|subst ea_|(injection ea_ with ea_;subst ea_));subst ec_;clear en_));have GB25:=Aside0.mk gb25;have GG25:=Aside0.mk HG25;clear gb25 gl25 HG25;replace hx10_0:=zv_ hx10_0;replace hx11_0:=zv_ hx11_0;obtain ⟨hx25_0,hf25_0⟩:=Kd.R_celln 0 HO_6.out ((ji21):Int) p25 q25;replace p25:=eq_true p25;replace q25:=eq_true q25;obtain ⟨hy36_,hz36_⟩:=Kd.R_celln 0 HO_6.out ((ji21):Int) (of_decide_eq_true zq_) (of_decide_eq_true zq_);have HP36:=Kd.R_putg HO_6.out ((ji21):Int) (wrap64 ((rd x6_1 (ji21)) - (wrap64 (Int.tdiv (rd x6_1 (ji21)) 2)))))|((with_reducible refine gate_store (t:=3) (p:=72) rfl ?_);(try (rw [drewN_self w34];generalize hq_:World.drewN w34 _=w34;have n0_:=am_ (Kd.R_at hq_ HO_5.out);have n1_:=am_ (Kd.R_at hq_ HO_6.out);have n2_:=am_ (blk_at hq_ BK8.out);have n3_:=am_ (below_at hq_ HB.out);clear hq_ HO_5 HO_6 BK8 HB;have HO_5:=n0_;have HO_6:=n1_;have BK8:=n2_;have HB:=n3_;clear n0_ n1_ n2_ n3_;(try (obtain ⟨hy36_,hz36_⟩:=Kd.R_celln 0 HO_6.out ((ji21):Int) (of_decide_eq_true zq_) (of_decide_eq_true zq_)));(try (have HP36:=Kd.R_putg HO_6.out ((ji21):Int) (wrap64 ((rd x6_1 (ji21)) - (wrap64 (Int.tdiv (rd x6_1 (ji21)) 2))))))));refine store_event (t:=3) (p:=72) (v:= ?vo_w37) (w1:=(w34.setCell ⟨go25,((ji21):Int).toNat,none⟩ (.int .i64 (wrap64 ((rd x6_1 (ji21)) - (wrap64 (Int.tdiv (rd x6_1 (ji21)) 2))))))) ?hg ?ho ?hn ?hr ?_;(case ho=>rfl);(case hg=>rfl);(case hn=>rfl);(case hr=>first|(go_simp;done)|(go_simp;rfl));intro w37 hw;have hg:w34.grownBy w37 (some go25):=(by rw [hw];exact HP36.2);have hp_:Kd.R (Kd.int .i64) 3 w37 w.heap.size (fun _=>True) (.slice (some ⟨go25,0,none⟩) x6_1.length co35) y12:=(by rw [hw,Ny12.out];exact HP36.1);clear HP36;replace HO_5:=am_ (Kd.R_over' (v:=(.slice (some ⟨go25,0,none⟩) x6_1.length co35)) (zr_ HO_5) (Kd.R_typed HO_6.out) (by decide) hg);replace BK8:=am_ (blk_grown (zb_ BK8) hg (Kd.R_ne HO_6.out BK8.out (by decide)));replace HO_6:=am_ (hp_);replace HB:=am_ ((by rw [hw];exact below_set (HB.out) GB25.out:Below w.heap.size w w37));clear hg hw hp_;have p13:0≤((ji27):Int):=of_decide_eq_true zq_;have q13:(ji27)<(l0.length:Int):=of_decide_eq_true zq_;obtain ⟨ad13,e13,hx13_0⟩:=Kd.at_int HR0.out (ji27) p13 q13;obtain rfl:ad4=ad13:=(by injection e13);replace hx13_0:=zx_ HB hx13_0;replace p13:=eq_true p13;replace q13:=eq_true q13;have p14:0≤((ji27):Int):=of_decide_eq_true zq_;have q14:(ji27)<(l0.length:Int):=of_decide_eq_true zq_;obtain ⟨ad14,e14,hx14_0⟩:=Kd.at_int HR0.out (ji27) p14 q14;obtain rfl:ad4=ad14:=(by injection e14);replace hx14_0:=zx_ HB hx14_0;replace p14:=eq_true p14;replace q14:=eq_true q14;obtain ⟨hcz38_0,hcz38_1,hcz38_2,hcz38_3,hcz38_4⟩:=x5_ BK8;have hfz38_0:=blk_frozen BK8.out 0;have hfz38_1:=blk_frozen BK8.out 1;have hfz38_2:=blk_frozen BK8.out 2;have hfz38_3:=blk_frozen BK8.out 3;have hfz38_4:=blk_frozen BK8.out 4)|((with_reducible refine gate_builtin (b:= .append) (xs:=#[.tmp 102, .tmp 104]) rfl ?_);(try (refine gate_guard (by rfl) ?_;dsimp only));at_builtin;refine Kd.R_append k39 (w0:=w) w.heap.size rfl (.tmp 102) (.tmp 104) 22 39 (.agg #[(.string ⟨#[]⟩),(.string ⟨#[]⟩),(.int .i64 0),(.int .i64 0),(.int .i64 0)]) 56 rfl Try.underlying22 info39 rfl (by decide) (by omega) (.slice (some ad9) x5_1.length co12) x5_1 (⟨(strOfNums y5),(rd_T39 x5_1 (ji21)).f0,(⟨wrap64 ((wrap64 ((wrap64 (Int.tdiv (rd x6_1 (ji21)) 2))*2))+1),wrap64 ((wrap64 ((wrap64 (Int.tdiv (rd x6_1 (ji21)) 2))*2))+1),wrap64 ((wrap64 ((wrap64 ((wrap64 (Int.tdiv (rd x6_1 (ji21)) 2))*2))+1)) - (wrap64 ((wrap64 (Int.tdiv (wrap64 ((wrap64 ((wrap64 (Int.tdiv (rd x6_1 (ji21)) 2))*2))+1)) 3))*(wrap64 (Int.tmod (rd l0 (ji27)) 2)))))⟩:S37)⟩:S39) [.string (strOfNums y5), .string ((rd_T39 x5_1 (ji21)).f0), .int .i64 (wrap64 ((wrap64 ((wrap64 (Int.tdiv (rd x6_1 (ji21)) 2))*2))+1)), .int .i64 (wrap64 ((wrap64 ((wrap64 (Int.tdiv (rd x6_1 (ji21)) 2))*2))+1)), .int .i64 (wrap64 ((wrap64 ((wrap64 ((wrap64 (Int.tdiv (rd x6_1 (ji21)) 2))*2))+1)) - (wrap64 ((wrap64 (Int.tdiv (wrap64 ((wrap64 ((wrap64 (Int.tdiv (rd x6_1 (ji21)) 2))*2))+1)) 3))*(wrap64 (Int.tmod (rd l0 (ji27)) 2))))))] (fun k_=>k_≠gb8) (fun _=>False) rfl (by first|(go_simp;done)|(go_simp;rfl)) ?aP (fun _ hk=>hk.elim) ?aF ?aO ?aB ?aS ?aL ?_;(case aP=>exact k39_mkM _ _ _ (⟨(strOfNums y5),(rd_T39 x5_1 (ji21)).f0,(⟨wrap64 ((wrap64 ((wrap64 (Int.tdiv (rd x6_1 (ji21)) 2))*2))+1),wrap64 ((wrap64 ((wrap64 (Int.tdiv (rd x6_1 (ji21)) 2))*2))+1),wrap64 ((wrap64 ((wrap64 ((wrap64 (Int.tdiv (rd x6_1 (ji21)) 2))*2))+1)) - (wrap64 ((wrap64 (Int.tdiv (wrap64 ((wrap64 ((wrap64 (Int.tdiv (rd x6_1 (ji21)) 2))*2))+1)) 3))*(wrap64 (Int.tmod (rd l0 (ji27)) 2)))))⟩:S37)⟩:S39));(case aB=>exact (zl1_ HB GE8));(case aF=>exact (fun k_ hk=>Kd.freshB (g:=gb8) (o:= .cells #[.string (strOfNums y5), .string ((rd_T39 x5_1 (ji21)).f0), .int .i64 (wrap64 ((wrap64 ((wrap64 (Int.tdiv (rd x6_1 (ji21)) 2))*2))+1)), .int .i64 (wrap64 ((wrap64 ((wrap64 (Int.tdiv (rd x6_1 (ji21)) 2))*2))+1)), .int .i64 (wrap64 ((wrap64 ((wrap64 ((wrap64 (Int.tdiv (rd x6_1 (ji21)) 2))*2))+1)) - (wrap64 ((wrap64 (Int.tdiv (wrap64 ((wrap64 ((wrap64 (Int.tdiv (rd x6_1 (ji21)) 2))*2))+1)) 3))*(wrap64 (Int.tmod (rd l0 (ji27)) 2))))))] 39 (0,0)) (zw_ BK8) k_ hk));(case aO=>exact (by refine zt_ ?_;exact zu2_ gb8 HO_5));(case aS=>exact (below_size (zl1_ HB GE8)));(case aL=>have:=LMc31.out;omega);intro v16 w39 ho hb hg hat;rw [←Ny15.out] at ho;have n0_:=am_ (Kd.R_over' (by refine zt_ ?_;exact (zv2_ HO_6 BK8)) (Kd.R_typed (by refine zt_ ?_;exact (zu2_ gb8 HO_5))) (by decide) hg);have n1_:=am_ (blk_grown (g:=gb8) (o:= .cells #[.string (strOfNums y5), .string ((rd_T39 x5_1 (ji21)).f0), .int .i64 (wrap64 ((wrap64 ((wrap64 (Int.tdiv (rd x6_1 (ji21)) 2))*2))+1)), .int .i64 (wrap64 ((wrap64 ((wrap64 (Int.tdiv (rd x6_1 (ji21)) 2))*2))+1)), .int .i64 (wrap64 ((wrap64 ((wrap64 ((wrap64 (Int.tdiv (rd x6_1 (ji21)) 2))*2))+1)) - (wrap64 ((wrap64 (Int.tdiv (wrap64 ((wrap64 ((wrap64 (Int.tdiv (rd x6_1 (ji21)) 2))*2))+1)) 3))*(wrap64 (Int.tmod (rd l0 (ji27)) 2))))))] 39 (0,0)) (zw_ BK8) hg (Kd.R_away HO_5.out (fun _ hk=>hk)));have n2_:=am_ (hb);have n3_:=am_ (ho);clear HO_6;clear BK8;clear HB;clear HO_5;have HO_6:=n0_;have BK8:=n1_;have HB:=n2_;have HO17:=n3_;clear n0_ n1_ n2_ n3_;clear ho hb hg hat)|((with_reducible refine gate_builtin (b:= .append) (xs:=#[.tmp 106, .tmp 111]) rfl ?_);(try (refine gate_guard (by rfl) ?_;dsimp only));at_builtin;refine Kd.R_append (Kd.int .i64) (w0:=w) w.heap.size rfl (.tmp 106) (.tmp 111) 122 3 (.int .i64 0) 8 rfl Try.underlying122 info3 rfl (by decide) (by omega) (.slice (some ⟨go25,0,none⟩) x6_1.length co35) y12 (wrap64 ((wrap64 ((wrap64 ((wrap64 (Int.tdiv (rd x6_1 (ji21)) 2))*2))+1)) - (wrap64 (Int.tdiv (wrap64 ((wrap64 ((wrap64 (Int.tdiv (rd x6_1 (ji21)) 2))*2))+1)) 3)))) [.int .i64 (wrap64 ((wrap64 ((wrap64 ((wrap64 (Int.tdiv (rd x6_1 (ji21)) 2))*2))+1)) - (wrap64 (Int.tdiv (wrap64 ((wrap64 ((wrap64 (Int.tdiv (rd x6_1 (ji21)) 2))*2))+1)) 3))))] (fun _=>True) (fun _=>False) rfl rfl ?aP (fun _ hk=>hk.elim) ?aF ?aO ?aB ?aS ?aL ?_;(case aP=>exact rfl);(case aB=>exact (zl1_ HB GE8));(case aF=>exact (fun _ _=>trivial));(case aO=>exact (zr_ HO_6));(case aS=>exact (below_size (zl1_ HB GE8)));(case aL=>have:=LMc32.out;omega);intro v19 w40 ho hb hg hat;rw [←Ny18.out] at ho;have n0_:=am_ (blk_grown (zb_ BK8) hg (Kd.R_ne HO_6.out BK8.out (by decide)));have n1_:=am_ (Kd.R_over' (zr_ HO17) (Kd.R_typed (zr_ HO_6)) (by decide) hg);have n2_:=am_ (hb);have n3_:=am_ (ho);clear BK8;clear HO17;clear HB;clear HO_6;have BK8:=n0_;have HO17:=n1_;have HB:=n2_;have HO20:=n3_;clear n0_ n1_ n2_ n3_;clear ho hb hg hat))
        repeat (go_quiet (fail);try go_wp2_with fail)
        go_roundg kj10
        case measure=>have:=HK1.out;have:=HJ4.out;have:=HJ10.out;omega
        case rel=>exact ⟨(y15),(y18),(wrap64 (x7_1+2)),rf_,H',⟨by have:=HK1.out;have:=HJ4.out;have:=HJ10.out;omega⟩,⟨by (with_reducible repeat (first|apply Kd.R_alloc|apply Kd.R_drewN|apply Kd.R_drew));exact Kd.R_mono HO17.out (fun _ hk=>trivial)⟩,am_ (zr_ HO20),⟨zl1_ HB GE8⟩⟩
       rw [if_neg c30] at H;have c30b0:=beq_eq_false_iff_ne.mpr c30;have c30b1:=bne_iff_ne.mpr c30;replace H:=zif_ H;obtain ⟨c41,H⟩:=H;have LMc41:=Aside0.mk c41;clear c41;obtain ⟨y22,hy22⟩: ∃y_:List (S39),y_=(x5_1++ [(⟨(strOfNums y5),(rd_T39 x5_1 (ji21)).f0,(⟨wrap64 (Int.tdiv (rd x6_1 (ji21)) 2),wrap64 (Int.tdiv (rd x6_1 (ji21)) 2),wrap64 ((wrap64 (Int.tdiv (rd x6_1 (ji21)) 2)) - (wrap64 ((wrap64 (Int.tdiv (wrap64 (Int.tdiv (rd x6_1 (ji21)) 2)) 3))*(wrap64 (Int.tmod (rd l0 (ji27)) 2)))))⟩:S37)⟩:S39)]):=⟨_,rfl⟩;(first|replace H:=zsb_ hy22 H|rw [←hy22] at H);have Ny22:=Aside0.mk hy22;clear hy22;replace H:=zif_ H;obtain ⟨c42,H⟩:=H;have LMc42:=Aside0.mk c42;clear c42;obtain ⟨y25,hy25⟩: ∃y_:List Int,y_=(y12++ [wrap64 ((wrap64 (Int.tdiv (rd x6_1 (ji21)) 2)) - (wrap64 (Int.tdiv (wrap64 (Int.tdiv (rd x6_1 (ji21)) 2)) 3)))]):=⟨_,rfl⟩;(first|replace H:=zsb_ hy25 H|rw [←hy25] at H);have Ny25:=Aside0.mk hy25;clear hy25;have H':=Aside0.mk H;clear H;obtain ⟨p9,q9,ad9,e9,hx9_0,hx9_1,hx9_2,hx9_3,hx9_4⟩:=zat_ (at_T39 (Kd.R_reads' HO_5.out).2.2 (ji21));cases e9;obtain ⟨hcz43_0,hcz43_1,hcz43_2,hcz43_3,hcz43_4,hfz43_0,hfz43_1,hfz43_2,hfz43_3,hfz43_4⟩:=y5_ BK8
       go_wp2_with (first|((with_reducible refine gate_store (t:=9) (p:=58) rfl ?_);(try (rw [drewN_self wc];generalize hq_:World.drewN wc _=wc;have n0_:=am_ (Kd.R_at hq_ HO_5.out);have n1_:=am_ (Kd.R_at hq_ HO_6.out);have n2_:=am_ (blk_at hq_ BK8.out);have n3_:=am_ (below_at hq_ HB.out);clear hq_ HO_5 HO_6 BK8 HB;have HO_5:=n0_;have HO_6:=n1_;have BK8:=n2_;have HB:=n3_;clear n0_ n1_ n2_ n3_));refine store_event (t:=9) (p:=58) (v:= ?vo_w44) (w1:=(wc.setCell ⟨gb8,1,none⟩ (.string ((rd_T39 x5_1 (ji21)).f0)))) ?hg ?ho ?hn ?hr ?_;(case ho=>rfl);(case hg=>rfl);(case hn=>rfl);(case hr=>first|(go_simp;done)|(go_simp;rfl));intro w44 hw;have n0_:Aside0 (Kd.R k39 39 w44 w.heap.size (fun k_=>k_≠gb8) (.slice (some ad9) x5_1.length co12) x5_1):=⟨(by rw [hw];exact (by refine zt_ ?_;exact zu2_ gb8 HO_5))⟩;have n1_:Aside0 (Kd.R (Kd.int .i64) 3 w44 w.heap.size (fun _=>True) u6 x6_1):=⟨(by rw [hw];exact (by refine zt_ ?_;exact zy_ HO_6 BK8))⟩;have n2_:Aside0 (w44.heap[gb8]?=some (.cells #[.string (strOfNums y5), .string ((rd_T39 x5_1 (ji21)).f0), .int .i64 4096, .int .i64 4096, .int .i64 4096] 39 (0,0))):=⟨(by rw [hw];exact (zw_ BK8))⟩;have n3_:Aside0 (Below w.heap.size w w44):=⟨(by rw [hw];exact (zl1_ HB GE8))⟩;clear hw;clear HO_5;clear HO_6;clear BK8;clear HB;have HO_5:=n0_;have HO_6:=n1_;have BK8:=n2_;have HB:=n3_;clear n0_ n1_ n2_ n3_;obtain ⟨Ao45,co45,eo45⟩:=Kd.R_slice HO_6.out;subst eo45;have p10:0≤((ji21):Int):=of_decide_eq_true zq_;have q10:(ji21)<(x6_1.length:Int):=of_decide_eq_true zq_;obtain ⟨ad10,e10,hx10_0⟩:=Kd.at_int (Kd.R_reads' HO_6.out).2.2 (ji21) p10 q10;cases e10;replace p10:=eq_true p10;replace q10:=eq_true q10;have p11:0≤((ji21):Int):=of_decide_eq_true zq_;have q11:(ji21)<(x6_1.length:Int):=of_decide_eq_true zq_;obtain ⟨ad11,e11,hx11_0⟩:=Kd.at_int (Kd.R_reads' HO_6.out).2.2 (ji21) p11 q11;obtain rfl:ad10=ad11:=(by injection e11);replace p11:=eq_true p11;replace q11:=eq_true q11;have p25:0≤((ji21):Int):=of_decide_eq_true zq_;have q25:((ji21):Int)<((x6_1.length:Int):Int):=of_decide_eq_true zq_;obtain ⟨go25,co25,eo25,gb25,gl25,cl25,HG25⟩:=Kd.R_form HO_6.out (by omega);(first|cases eo25|(injection eo25 with ea_ en_ ec_;(first|subst ea_|(injection ea_ with ea_;subst ea_));subst ec_;clear en_));have GB25:=Aside0.mk gb25;have GG25:=Aside0.mk HG25;clear gb25 gl25 HG25;replace hx10_0:=zv_ hx10_0;replace hx11_0:=zv_ hx11_0;obtain ⟨hx25_0,hf25_0⟩:=Kd.R_celln 0 HO_6.out ((ji21):Int) p25 q25;replace p25:=eq_true p25;replace q25:=eq_true q25;obtain ⟨hy46_,hz46_⟩:=Kd.R_celln 0 HO_6.out ((ji21):Int) (of_decide_eq_true zq_) (of_decide_eq_true zq_);have HP46:=Kd.R_putg HO_6.out ((ji21):Int) (wrap64 ((rd x6_1 (ji21)) - (wrap64 (Int.tdiv (rd x6_1 (ji21)) 2)))))|((with_reducible refine gate_store (t:=3) (p:=72) rfl ?_);(try (rw [drewN_self w44];generalize hq_:World.drewN w44 _=w44;have n0_:=am_ (Kd.R_at hq_ HO_5.out);have n1_:=am_ (Kd.R_at hq_ HO_6.out);have n2_:=am_ (blk_at hq_ BK8.out);have n3_:=am_ (below_at hq_ HB.out);clear hq_ HO_5 HO_6 BK8 HB;have HO_5:=n0_;have HO_6:=n1_;have BK8:=n2_;have HB:=n3_;clear n0_ n1_ n2_ n3_;(try (obtain ⟨hy46_,hz46_⟩:=Kd.R_celln 0 HO_6.out ((ji21):Int) (of_decide_eq_true zq_) (of_decide_eq_true zq_)));(try (have HP46:=Kd.R_putg HO_6.out ((ji21):Int) (wrap64 ((rd x6_1 (ji21)) - (wrap64 (Int.tdiv (rd x6_1 (ji21)) 2))))))));refine store_event (t:=3) (p:=72) (v:= ?vo_w47) (w1:=(w44.setCell ⟨go25,((ji21):Int).toNat,none⟩ (.int .i64 (wrap64 ((rd x6_1 (ji21)) - (wrap64 (Int.tdiv (rd x6_1 (ji21)) 2))))))) ?hg ?ho ?hn ?hr ?_;(case ho=>rfl);(case hg=>rfl);(case hn=>rfl);(case hr=>first|(go_simp;done)|(go_simp;rfl));intro w47 hw;have hg:w44.grownBy w47 (some go25):=(by rw [hw];exact HP46.2);have hp_:Kd.R (Kd.int .i64) 3 w47 w.heap.size (fun _=>True) (.slice (some ⟨go25,0,none⟩) x6_1.length co45) y12:=(by rw [hw,Ny12.out];exact HP46.1);clear HP46;replace HO_5:=am_ (Kd.R_over' (v:=(.slice (some ⟨go25,0,none⟩) x6_1.length co45)) (zr_ HO_5) (Kd.R_typed HO_6.out) (by decide) hg);replace BK8:=am_ (blk_grown (zb_ BK8) hg (Kd.R_ne HO_6.out BK8.out (by decide)));replace HO_6:=am_ (hp_);replace HB:=am_ ((by rw [hw];exact below_set (HB.out) GB25.out:Below w.heap.size w w47));clear hg hw hp_;have p13:0≤((ji27):Int):=of_decide_eq_true zq_;have q13:(ji27)<(l0.length:Int):=of_decide_eq_true zq_;obtain ⟨ad13,e13,hx13_0⟩:=Kd.at_int HR0.out (ji27) p13 q13;obtain rfl:ad4=ad13:=(by injection e13);replace hx13_0:=zx_ HB hx13_0;replace p13:=eq_true p13;replace q13:=eq_true q13;have p21:0≤((ji27):Int):=of_decide_eq_true zq_;have q21:(ji27)<(l0.length:Int):=of_decide_eq_true zq_;obtain ⟨ad21,e21,hx21_0⟩:=Kd.at_int HR0.out (ji27) p21 q21;obtain rfl:ad4=ad21:=(by injection e21);replace hx21_0:=zx_ HB hx21_0;replace p21:=eq_true p21;replace q21:=eq_true q21;obtain ⟨hcz48_0,hcz48_1,hcz48_2,hcz48_3,hcz48_4⟩:=x5_ BK8;have hfz48_0:=blk_frozen BK8.out 0;have hfz48_1:=blk_frozen BK8.out 1;have hfz48_2:=blk_frozen BK8.out 2;have hfz48_3:=blk_frozen BK8.out 3;have hfz48_4:=blk_frozen BK8.out 4)|((with_reducible refine gate_builtin (b:= .append) (xs:=#[.tmp 102, .tmp 104]) rfl ?_);(try (refine gate_guard (by rfl) ?_;dsimp only));at_builtin;refine Kd.R_append k39 (w0:=w) w.heap.size rfl (.tmp 102) (.tmp 104) 22 39 (.agg #[(.string ⟨#[]⟩),(.string ⟨#[]⟩),(.int .i64 0),(.int .i64 0),(.int .i64 0)]) 56 rfl Try.underlying22 info39 rfl (by decide) (by omega) (.slice (some ad9) x5_1.length co12) x5_1 (⟨(strOfNums y5),(rd_T39 x5_1 (ji21)).f0,(⟨wrap64 (Int.tdiv (rd x6_1 (ji21)) 2),wrap64 (Int.tdiv (rd x6_1 (ji21)) 2),wrap64 ((wrap64 (Int.tdiv (rd x6_1 (ji21)) 2)) - (wrap64 ((wrap64 (Int.tdiv (wrap64 (Int.tdiv (rd x6_1 (ji21)) 2)) 3))*(wrap64 (Int.tmod (rd l0 (ji27)) 2)))))⟩:S37)⟩:S39) [.string (strOfNums y5), .string ((rd_T39 x5_1 (ji21)).f0), .int .i64 (wrap64 (Int.tdiv (rd x6_1 (ji21)) 2)), .int .i64 (wrap64 (Int.tdiv (rd x6_1 (ji21)) 2)), .int .i64 (wrap64 ((wrap64 (Int.tdiv (rd x6_1 (ji21)) 2)) - (wrap64 ((wrap64 (Int.tdiv (wrap64 (Int.tdiv (rd x6_1 (ji21)) 2)) 3))*(wrap64 (Int.tmod (rd l0 (ji27)) 2))))))] (fun k_=>k_≠gb8) (fun _=>False) rfl (by first|(go_simp;done)|(go_simp;rfl)) ?aP (fun _ hk=>hk.elim) ?aF ?aO ?aB ?aS ?aL ?_;(case aP=>exact k39_mkM _ _ _ (⟨(strOfNums y5),(rd_T39 x5_1 (ji21)).f0,(⟨wrap64 (Int.tdiv (rd x6_1 (ji21)) 2),wrap64 (Int.tdiv (rd x6_1 (ji21)) 2),wrap64 ((wrap64 (Int.tdiv (rd x6_1 (ji21)) 2)) - (wrap64 ((wrap64 (Int.tdiv (wrap64 (Int.tdiv (rd x6_1 (ji21)) 2)) 3))*(wrap64 (Int.tmod (rd l0 (ji27)) 2)))))⟩:S37)⟩:S39));(case aB=>exact (zl1_ HB GE8));(case aF=>exact (fun k_ hk=>Kd.freshB (g:=gb8) (o:= .cells #[.string (strOfNums y5), .string ((rd_T39 x5_1 (ji21)).f0), .int .i64 (wrap64 (Int.tdiv (rd x6_1 (ji21)) 2)), .int .i64 (wrap64 (Int.tdiv (rd x6_1 (ji21)) 2)), .int .i64 (wrap64 ((wrap64 (Int.tdiv (rd x6_1 (ji21)) 2)) - (wrap64 ((wrap64 (Int.tdiv (wrap64 (Int.tdiv (rd x6_1 (ji21)) 2)) 3))*(wrap64 (Int.tmod (rd l0 (ji27)) 2))))))] 39 (0,0)) (zw_ BK8) k_ hk));(case aO=>exact (by refine zt_ ?_;exact zu2_ gb8 HO_5));(case aS=>exact (below_size (zl1_ HB GE8)));(case aL=>have:=LMc41.out;omega);intro v23 w49 ho hb hg hat;rw [←Ny22.out] at ho;have n0_:=am_ (Kd.R_over' (by refine zt_ ?_;exact (zv2_ HO_6 BK8)) (Kd.R_typed (by refine zt_ ?_;exact (zu2_ gb8 HO_5))) (by decide) hg);have n1_:=am_ (blk_grown (g:=gb8) (o:= .cells #[.string (strOfNums y5), .string ((rd_T39 x5_1 (ji21)).f0), .int .i64 (wrap64 (Int.tdiv (rd x6_1 (ji21)) 2)), .int .i64 (wrap64 (Int.tdiv (rd x6_1 (ji21)) 2)), .int .i64 (wrap64 ((wrap64 (Int.tdiv (rd x6_1 (ji21)) 2)) - (wrap64 ((wrap64 (Int.tdiv (wrap64 (Int.tdiv (rd x6_1 (ji21)) 2)) 3))*(wrap64 (Int.tmod (rd l0 (ji27)) 2))))))] 39 (0,0)) (zw_ BK8) hg (Kd.R_away HO_5.out (fun _ hk=>hk)));have n2_:=am_ (hb);have n3_:=am_ (ho);clear HO_6;clear BK8;clear HB;clear HO_5;have HO_6:=n0_;have BK8:=n1_;have HB:=n2_;have HO24:=n3_;clear n0_ n1_ n2_ n3_;clear ho hb hg hat)|((with_reducible refine gate_builtin (b:= .append) (xs:=#[.tmp 106, .tmp 111]) rfl ?_);(try (refine gate_guard (by rfl) ?_;dsimp only));at_builtin;refine Kd.R_append (Kd.int .i64) (w0:=w) w.heap.size rfl (.tmp 106) (.tmp 111) 122 3 (.int .i64 0) 8 rfl Try.underlying122 info3 rfl (by decide) (by omega) (.slice (some ⟨go25,0,none⟩) x6_1.length co45) y12 (wrap64 ((wrap64 (Int.tdiv (rd x6_1 (ji21)) 2)) - (wrap64 (Int.tdiv (wrap64 (Int.tdiv (rd x6_1 (ji21)) 2)) 3)))) [.int .i64 (wrap64 ((wrap64 (Int.tdiv (rd x6_1 (ji21)) 2)) - (wrap64 (Int.tdiv (wrap64 (Int.tdiv (rd x6_1 (ji21)) 2)) 3))))] (fun _=>True) (fun _=>False) rfl rfl ?aP (fun _ hk=>hk.elim) ?aF ?aO ?aB ?aS ?aL ?_;(case aP=>exact rfl);(case aB=>exact (zl1_ HB GE8));(case aF=>exact (fun _ _=>trivial));(case aO=>exact (zr_ HO_6));(case aS=>exact (below_size (zl1_ HB GE8)));(case aL=>have:=LMc42.out;omega);intro v26 w50 ho hb hg hat;rw [←Ny25.out] at ho;have n0_:=am_ (blk_grown (zb_ BK8) hg (Kd.R_ne HO_6.out BK8.out (by decide)));have n1_:=am_ (Kd.R_over' (zr_ HO24) (Kd.R_typed (zr_ HO_6)) (by decide) hg);have n2_:=am_ (hb);have n3_:=am_ (ho);clear BK8;clear HO24;clear HB;clear HO_6;have BK8:=n0_;have HO24:=n1_;have HB:=n2_;have HO27:=n3_;clear n0_ n1_ n2_ n3_;clear ho hb hg hat))
       repeat (go_quiet (fail);try go_wp2_with fail)
       go_roundg kj10
       case measure=>have:=HK1.out;have:=HJ4.out;have:=HJ10.out;omega
       case rel=>exact ⟨(y22),(y25),(wrap64 (x7_1+2)),rf_,H',⟨by have:=HK1.out;have:=HJ4.out;have:=HJ10.out;omega⟩,⟨by (with_reducible repeat (first|apply Kd.R_alloc|apply Kd.R_drewN|apply Kd.R_drew));exact Kd.R_mono HO24.out (fun _ hk=>trivial)⟩,am_ (zr_ HO27),⟨zl1_ HB GE8⟩⟩
attribute [local go_sem high] eqA76
noncomputable def law18_awake.f:Option (Bool):=(plan_Steps.f (([(⟨(⟨#[97]⟩:ByteArray),(⟨#[]⟩:ByteArray),(⟨0,0,0⟩:S37)⟩:S39)]:List (S39))) ([]:List (S84)) ([]:List (S79))).bind fun bt4=>((plan_Steps.f ([]:List (S39)) ([]:List (S84)) ([]:List (S79))).bind fun bt8=>((law1_Num.f bt4.2).bind fun t12=>(if t12=0 then (if (bt4.1.length:Int)=1 then (if 0<(bt4.1.length:Int) then (if (((rd_T76 bt4.1 0).f0)==1 && ((((rd_T76 bt4.1 0).f1).toList)==([97]:List UInt8) && ((((rd_T76 bt4.1 0).f2).toList)==([]:List UInt8) && ((((rd_T76 bt4.1 0).f3.f0)==0 && (((rd_T76 bt4.1 0).f3.f1)==0 && (((rd_T76 bt4.1 0).f3.f2)==0)))))))=true then ((law1_Num.f bt8.2).bind fun t14=>(if t14=0 then (some ((bt8.1.length:Int)==0)) else (some false))) else (some false)) else (none)) else (some false)) else (some false))))
set_option maxHeartbeats 8000000 in
set_option maxRecDepth 100000 in
theorem law18_awake.calls (r:Bool) (w:World) (h:law18_awake.f=some r):
  Calls Try.prog 47 #[] w fun e w'=>e= .returned (.bool r)∧Below w.heap.size w w':=by
 have hu39:=Try.underlying39;have hu76:=Try.underlying76;have HB:=am_ (Below.refl w.heap.size w);have H:((plan_Steps.f (([(⟨(⟨#[97]⟩:ByteArray),(⟨#[]⟩:ByteArray),(⟨0,0,0⟩:S37)⟩:S39)]:List (S39))) ([]:List (S84)) ([]:List (S79))).bind fun bt4=>((plan_Steps.f ([]:List (S39)) ([]:List (S84)) ([]:List (S79))).bind fun bt8=>((law1_Num.f bt4.2).bind fun t12=>(if t12=0 then (if (bt4.1.length:Int)=1 then (if 0<(bt4.1.length:Int) then (if (((rd_T76 bt4.1 0).f0)==1 && ((((rd_T76 bt4.1 0).f1).toList)==([97]:List UInt8) && ((((rd_T76 bt4.1 0).f2).toList)==([]:List UInt8) && ((((rd_T76 bt4.1 0).f3.f0)==0 && (((rd_T76 bt4.1 0).f3.f1)==0 && (((rd_T76 bt4.1 0).f3.f2)==0)))))))=true then ((law1_Num.f bt8.2).bind fun t14=>(if t14=0 then (some ((bt8.1.length:Int)==0)) else (some false))) else (some false)) else (none)) else (some false)) else (some false)))))=some r:=h;clear h;obtain ⟨y1,hy1⟩: ∃y_:List (S39),y_=(([(⟨(⟨#[97]⟩:ByteArray),(⟨#[]⟩:ByteArray),(⟨0,0,0⟩:S37)⟩:S39)]:List (S39))):=⟨_,rfl⟩;(first|replace H:=zsb_ hy1 H|rw [←hy1] at H);have Ny1:=Aside0.mk hy1;clear hy1;replace H:=zbd_ H;obtain ⟨⟨t4,t5⟩,A1,H⟩:=H;try dsimp only at H
 replace H:=zbd_ H;obtain ⟨⟨t8,t9⟩,A2,H⟩:=H;try dsimp only at H
 replace H:=zbd_ H;obtain ⟨t12,A3,H⟩:=H;try dsimp only at H
 by_cases c4:t12=0;rotate_left
 ·rw [if_neg c4] at H;have c4b0:=beq_eq_false_iff_ne.mpr c4;have c4b1:=bne_iff_ne.mpr c4;obtain rfl:=Option.some.inj H;go_enter Try.func47,Try.ntmps47
  go_wp2_with (first|((with_reducible refine gate_dst (N:=7) rfl ?_);(try (refine gate_guard (by rfl) ?_;dsimp only));refine Kd.R_lit k39 _ 39 ?hg (N:=7) ?hd (xs:=([(⟨(⟨#[97]⟩:ByteArray),(⟨#[]⟩:ByteArray),(⟨0,0,0⟩:S37)⟩:S39)]:List (S39))) (inner:=[.string (⟨#[97]⟩:ByteArray), .string (⟨#[]⟩:ByteArray), .int .i64 0, .int .i64 0, .int .i64 0]) (ok:=fun _=>True) (okp:=fun _=>True) ?hr ?hp (fun _ hk=>hk) trivial (Below.refl _ _) (Nat.le_refl _) (by simp) ?_;(case hd=>rfl);(case hg=>rfl);(case hr=>first|(go_simp;done)|(go_simp;rfl));(case hp=>exact (Reps.c5 (show Kd.M k39 _ _ _ (⟨(⟨#[97]⟩:ByteArray),(⟨#[]⟩:ByteArray),(⟨0,0,0⟩:S37)⟩:S39) [.string (⟨#[97]⟩:ByteArray), .string (⟨#[]⟩:ByteArray), .int .i64 0, .int .i64 0, .int .i64 0] from (k39_mkM _ _ _ (⟨(⟨#[97]⟩:ByteArray),(⟨#[]⟩:ByteArray),(⟨0,0,0⟩:S37)⟩:S39))) (Reps.none _ _)));intro v2 w35 ho36 hb hg_ hnew_;clear hg_ hnew_;(first|rw [←Ny1.out] at ho36|(simp only [Int.reduceToNat] at ho36;rw [←Ny1.out] at ho36));have HO3:=am_ (Kd.R_lower ho36 (below_size (zl0_ HB)));replace HB:=am_ (below_step (zl0_ HB) hb);clear hb ho36;obtain ⟨Ao37,co37,eo37⟩:=Kd.R_slice HO3.out;subst eo37)|((with_reducible refine gate_callee (f:=48) rfl ?_);refine gl_ (some 8) Try.func48 #[.slice Ao37 y1.length co37, .slice none 0 0, .slice none 0 0] ?_;(refine (plan_Steps.calls _ _ y1 _ _ ([]:List (S84)) _ _ ([]:List (S79)) t4 t5 _ ?side1 ?side2 ?side3 ?side4 ?side5 ?side6 A1.out).mono ?_);(case side1=>exact zc_ (Kd.R_reads' HO3.out).2.2);(case side2=>exact (Kd.R_reads' HO3.out).2.1);(case side3=>exact Kd.C_nil _ _);(case side4=>exact Nat.le_refl _);(case side5=>exact Kd.C_nil _ _);(case side6=>exact Nat.le_refl _);rintro e w38 ⟨v6,rfl,ho0,hb⟩;refine ⟨_,rfl, ?_⟩;replace HO3:=ob_ HO3 hb;have HO7:=am_ (Kd.R_lower ho0 (below_size (zl0_ HB)));replace HB:=am_ (below_step (zl0_ HB) hb);(try clear hb ho0))|((with_reducible refine gate_callee (f:=48) rfl ?_);refine gl_ (some 12) Try.func48 #[.slice none 0 0, .slice none 0 0, .slice none 0 0] ?_;(refine (plan_Steps.calls _ _ ([]:List (S39)) _ _ ([]:List (S84)) _ _ ([]:List (S79)) t8 t9 _ ?side1 ?side2 ?side3 ?side4 ?side5 ?side6 A2.out).mono ?_);(case side1=>exact Kd.C_nil _ _);(case side2=>exact Nat.le_refl _);(case side3=>exact Kd.C_nil _ _);(case side4=>exact Nat.le_refl _);(case side5=>exact Kd.C_nil _ _);(case side6=>exact Nat.le_refl _);rintro e w39 ⟨v10,rfl,ho0,hb⟩;refine ⟨_,rfl, ?_⟩;replace HO3:=ob_ HO3 hb;have HO11:=am_ (Kd.R_lower (Kd.R_new' ho0 (Kd.R_lt (zr_ HO7))) (below_size (zl0_ HB)));replace HO7:=am_ (Kd.R_elder' (zr_ HO7) (Kd.R_base ho0) hb);replace HB:=am_ (below_step (zl0_ HB) hb);(try clear hb ho0))|((with_reducible refine gate_callee (f:=25) rfl ?_);refine gl_ (some 16) Try.func25 #[.int .i64 t5] ?_;(with_reducible refine (law1_Num.calls t5 t12 _ A3.out).mono ?_);rintro e w' ⟨rfl,⟨nd,rfl⟩⟩;refine ⟨_,rfl, ?_⟩))
  go_ret
  exact ⟨by first|rfl|(simp [errW_none,errW_some]<;>rfl)|(simp [*,errW_none,errW_some]<;>rfl),zl0_ HB⟩

 rw [if_pos c4] at H;have c4b0:=beq_iff_eq.mpr c4;have c4b1:=bne_eq_false_iff_eq.mpr c4;clear c4;by_cases c5:(t4.length:Int)=1;rotate_left
 ·rw [if_neg c5] at H;have c5b0:=beq_eq_false_iff_ne.mpr c5;have c5b1:=bne_iff_ne.mpr c5;obtain rfl:=Option.some.inj H;go_enter Try.func47,Try.ntmps47
  go_wp2_with (first|((with_reducible refine gate_dst (N:=7) rfl ?_);(try (refine gate_guard (by rfl) ?_;dsimp only));refine Kd.R_lit k39 _ 39 ?hg (N:=7) ?hd (xs:=([(⟨(⟨#[97]⟩:ByteArray),(⟨#[]⟩:ByteArray),(⟨0,0,0⟩:S37)⟩:S39)]:List (S39))) (inner:=[.string (⟨#[97]⟩:ByteArray), .string (⟨#[]⟩:ByteArray), .int .i64 0, .int .i64 0, .int .i64 0]) (ok:=fun _=>True) (okp:=fun _=>True) ?hr ?hp (fun _ hk=>hk) trivial (Below.refl _ _) (Nat.le_refl _) (by simp) ?_;(case hd=>rfl);(case hg=>rfl);(case hr=>first|(go_simp;done)|(go_simp;rfl));(case hp=>exact (Reps.c5 (show Kd.M k39 _ _ _ (⟨(⟨#[97]⟩:ByteArray),(⟨#[]⟩:ByteArray),(⟨0,0,0⟩:S37)⟩:S39) [.string (⟨#[97]⟩:ByteArray), .string (⟨#[]⟩:ByteArray), .int .i64 0, .int .i64 0, .int .i64 0] from (k39_mkM _ _ _ (⟨(⟨#[97]⟩:ByteArray),(⟨#[]⟩:ByteArray),(⟨0,0,0⟩:S37)⟩:S39))) (Reps.none _ _)));intro v2 w29 ho30 hb hg_ hnew_;clear hg_ hnew_;(first|rw [←Ny1.out] at ho30|(simp only [Int.reduceToNat] at ho30;rw [←Ny1.out] at ho30));have HO3:=am_ (Kd.R_lower ho30 (below_size (zl0_ HB)));replace HB:=am_ (below_step (zl0_ HB) hb);clear hb ho30;obtain ⟨Ao31,co31,eo31⟩:=Kd.R_slice HO3.out;subst eo31)|((with_reducible refine gate_callee (f:=48) rfl ?_);refine gl_ (some 8) Try.func48 #[.slice Ao31 y1.length co31, .slice none 0 0, .slice none 0 0] ?_;(refine (plan_Steps.calls _ _ y1 _ _ ([]:List (S84)) _ _ ([]:List (S79)) t4 t5 _ ?side1 ?side2 ?side3 ?side4 ?side5 ?side6 A1.out).mono ?_);(case side1=>exact zc_ (Kd.R_reads' HO3.out).2.2);(case side2=>exact (Kd.R_reads' HO3.out).2.1);(case side3=>exact Kd.C_nil _ _);(case side4=>exact Nat.le_refl _);(case side5=>exact Kd.C_nil _ _);(case side6=>exact Nat.le_refl _);rintro e w32 ⟨v6,rfl,ho0,hb⟩;refine ⟨_,rfl, ?_⟩;replace HO3:=ob_ HO3 hb;have HO7:=am_ (Kd.R_lower ho0 (below_size (zl0_ HB)));replace HB:=am_ (below_step (zl0_ HB) hb);(try clear hb ho0))|((with_reducible refine gate_callee (f:=48) rfl ?_);refine gl_ (some 12) Try.func48 #[.slice none 0 0, .slice none 0 0, .slice none 0 0] ?_;(refine (plan_Steps.calls _ _ ([]:List (S39)) _ _ ([]:List (S84)) _ _ ([]:List (S79)) t8 t9 _ ?side1 ?side2 ?side3 ?side4 ?side5 ?side6 A2.out).mono ?_);(case side1=>exact Kd.C_nil _ _);(case side2=>exact Nat.le_refl _);(case side3=>exact Kd.C_nil _ _);(case side4=>exact Nat.le_refl _);(case side5=>exact Kd.C_nil _ _);(case side6=>exact Nat.le_refl _);rintro e w33 ⟨v10,rfl,ho0,hb⟩;refine ⟨_,rfl, ?_⟩;replace HO3:=ob_ HO3 hb;have HO11:=am_ (Kd.R_lower (Kd.R_new' ho0 (Kd.R_lt (zr_ HO7))) (below_size (zl0_ HB)));replace HO7:=am_ (Kd.R_elder' (zr_ HO7) (Kd.R_base ho0) hb);replace HB:=am_ (below_step (zl0_ HB) hb);(try clear hb ho0))|((with_reducible refine gate_callee (f:=25) rfl ?_);refine gl_ (some 16) Try.func25 #[.int .i64 t5] ?_;(with_reducible refine (law1_Num.calls t5 t12 _ A3.out).mono ?_);rintro e w' ⟨rfl,⟨nd,rfl⟩⟩;refine ⟨_,rfl, ?_⟩;obtain ⟨Ao34,co34,eo34⟩:=Kd.R_slice HO7.out;subst eo34))
  go_ret
  exact ⟨by first|rfl|(simp [errW_none,errW_some]<;>rfl)|(simp [*,errW_none,errW_some]<;>rfl),zl0_ HB⟩
 rw [if_pos c5] at H;have c5b0:=beq_iff_eq.mpr c5;have c5b1:=bne_eq_false_iff_eq.mpr c5;clear c5;replace H:=zif_ H;obtain ⟨c6,H⟩:=H;have c6b0:=decide_eq_true c6;have c6b1:decide (0<t4.length)=true:=decide_eq_true (by omega);clear c6;by_cases c7:(((rd_T76 t4 0).f0)==1 && ((((rd_T76 t4 0).f1).toList)==([97]:List UInt8) && ((((rd_T76 t4 0).f2).toList)==([]:List UInt8) && ((((rd_T76 t4 0).f3.f0)==0 && (((rd_T76 t4 0).f3.f1)==0 && (((rd_T76 t4 0).f3.f2)==0)))))))=true;rotate_left
 ·rw [if_neg c7] at H;have c7b0:(((rd_T76 t4 0).f0)==1 && ((((rd_T76 t4 0).f1).toList)==([97]:List UInt8) && ((((rd_T76 t4 0).f2).toList)==([]:List UInt8) && ((((rd_T76 t4 0).f3.f0)==0 && (((rd_T76 t4 0).f3.f1)==0 && (((rd_T76 t4 0).f3.f2)==0)))))))=false:=by simpa using c7
  have c7b9:(((rd_T76 t4 0).f0)==1 && ((((rd_T76 t4 0).f1).toList)==([97]:List UInt8) && ((((rd_T76 t4 0).f2).toList).isEmpty && ((((rd_T76 t4 0).f3.f0)==0 && (((rd_T76 t4 0).f3.f1)==0 && (((rd_T76 t4 0).f3.f2)==0)))))))=false:=by
    have e_: ∀l:List UInt8,l.isEmpty=(l==([]:List UInt8)):=fun l=>by cases l<;>rfl
    rw [e_];exact c7b0
  (try (have c7b1:decide (((rd_T76 t4 0).f0)=1 && ((((rd_T76 t4 0).f1).toList)==([97]:List UInt8) && ((((rd_T76 t4 0).f2).toList)==([]:List UInt8) && ((((rd_T76 t4 0).f3.f0)==0 && (((rd_T76 t4 0).f3.f1)==0 && (((rd_T76 t4 0).f3.f2)==0)))))))=false:=by simpa using c7));(try (have c7b2:(((rd_T76 t4 0).f0)==1 && ((((rd_T76 t4 0).f1).toList)==([97]:List UInt8) && ((((rd_T76 t4 0).f2).toList)==([]:List UInt8) && ((((rd_T76 t4 0).f3.f0)==0 && (((rd_T76 t4 0).f3.f1)==0 && (((rd_T76 t4 0).f3.f2)==0)))))))=false:=by simpa using c7));(try (have c7b3: ¬(((rd_T76 t4 0).f0)=1 && ((((rd_T76 t4 0).f1).toList)==([97]:List UInt8) && ((((rd_T76 t4 0).f2).toList)==([]:List UInt8) && ((((rd_T76 t4 0).f3.f0)==0 && (((rd_T76 t4 0).f3.f1)==0 && (((rd_T76 t4 0).f3.f2)==0))))))):=by simpa using c7));clear c7;obtain rfl:=Option.some.inj H;go_enter Try.func47,Try.ntmps47
  go_wp2_with (first|((with_reducible refine gate_dst (N:=7) rfl ?_);(try (refine gate_guard (by rfl) ?_;dsimp only));refine Kd.R_lit k39 _ 39 ?hg (N:=7) ?hd (xs:=([(⟨(⟨#[97]⟩:ByteArray),(⟨#[]⟩:ByteArray),(⟨0,0,0⟩:S37)⟩:S39)]:List (S39))) (inner:=[.string (⟨#[97]⟩:ByteArray), .string (⟨#[]⟩:ByteArray), .int .i64 0, .int .i64 0, .int .i64 0]) (ok:=fun _=>True) (okp:=fun _=>True) ?hr ?hp (fun _ hk=>hk) trivial (Below.refl _ _) (Nat.le_refl _) (by simp) ?_;(case hd=>rfl);(case hg=>rfl);(case hr=>first|(go_simp;done)|(go_simp;rfl));(case hp=>exact (Reps.c5 (show Kd.M k39 _ _ _ (⟨(⟨#[97]⟩:ByteArray),(⟨#[]⟩:ByteArray),(⟨0,0,0⟩:S37)⟩:S39) [.string (⟨#[97]⟩:ByteArray), .string (⟨#[]⟩:ByteArray), .int .i64 0, .int .i64 0, .int .i64 0] from (k39_mkM _ _ _ (⟨(⟨#[97]⟩:ByteArray),(⟨#[]⟩:ByteArray),(⟨0,0,0⟩:S37)⟩:S39))) (Reps.none _ _)));intro v2 w23 ho24 hb hg_ hnew_;clear hg_ hnew_;(first|rw [←Ny1.out] at ho24|(simp only [Int.reduceToNat] at ho24;rw [←Ny1.out] at ho24));have HO3:=am_ (Kd.R_lower ho24 (below_size (zl0_ HB)));replace HB:=am_ (below_step (zl0_ HB) hb);clear hb ho24;obtain ⟨Ao25,co25,eo25⟩:=Kd.R_slice HO3.out;subst eo25)|((with_reducible refine gate_callee (f:=48) rfl ?_);refine gl_ (some 8) Try.func48 #[.slice Ao25 y1.length co25, .slice none 0 0, .slice none 0 0] ?_;(refine (plan_Steps.calls _ _ y1 _ _ ([]:List (S84)) _ _ ([]:List (S79)) t4 t5 _ ?side1 ?side2 ?side3 ?side4 ?side5 ?side6 A1.out).mono ?_);(case side1=>exact zc_ (Kd.R_reads' HO3.out).2.2);(case side2=>exact (Kd.R_reads' HO3.out).2.1);(case side3=>exact Kd.C_nil _ _);(case side4=>exact Nat.le_refl _);(case side5=>exact Kd.C_nil _ _);(case side6=>exact Nat.le_refl _);rintro e w26 ⟨v6,rfl,ho0,hb⟩;refine ⟨_,rfl, ?_⟩;replace HO3:=ob_ HO3 hb;have HO7:=am_ (Kd.R_lower ho0 (below_size (zl0_ HB)));replace HB:=am_ (below_step (zl0_ HB) hb);(try clear hb ho0))|((with_reducible refine gate_callee (f:=48) rfl ?_);refine gl_ (some 12) Try.func48 #[.slice none 0 0, .slice none 0 0, .slice none 0 0] ?_;(refine (plan_Steps.calls _ _ ([]:List (S39)) _ _ ([]:List (S84)) _ _ ([]:List (S79)) t8 t9 _ ?side1 ?side2 ?side3 ?side4 ?side5 ?side6 A2.out).mono ?_);(case side1=>exact Kd.C_nil _ _);(case side2=>exact Nat.le_refl _);(case side3=>exact Kd.C_nil _ _);(case side4=>exact Nat.le_refl _);(case side5=>exact Kd.C_nil _ _);(case side6=>exact Nat.le_refl _);rintro e w27 ⟨v10,rfl,ho0,hb⟩;refine ⟨_,rfl, ?_⟩;replace HO3:=ob_ HO3 hb;have HO11:=am_ (Kd.R_lower (Kd.R_new' ho0 (Kd.R_lt (zr_ HO7))) (below_size (zl0_ HB)));replace HO7:=am_ (Kd.R_elder' (zr_ HO7) (Kd.R_base ho0) hb);replace HB:=am_ (below_step (zl0_ HB) hb);(try clear hb ho0))|((with_reducible refine gate_callee (f:=25) rfl ?_);refine gl_ (some 16) Try.func25 #[.int .i64 t5] ?_;(with_reducible refine (law1_Num.calls t5 t12 _ A3.out).mono ?_);rintro e w' ⟨rfl,⟨nd,rfl⟩⟩;refine ⟨_,rfl, ?_⟩;obtain ⟨Ao28,co28,eo28⟩:=Kd.R_slice HO7.out;subst eo28;have p13:0≤(0:Int):=(by omega);have q13:0<(t4.length:Int):=of_decide_eq_true zq_;obtain ⟨ad13,e13,hx13_0,hx13_1,hx13_2,hx13_3,hx13_4,hx13_5⟩:=at_T76 (Kd.R_reads' HO7.out).2.2 0 p13 q13;cases e13;have qi13:(0<t4.length)=True:=eq_true (by omega);(try rw [show ((0:Int)).toNat=0 from rfl] at hx13_0);(try rw [show 0*6=0 from rfl] at hx13_0);(try rw [Addr.add_zero'] at hx13_0);(try rw [show ((0:Int)).toNat=0 from rfl] at hx13_1);(try rw [show 0*6=0 from rfl] at hx13_1);(try rw [Addr.add_zero'] at hx13_1);(try rw [show ((0:Int)).toNat=0 from rfl] at hx13_2);(try rw [show 0*6=0 from rfl] at hx13_2);(try rw [Addr.add_zero'] at hx13_2);(try rw [show ((0:Int)).toNat=0 from rfl] at hx13_3);(try rw [show 0*6=0 from rfl] at hx13_3);(try rw [Addr.add_zero'] at hx13_3);(try rw [show ((0:Int)).toNat=0 from rfl] at hx13_4);(try rw [show 0*6=0 from rfl] at hx13_4);(try rw [Addr.add_zero'] at hx13_4);(try rw [show ((0:Int)).toNat=0 from rfl] at hx13_5);(try rw [show 0*6=0 from rfl] at hx13_5);(try rw [Addr.add_zero'] at hx13_5);replace p13:=eq_true p13;replace q13:=eq_true q13))
  go_ret
  exact ⟨by first|rfl|(simp [errW_none,errW_some]<;>rfl)|(simp [*,errW_none,errW_some]<;>rfl),zl0_ HB⟩
 rw [if_pos c7] at H;have c7b0:(((rd_T76 t4 0).f0)==1 && ((((rd_T76 t4 0).f1).toList)==([97]:List UInt8) && ((((rd_T76 t4 0).f2).toList)==([]:List UInt8) && ((((rd_T76 t4 0).f3.f0)==0 && (((rd_T76 t4 0).f3.f1)==0 && (((rd_T76 t4 0).f3.f2)==0)))))))=true:=c7
 have c7b9:(((rd_T76 t4 0).f0)==1 && ((((rd_T76 t4 0).f1).toList)==([97]:List UInt8) && ((((rd_T76 t4 0).f2).toList).isEmpty && ((((rd_T76 t4 0).f3.f0)==0 && (((rd_T76 t4 0).f3.f1)==0 && (((rd_T76 t4 0).f3.f2)==0)))))))=true:=by
   have e_: ∀l:List UInt8,l.isEmpty=(l==([]:List UInt8)):=fun l=>by cases l<;>rfl
   rw [e_];exact c7b0
 (try (have c7b1:decide (((rd_T76 t4 0).f0)=1 && ((((rd_T76 t4 0).f1).toList)==([97]:List UInt8) && ((((rd_T76 t4 0).f2).toList)==([]:List UInt8) && ((((rd_T76 t4 0).f3.f0)==0 && (((rd_T76 t4 0).f3.f1)==0 && (((rd_T76 t4 0).f3.f2)==0)))))))=true:=by simpa using c7));(try (have c7b2:(((rd_T76 t4 0).f0)==1 && ((((rd_T76 t4 0).f1).toList)==([97]:List UInt8) && ((((rd_T76 t4 0).f2).toList)==([]:List UInt8) && ((((rd_T76 t4 0).f3.f0)==0 && (((rd_T76 t4 0).f3.f1)==0 && (((rd_T76 t4 0).f3.f2)==0)))))))=true:=by simpa using c7));clear c7;replace H:=zbd_ H;obtain ⟨t14,A8,H⟩:=H;try dsimp only at H
 by_cases c9:t14=0
 ·rw [if_pos c9] at H;have c9b0:=beq_iff_eq.mpr c9;have c9b1:=bne_eq_false_iff_eq.mpr c9;clear c9;obtain rfl:=Option.some.inj H;go_enter Try.func47,Try.ntmps47
  go_wp2_with (first|((with_reducible refine gate_dst (N:=7) rfl ?_);(try (refine gate_guard (by rfl) ?_;dsimp only));refine Kd.R_lit k39 _ 39 ?hg (N:=7) ?hd (xs:=([(⟨(⟨#[97]⟩:ByteArray),(⟨#[]⟩:ByteArray),(⟨0,0,0⟩:S37)⟩:S39)]:List (S39))) (inner:=[.string (⟨#[97]⟩:ByteArray), .string (⟨#[]⟩:ByteArray), .int .i64 0, .int .i64 0, .int .i64 0]) (ok:=fun _=>True) (okp:=fun _=>True) ?hr ?hp (fun _ hk=>hk) trivial (Below.refl _ _) (Nat.le_refl _) (by simp) ?_;(case hd=>rfl);(case hg=>rfl);(case hr=>first|(go_simp;done)|(go_simp;rfl));(case hp=>exact (Reps.c5 (show Kd.M k39 _ _ _ (⟨(⟨#[97]⟩:ByteArray),(⟨#[]⟩:ByteArray),(⟨0,0,0⟩:S37)⟩:S39) [.string (⟨#[97]⟩:ByteArray), .string (⟨#[]⟩:ByteArray), .int .i64 0, .int .i64 0, .int .i64 0] from (k39_mkM _ _ _ (⟨(⟨#[97]⟩:ByteArray),(⟨#[]⟩:ByteArray),(⟨0,0,0⟩:S37)⟩:S39))) (Reps.none _ _)));intro v2 w10 ho11 hb hg_ hnew_;clear hg_ hnew_;(first|rw [←Ny1.out] at ho11|(simp only [Int.reduceToNat] at ho11;rw [←Ny1.out] at ho11));have HO3:=am_ (Kd.R_lower ho11 (below_size (zl0_ HB)));replace HB:=am_ (below_step (zl0_ HB) hb);clear hb ho11;obtain ⟨Ao12,co12,eo12⟩:=Kd.R_slice HO3.out;subst eo12)|((with_reducible refine gate_callee (f:=48) rfl ?_);refine gl_ (some 8) Try.func48 #[.slice Ao12 y1.length co12, .slice none 0 0, .slice none 0 0] ?_;(refine (plan_Steps.calls _ _ y1 _ _ ([]:List (S84)) _ _ ([]:List (S79)) t4 t5 _ ?side1 ?side2 ?side3 ?side4 ?side5 ?side6 A1.out).mono ?_);(case side1=>exact zc_ (Kd.R_reads' HO3.out).2.2);(case side2=>exact (Kd.R_reads' HO3.out).2.1);(case side3=>exact Kd.C_nil _ _);(case side4=>exact Nat.le_refl _);(case side5=>exact Kd.C_nil _ _);(case side6=>exact Nat.le_refl _);rintro e w13 ⟨v6,rfl,ho0,hb⟩;refine ⟨_,rfl, ?_⟩;replace HO3:=ob_ HO3 hb;have HO7:=am_ (Kd.R_lower ho0 (below_size (zl0_ HB)));replace HB:=am_ (below_step (zl0_ HB) hb);(try clear hb ho0))|((with_reducible refine gate_callee (f:=48) rfl ?_);refine gl_ (some 12) Try.func48 #[.slice none 0 0, .slice none 0 0, .slice none 0 0] ?_;(refine (plan_Steps.calls _ _ ([]:List (S39)) _ _ ([]:List (S84)) _ _ ([]:List (S79)) t8 t9 _ ?side1 ?side2 ?side3 ?side4 ?side5 ?side6 A2.out).mono ?_);(case side1=>exact Kd.C_nil _ _);(case side2=>exact Nat.le_refl _);(case side3=>exact Kd.C_nil _ _);(case side4=>exact Nat.le_refl _);(case side5=>exact Kd.C_nil _ _);(case side6=>exact Nat.le_refl _);rintro e w14 ⟨v10,rfl,ho0,hb⟩;refine ⟨_,rfl, ?_⟩;replace HO3:=ob_ HO3 hb;have HO11:=am_ (Kd.R_lower (Kd.R_new' ho0 (Kd.R_lt (zr_ HO7))) (below_size (zl0_ HB)));replace HO7:=am_ (Kd.R_elder' (zr_ HO7) (Kd.R_base ho0) hb);replace HB:=am_ (below_step (zl0_ HB) hb);(try clear hb ho0))|((with_reducible refine gate_callee (f:=25) rfl ?_);refine gl_ (some 16) Try.func25 #[.int .i64 t5] ?_;(with_reducible refine (law1_Num.calls t5 t12 _ A3.out).mono ?_);rintro e w' ⟨rfl,⟨nd,rfl⟩⟩;refine ⟨_,rfl, ?_⟩;obtain ⟨Ao15,co15,eo15⟩:=Kd.R_slice HO7.out;subst eo15;have p13:0≤(0:Int):=(by omega);have q13:0<(t4.length:Int):=of_decide_eq_true zq_;obtain ⟨ad13,e13,hx13_0,hx13_1,hx13_2,hx13_3,hx13_4,hx13_5⟩:=at_T76 (Kd.R_reads' HO7.out).2.2 0 p13 q13;cases e13;have qi13:(0<t4.length)=True:=eq_true (by omega);(try rw [show ((0:Int)).toNat=0 from rfl] at hx13_0);(try rw [show 0*6=0 from rfl] at hx13_0);(try rw [Addr.add_zero'] at hx13_0);(try rw [show ((0:Int)).toNat=0 from rfl] at hx13_1);(try rw [show 0*6=0 from rfl] at hx13_1);(try rw [Addr.add_zero'] at hx13_1);(try rw [show ((0:Int)).toNat=0 from rfl] at hx13_2);(try rw [show 0*6=0 from rfl] at hx13_2);(try rw [Addr.add_zero'] at hx13_2);(try rw [show ((0:Int)).toNat=0 from rfl] at hx13_3);(try rw [show 0*6=0 from rfl] at hx13_3);(try rw [Addr.add_zero'] at hx13_3);(try rw [show ((0:Int)).toNat=0 from rfl] at hx13_4);(try rw [show 0*6=0 from rfl] at hx13_4);(try rw [Addr.add_zero'] at hx13_4);(try rw [show ((0:Int)).toNat=0 from rfl] at hx13_5);(try rw [show 0*6=0 from rfl] at hx13_5);(try rw [Addr.add_zero'] at hx13_5);replace p13:=eq_true p13;replace q13:=eq_true q13)|(go_at_call 25;(with_reducible refine (law1_Num.calls t9 t14 _ A8.out).mono ?_);rintro e w' ⟨rfl,⟨nd,rfl⟩⟩;obtain ⟨Ao16,co16,eo16⟩:=Kd.R_slice HO11.out;subst eo16))
  go_ret
  exact ⟨by first|rfl|(simp [errW_none,errW_some]<;>rfl)|(simp [*,errW_none,errW_some]<;>rfl),zl0_ HB⟩
 rw [if_neg c9] at H;have c9b0:=beq_eq_false_iff_ne.mpr c9;have c9b1:=bne_iff_ne.mpr c9;obtain rfl:=Option.some.inj H;go_enter Try.func47,Try.ntmps47
 go_wp2_with (first|((with_reducible refine gate_dst (N:=7) rfl ?_);(try (refine gate_guard (by rfl) ?_;dsimp only));refine Kd.R_lit k39 _ 39 ?hg (N:=7) ?hd (xs:=([(⟨(⟨#[97]⟩:ByteArray),(⟨#[]⟩:ByteArray),(⟨0,0,0⟩:S37)⟩:S39)]:List (S39))) (inner:=[.string (⟨#[97]⟩:ByteArray), .string (⟨#[]⟩:ByteArray), .int .i64 0, .int .i64 0, .int .i64 0]) (ok:=fun _=>True) (okp:=fun _=>True) ?hr ?hp (fun _ hk=>hk) trivial (Below.refl _ _) (Nat.le_refl _) (by simp) ?_;(case hd=>rfl);(case hg=>rfl);(case hr=>first|(go_simp;done)|(go_simp;rfl));(case hp=>exact (Reps.c5 (show Kd.M k39 _ _ _ (⟨(⟨#[97]⟩:ByteArray),(⟨#[]⟩:ByteArray),(⟨0,0,0⟩:S37)⟩:S39) [.string (⟨#[97]⟩:ByteArray), .string (⟨#[]⟩:ByteArray), .int .i64 0, .int .i64 0, .int .i64 0] from (k39_mkM _ _ _ (⟨(⟨#[97]⟩:ByteArray),(⟨#[]⟩:ByteArray),(⟨0,0,0⟩:S37)⟩:S39))) (Reps.none _ _)));intro v2 w17 ho18 hb hg_ hnew_;clear hg_ hnew_;(first|rw [←Ny1.out] at ho18|(simp only [Int.reduceToNat] at ho18;rw [←Ny1.out] at ho18));have HO3:=am_ (Kd.R_lower ho18 (below_size (zl0_ HB)));replace HB:=am_ (below_step (zl0_ HB) hb);clear hb ho18;obtain ⟨Ao19,co19,eo19⟩:=Kd.R_slice HO3.out;subst eo19)|((with_reducible refine gate_callee (f:=48) rfl ?_);refine gl_ (some 8) Try.func48 #[.slice Ao19 y1.length co19, .slice none 0 0, .slice none 0 0] ?_;(refine (plan_Steps.calls _ _ y1 _ _ ([]:List (S84)) _ _ ([]:List (S79)) t4 t5 _ ?side1 ?side2 ?side3 ?side4 ?side5 ?side6 A1.out).mono ?_);(case side1=>exact zc_ (Kd.R_reads' HO3.out).2.2);(case side2=>exact (Kd.R_reads' HO3.out).2.1);(case side3=>exact Kd.C_nil _ _);(case side4=>exact Nat.le_refl _);(case side5=>exact Kd.C_nil _ _);(case side6=>exact Nat.le_refl _);rintro e w20 ⟨v6,rfl,ho0,hb⟩;refine ⟨_,rfl, ?_⟩;replace HO3:=ob_ HO3 hb;have HO7:=am_ (Kd.R_lower ho0 (below_size (zl0_ HB)));replace HB:=am_ (below_step (zl0_ HB) hb);(try clear hb ho0))|((with_reducible refine gate_callee (f:=48) rfl ?_);refine gl_ (some 12) Try.func48 #[.slice none 0 0, .slice none 0 0, .slice none 0 0] ?_;(refine (plan_Steps.calls _ _ ([]:List (S39)) _ _ ([]:List (S84)) _ _ ([]:List (S79)) t8 t9 _ ?side1 ?side2 ?side3 ?side4 ?side5 ?side6 A2.out).mono ?_);(case side1=>exact Kd.C_nil _ _);(case side2=>exact Nat.le_refl _);(case side3=>exact Kd.C_nil _ _);(case side4=>exact Nat.le_refl _);(case side5=>exact Kd.C_nil _ _);(case side6=>exact Nat.le_refl _);rintro e w21 ⟨v10,rfl,ho0,hb⟩;refine ⟨_,rfl, ?_⟩;replace HO3:=ob_ HO3 hb;have HO11:=am_ (Kd.R_lower (Kd.R_new' ho0 (Kd.R_lt (zr_ HO7))) (below_size (zl0_ HB)));replace HO7:=am_ (Kd.R_elder' (zr_ HO7) (Kd.R_base ho0) hb);replace HB:=am_ (below_step (zl0_ HB) hb);(try clear hb ho0))|((with_reducible refine gate_callee (f:=25) rfl ?_);refine gl_ (some 16) Try.func25 #[.int .i64 t5] ?_;(with_reducible refine (law1_Num.calls t5 t12 _ A3.out).mono ?_);rintro e w' ⟨rfl,⟨nd,rfl⟩⟩;refine ⟨_,rfl, ?_⟩;obtain ⟨Ao22,co22,eo22⟩:=Kd.R_slice HO7.out;subst eo22;have p13:0≤(0:Int):=(by omega);have q13:0<(t4.length:Int):=of_decide_eq_true zq_;obtain ⟨ad13,e13,hx13_0,hx13_1,hx13_2,hx13_3,hx13_4,hx13_5⟩:=at_T76 (Kd.R_reads' HO7.out).2.2 0 p13 q13;cases e13;have qi13:(0<t4.length)=True:=eq_true (by omega);(try rw [show ((0:Int)).toNat=0 from rfl] at hx13_0);(try rw [show 0*6=0 from rfl] at hx13_0);(try rw [Addr.add_zero'] at hx13_0);(try rw [show ((0:Int)).toNat=0 from rfl] at hx13_1);(try rw [show 0*6=0 from rfl] at hx13_1);(try rw [Addr.add_zero'] at hx13_1);(try rw [show ((0:Int)).toNat=0 from rfl] at hx13_2);(try rw [show 0*6=0 from rfl] at hx13_2);(try rw [Addr.add_zero'] at hx13_2);(try rw [show ((0:Int)).toNat=0 from rfl] at hx13_3);(try rw [show 0*6=0 from rfl] at hx13_3);(try rw [Addr.add_zero'] at hx13_3);(try rw [show ((0:Int)).toNat=0 from rfl] at hx13_4);(try rw [show 0*6=0 from rfl] at hx13_4);(try rw [Addr.add_zero'] at hx13_4);(try rw [show ((0:Int)).toNat=0 from rfl] at hx13_5);(try rw [show 0*6=0 from rfl] at hx13_5);(try rw [Addr.add_zero'] at hx13_5);replace p13:=eq_true p13;replace q13:=eq_true q13)|(go_at_call 25;(with_reducible refine (law1_Num.calls t9 t14 _ A8.out).mono ?_);rintro e w' ⟨rfl,⟨nd,rfl⟩⟩))
 go_ret
 exact ⟨by first|rfl|(simp [errW_none,errW_some]<;>rfl)|(simp [*,errW_none,errW_some]<;>rfl),zl0_ HB⟩
def law18_Live.l0:Nat→Int→List (S79)→List (S84)→Int→Option ((List (S84))×(List (S79)))
 |0,_,_,_,_=>none
 |k+1,x1,x6,x7,x8=>if x8<(x6.length:Int) then (if (Int.tmod (wrap64 (x8+(wrap64 (x1)))) 4)>0 then (if 0≤x8 then (if x7.length<2199023255552 then (law18_Live.l0 k x1 x6 (x7++ [(⟨(rd_T79 x6 x8).f0,(rd_T79 x6 x8).f1,(⟨(rd_T79 x6 x8).f2.f0,(rd_T79 x6 x8).f2.f1,(rd_T79 x6 x8).f2.f2⟩:S37),(rd_T79 x6 x8).f5⟩:S84)]) (wrap64 (x8+1))) else (none)) else (none)) else (law18_Live.l0 k x1 x6 x7 (wrap64 (x8+1)))) else (if (Int.tmod x1 5)=0 then (if x7.length<2199023255552 then (some ((x7++ [(⟨(⟨#[122,122]⟩:ByteArray),(⟨#[]⟩:ByteArray),(⟨0,0,0⟩:S37),1⟩:S84)]),x6)) else (none)) else (some (x7,x6)))
def law18_Live.f (k:Nat) (l0:List Int) (a1:Int):Option ((List (S84))×(List (S79))):=(law12_Make.f k l0).bind fun t1=>(law18_Live.l0 k a1 t1 ([]:List (S84)) 0)
theorem law18_Live.mono_l: ∀k,(∀y0 y1 y2 y3,LeO (law18_Live.l0 k y0 y1 y2 y3) (law18_Live.l0 (k+1) y0 y1 y2 y3))
 |0=>fun _ _ _ _ r h=>by simp [law18_Live.l0] at h
 |k+1=>by
  have ih0:=law18_Live.mono_l k;intro y0 y1 y2 y3;unfold law18_Live.l0
  repeat' with_reducible first|apply ih0|apply law12_Make.mono|apply LeO.refl|apply LeO.none|apply LeO.ite|refine LeO.bind ?_ fun _=> ?_
theorem law18_Live.mono: ∀a0 a1 k,LeO (law18_Live.f k a0 a1) (law18_Live.f (k+1) a0 a1):=by
 intro a0 a1 k;have ih0:=law18_Live.mono_l k;unfold law18_Live.f
 repeat' with_reducible first|apply ih0|apply law12_Make.mono|apply LeO.refl|apply LeO.none|apply LeO.ite|refine LeO.bind ?_ fun _=> ?_
def law18_Live.T7:Bool×List (List Nat×List Nat):=(true,[([],[]),([],[]),([],[]),([1,2],[1,2]),([3],[3]),([4],[4]),([],[]),([],[]),([6,7],[6,7]),([8],[8]),([9],[9]),([],[]),([],[]),([11,12],[11,12]),([13],[13]),([14],[14]),([],[]),([],[]),([16,17],[16,17]),([18],[18]),([19],[19]),([5,10,15,20],[5,10,15,20]),([21],[21]),([0,22],[0,22]),([23,23,0,1,2,3,4,5,6,7,8,9,10,11,12,13,14,15,16,17,18,19,20,21,22,23],[0,23])])
def law18_Live.B7:List Nat:=[0,0,0,6,14,30,0,0,192,448,960,0,0,6144,14336,30720,0,0,196608,458752,983040,2097150,4194302,8388607,16777215]
theorem law18_Live.tab7:rtab .any (opsOf Try.f50 7)=law18_Live.T7:=by kernel_rfl
theorem law18_Live.bits7:waitsOk law18_Live.T7.2 law18_Live.B7=true:=by kernel_rfl
set_option maxHeartbeats 8000000 in
set_option maxRecDepth 100000 in
theorem law18_Live.calls (k:Nat) (A0:Option Addr) (c0:Nat) (l0:List Int) (a1:Int) (r1:List (S84)) (r2:List (S79)) (w:World) (hr0:Kd.C (Kd.int .u8) w A0 l0.length l0) (hc0:l0.length≤c0) (h:law18_Live.f k l0 a1=some (r1,r2)):
  Calls Try.prog 50 #[.slice A0 l0.length c0, .int .u8 a1] w fun e w'=> ∃v0_ v1_:Value,e= .returned (.tuple #[v0_,v1_])∧Kd.R k84 84 w' w.heap.size (fun _=>True) v0_ r1∧Kd.R k79 79 w' w.heap.size (fun _=>True) v1_ r2∧Below w.heap.size w w':=by
 have hu37:=Try.underlying37;have hu84:=Try.underlying84;have HR0:=Aside0.mk hr0;have HC0:=Aside0.mk hc0;clear hr0 hc0;have HB:=am_ (Below.refl w.heap.size w);have H:((law12_Make.f k l0).bind fun t1=>(law18_Live.l0 k a1 t1 ([]:List (S84)) 0))=some (r1,r2):=h;clear h;replace H:=zbd_ H;obtain ⟨t1,A3,H⟩:=H;try dsimp only at H
 have H':=Aside0.mk H;clear H;go_enter Try.func50,Try.ntmps50;go_wp2_with (first|((with_reducible refine gate_callee (f:=38) rfl ?_);refine gl_ (some 10) Try.func38 #[.slice A0 l0.length c0] ?_;(with_reducible refine (law12_Make.calls k _ _ l0 t1 _ ?side1 ?side2 A3.out).mono ?_);(case side1=>repeat (first|exact HR0.out|(with_reducible refine Kd.C_alloc ?_ _)|(with_reducible refine Kd.C_drewN ?_ _)|(with_reducible refine Kd.C_drew ?_)));(case side2=>exact HC0.out);rintro e w4 ⟨v2,rfl,ho0,hb⟩;refine ⟨_,rfl, ?_⟩;have HO3:=am_ (Kd.R_lower ho0 (below_size (zl0_ HB)));replace HB:=am_ (below_step (zl0_ HB) hb);(try clear hb ho0)))
 go_loopg [7,8] k (fun kq v7 v8 w'=> ∃(x7_1:List (S84)) (x8_1:Int),v8= .int .i64 x8_1∧Aside0 (law18_Live.l0 kq a1 t1 x7_1 x8_1=some (r1,r2))∧Aside0 (kq≤k)∧Aside0 (Kd.R k79 79 w' w.heap.size (fun _=>True) v2 t1)∧Aside0 (Kd.R k84 84 w' w.heap.size (fun _=>True) v7 x7_1)∧Aside0 (Below w.heap.size w w'))
 case atStart=>exact ⟨(([]:List (S84))),(0),rf_,H',⟨Nat.le_refl _⟩,am_ (zr_ HO3),⟨by first|exact Kd.R_nil _ _ _ _ _|exact Kd.N_nil _ _ _ _ _|exact Kd.V_nil _ _ _ _ _|exact Kd.Q_nil _ _ _ _ _|exact Kd.S_nil _ _ _ _ _⟩,⟨zl0_ HB⟩⟩
 case round=>
  clear H';obtain ⟨x7_1,x8_1,rfl,HA,HK1,HO_6,HO_7,HB⟩:=hrel
  cases gk with
  |zero=>exact absurd HA.out (by simp [law18_Live.l0])
  |succ k1=>
   have H:=HA.out;clear HA;simp only [law18_Live.l0] at H;by_cases c5:x8_1<(t1.length:Int);rotate_left
   ·rw [if_neg c5] at H;have c5b0:=decide_eq_false c5;clear c5;by_cases c13:(Int.tmod a1 5)=0;rotate_left
    ·rw [if_neg c13] at H;have c13b0:=beq_eq_false_iff_ne.mpr c13;have c13b1:=bne_iff_ne.mpr c13;simp only [Option.some.injEq,Prod.mk.injEq] at H;obtain ⟨rfl,rfl⟩:=H;obtain ⟨Ao17,co17,eo17⟩:=Kd.R_slice HO_6.out;subst eo17;go_wp2
     go_ret2
     exact ⟨_,_,by first|rfl|(simp [errW_none,errW_some]<;>rfl)|(simp [*,errW_none,errW_some]<;>rfl),zr_ HO_7,zr_ HO_6,zl0_ HB⟩

    rw [if_pos c13] at H;have c13b0:=beq_iff_eq.mpr c13;have c13b1:=bne_eq_false_iff_eq.mpr c13;clear c13;replace H:=zif_ H;obtain ⟨c14,H⟩:=H;have LMc14:=Aside0.mk c14;clear c14;obtain ⟨y11,hy11⟩: ∃y_:List (S84),y_=(x7_1++ [(⟨(⟨#[122,122]⟩:ByteArray),(⟨#[]⟩:ByteArray),(⟨0,0,0⟩:S37),1⟩:S84)]):=⟨_,rfl⟩;(first|replace H:=zsb_ hy11 H|rw [←hy11] at H);have Ny11:=Aside0.mk hy11;clear hy11;simp only [Option.some.injEq,Prod.mk.injEq] at H;obtain ⟨rfl,rfl⟩:=H;obtain ⟨Ao15,co15,eo15⟩:=Kd.R_slice HO_6.out;subst eo15
    go_wp2_with (first|((with_reducible refine gate_builtin (b:= .append) (xs:=#[.tmp 50, .tmp 52]) rfl ?_);at_builtin;refine Kd.R_append k84 (w0:=w) w.heap.size rfl (.tmp 50) (.tmp 52) 53 84 (.agg #[(.string ⟨#[]⟩),(.string ⟨#[]⟩),(.int .i64 0),(.int .i64 0),(.int .i64 0),(.int .i64 0)]) 64 rfl Try.underlying53 info84 rfl (by decide) (by omega) u7 x7_1 (⟨(⟨#[122,122]⟩:ByteArray),(⟨#[]⟩:ByteArray),(⟨0,0,0⟩:S37),1⟩:S84) [.string (⟨#[122,122]⟩:ByteArray), .string (⟨#[]⟩:ByteArray), .int .i64 0, .int .i64 0, .int .i64 0, .int .i64 1] (fun _=>True) (fun _=>False) rfl rfl ?aP (fun _ hk=>hk.elim) ?aF ?aO ?aB ?aS ?aL ?_;(case aP=>exact k84_mkM _ _ _ (⟨(⟨#[122,122]⟩:ByteArray),(⟨#[]⟩:ByteArray),(⟨0,0,0⟩:S37),1⟩:S84));(case aB=>exact (zl0_ HB));(case aF=>exact (fun _ _=>trivial));(case aO=>exact (zr_ HO_7));(case aS=>exact (below_size (zl0_ HB)));(case aL=>have:=LMc14.out;omega);intro v12 w16 ho hb hg hat;rw [←Ny11.out] at ho;have n0_:=am_ (Kd.R_over' (zr_ HO_6) (Kd.R_typed (zr_ HO_7)) (by decide) hg);have n1_:=am_ (hb);have n2_:=am_ (ho);clear HO_6;clear HB;clear HO_7;have HO_6:=n0_;have HB:=n1_;have HO13:=n2_;clear n0_ n1_ n2_;clear ho hb hg hat))
    go_ret2
    exact ⟨_,_,by first|rfl|(simp [errW_none,errW_some]<;>rfl)|(simp [*,errW_none,errW_some]<;>rfl),zr_ HO13,zr_ HO_6,zl0_ HB⟩
   rw [if_pos c5] at H;have c5b0:=decide_eq_true c5;clear c5;by_cases c6:(Int.tmod (wrap64 (x8_1+(wrap64 (a1)))) 4)>0;rotate_left
   ·rw [if_neg c6] at H;have c6b0:decide (0<(Int.tmod (wrap64 (x8_1+(wrap64 (a1)))) 4))=false:=decide_eq_false c6;clear c6;have H':=Aside0.mk H;clear H;obtain ⟨Ao12,co12,eo12⟩:=Kd.R_slice HO_6.out;subst eo12;go_wp2
    go_roundg k1
    case measure=>have:=HK1.out;omega
    case rel=>exact ⟨(x7_1),(wrap64 (x8_1+1)),rf_,H',⟨by have:=HK1.out;omega⟩,am_ (zr_ HO_6),am_ (zr_ HO_7),⟨zl0_ HB⟩⟩
   rw [if_pos c6] at H;have c6b0:decide (0<(Int.tmod (wrap64 (x8_1+(wrap64 (a1)))) 4))=true:=decide_eq_true c6;clear c6;replace H:=zif_ H;obtain ⟨c7,H⟩:=H;have c7b0:=decide_eq_true c7;clear c7;replace H:=zif_ H;obtain ⟨c8,H⟩:=H;have LMc8:=Aside0.mk c8;clear c8;obtain ⟨y8,hy8⟩: ∃y_:List (S84),y_=(x7_1++ [(⟨(rd_T79 t1 x8_1).f0,(rd_T79 t1 x8_1).f1,(⟨(rd_T79 t1 x8_1).f2.f0,(rd_T79 t1 x8_1).f2.f1,(rd_T79 t1 x8_1).f2.f2⟩:S37),(rd_T79 t1 x8_1).f5⟩:S84)]):=⟨_,rfl⟩;(first|replace H:=zsb_ hy8 H|rw [←hy8] at H);have Ny8:=Aside0.mk hy8;clear hy8;have H':=Aside0.mk H;clear H;obtain ⟨Ao9,co9,eo9⟩:=Kd.R_slice HO_6.out;subst eo9;try go_wp2
   replace HO_6:=am_ (Kd.R_drew HO_6.out);replace HO_7:=am_ (Kd.R_drew HO_7.out);replace HB:=am_ (below_drew1 HB.out);obtain ⟨p4,q4,ad4,e4,hx4_0,hx4_1,hx4_2,hx4_3,hx4_4,hx4_5,hx4_6,hx4_7,hx4_8,hx4_9,hx4_10,hx4_11⟩:=zat_ (at_T79 (Kd.R_reads' HO_6.out).2.2 x8_1);cases e4;obtain ⟨p5,q5,ad5,e5,hx5_0,hx5_1,hx5_2,hx5_3,hx5_4,hx5_5,hx5_6,hx5_7,hx5_8,hx5_9,hx5_10,hx5_11⟩:=zat_ (at_T79 (Kd.R_reads' HO_6.out).2.2 x8_1);obtain rfl:ad4=ad5:=(by injection e5);obtain ⟨p6,q6,ad6,e6,hx6_0,hx6_1,hx6_2,hx6_3,hx6_4,hx6_5,hx6_6,hx6_7,hx6_8,hx6_9,hx6_10,hx6_11⟩:=zat_ (at_T79 (Kd.R_reads' HO_6.out).2.2 x8_1);obtain rfl:ad4=ad6:=(by injection e6);obtain ⟨p7,q7,ad7,e7,hx7_0,hx7_1,hx7_2,hx7_3,hx7_4,hx7_5,hx7_6,hx7_7,hx7_8,hx7_9,hx7_10,hx7_11⟩:=zat_ (at_T79 (Kd.R_reads' HO_6.out).2.2 x8_1);obtain rfl:ad4=ad7:=(by injection e7)
   refine start_ (n:=25) (S:=fun w'=>w'.cell? (ad4.add ((x8_1).toNat*12))=some (.string ((rd_T79 t1 x8_1).f0))∧w'.cell? ⟨(ad4.add ((x8_1).toNat*12)).block,(ad4.add ((x8_1).toNat*12)).off+1,none⟩=some (.string ((rd_T79 t1 x8_1).f1))∧w'.cell? ⟨(ad4.add ((x8_1).toNat*12)).block,(ad4.add ((x8_1).toNat*12)).off+2,none⟩=some (.int .i64 ((rd_T79 t1 x8_1).f2.f0))∧w'.cell? ⟨(ad4.add ((x8_1).toNat*12)).block,(ad4.add ((x8_1).toNat*12)).off+3,none⟩=some (.int .i64 ((rd_T79 t1 x8_1).f2.f1))∧w'.cell? ⟨(ad4.add ((x8_1).toNat*12)).block,(ad4.add ((x8_1).toNat*12)).off+4,none⟩=some (.int .i64 ((rd_T79 t1 x8_1).f2.f2))∧w'.cell? ⟨(ad4.add ((x8_1).toNat*12)).block,(ad4.add ((x8_1).toNat*12)).off+11,none⟩=some (.int .i64 ((rd_T79 t1 x8_1).f5))) (ds:=[22,23]) (bt_ 25 0) (by kernel_rfl) rfl rfl ⟨hx4_0,hx4_1,hx4_2,hx4_3,hx4_4,hx4_11⟩ (fun hHeld=> ?_);refine with_tabW law18_Live.tab7 law18_Live.bits7 (fun HT_ HW_=> ?_);generalize wr.drew=w10 at HO_6 HO_7 HB hx4_0 hx4_1 hx4_10 hx4_11 hx4_2 hx4_3 hx4_4 hx4_5 hx4_6 hx4_7 hx4_8 hx4_9 hx5_0 hx5_1 hx5_10 hx5_11 hx5_2 hx5_3 hx5_4 hx5_5 hx5_6 hx5_7 hx5_8 hx5_9 hx6_0 hx6_1 hx6_10 hx6_11 hx6_2 hx6_3 hx6_4 hx6_5 hx6_6 hx6_7 hx6_8 hx6_9 hx7_0 hx7_1 hx7_10 hx7_11 hx7_2 hx7_3 hx7_4 hx7_5 hx7_6 hx7_7 hx7_8 hx7_9 hHeld ⊢;refine ru_ 0 HT_ ?_;refine ru_ 1 HT_ ?_;refine ru_ 2 HT_ ?_;refine ru_ 3 HT_ ?_;refine ru_ 4 HT_ ?_;refine ru_ 6 HT_ ?_;refine ru_ 7 HT_ ?_;refine ru_ 8 HT_ ?_;refine ru_ 9 HT_ ?_;refine ru_ 11 HT_ ?_;refine ru_ 12 HT_ ?_;refine ru_ 13 HT_ ?_
   refine ru_ 14 HT_ ?_;refine ru_ 16 HT_ ?_;refine ru_ 17 HT_ ?_;refine ru_ 18 HT_ ?_;refine ru_ 19 HT_ ?_;refine rk_ 5 HT_ HW_ hHeld ?_;refine rk_ 10 HT_ HW_ hHeld ?_;refine rk_ 15 HT_ HW_ hHeld ?_;refine rk_ 20 HT_ HW_ hHeld ?_;refine ru_ 21 HT_ ?_;refine last_ (i:=22) (N:=some 45) (bt_ 25 8388607) rfl rfl (one_of HT_.out (by kernel_rfl)) (by decide) (fun K hK=> ?_);refine value_ (w1:= ?_) (v:= ?_) (by rfl) rfl ?_ ?_
   rotate_left 2
   ·go_simp
    constructor
    ·rfl
    rfl
   refine hK.out _ _ ?_;clear hK K;refine no_ (N:=some 45) ?_;refine last_ (i:=23) (N:=some 46) (bt_ 25 16777215) rfl rfl (one_of HT_.out (by kernel_rfl)) (by decide) (fun K hK=> ?_);refine Kd.R_append_step k84 (w0:=w) w.heap.size (by rfl) (.tmp 23) (.tmp 45) 53 84 (.agg #[(.string ⟨#[]⟩),(.string ⟨#[]⟩),(.int .i64 0),(.int .i64 0),(.int .i64 0),(.int .i64 0)]) 64 rfl Try.underlying53 info84 rfl (by decide) (by omega) u7 x7_1 (⟨(rd_T79 t1 x8_1).f0,(rd_T79 t1 x8_1).f1,(⟨(rd_T79 t1 x8_1).f2.f0,(rd_T79 t1 x8_1).f2.f1,(rd_T79 t1 x8_1).f2.f2⟩:S37),(rd_T79 t1 x8_1).f5⟩:S84) [.string ((rd_T79 t1 x8_1).f0), .string ((rd_T79 t1 x8_1).f1), .int .i64 ((rd_T79 t1 x8_1).f2.f0), .int .i64 ((rd_T79 t1 x8_1).f2.f1), .int .i64 ((rd_T79 t1 x8_1).f2.f2), .int .i64 ((rd_T79 t1 x8_1).f5)] (fun _=>True) (fun _=>False) rfl rfl ?aP (fun _ hk=>hk.elim) ?aF ?aO ?aB ?aS ?aL ?_;(case aP=>exact k84_mkM _ _ _ (⟨(rd_T79 t1 x8_1).f0,(rd_T79 t1 x8_1).f1,(⟨(rd_T79 t1 x8_1).f2.f0,(rd_T79 t1 x8_1).f2.f1,(rd_T79 t1 x8_1).f2.f2⟩:S37),(rd_T79 t1 x8_1).f5⟩:S84));(case aB=>exact (zl0_ HB));(case aF=>exact (fun _ _=>trivial));(case aO=>exact (zr_ HO_7));(case aS=>exact (below_size (zl0_ HB)));(case aL=>have:=LMc8.out;omega);intro v9 w11 ho hb hg hat;rw [←Ny8.out] at ho;have n0_:=am_ (Kd.R_over' (zr_ HO_6) (Kd.R_typed (zr_ HO_7)) (by decide) hg);have n1_:=am_ (hb);have n2_:=am_ (ho);clear HO_6 HB HO_7;have HO_6:=n0_;have HB:=n1_;have HO10:=n2_;clear n0_ n1_ n2_ ho hb hg hat;refine hK.out _ _ ?_;clear hK K
   refine no_ (N:=some 46) ?_;refine ru_ 24 HT_ ?_;refine done_ (done_of HT_.out (by kernel_rfl)) ?_;try go_wp2
   go_roundg k1
   case measure=>have:=HK1.out;omega
   case rel=>exact ⟨(y8),(wrap64 (x8_1+1)),rf_,H',⟨by have:=HK1.out;omega⟩,am_ (zr_ HO_6),am_ (zr_ HO10),⟨zl0_ HB⟩⟩
noncomputable def law18_PlanMade.j0:Nat→List Int→List Int→Int→Bool→Bool→Option (Bool)
 |0,_,_,_,_,_=>none
 |k+1,x0,x1,x2,x3,x22=>if x22=true then ((law18_awake.f).bind fun t1=>(some t1)) else ((law18_Live.f k x0 x2).bind fun bt2=>((law11_Make.f k x1 x3).bind fun t8=>((plan_Steps.f t8 bt2.1 bt2.2).bind fun bt11=>((r16_Steps.f k t8 bt2.1 bt2.2).bind fun bt15=>((r16_SameSteps.f k bt11.1 bt15.1).bind fun t20=>(if t20=true then ((law1_Num.f bt11.2).bind fun t21=>(if t21=bt15.2 then (if (bt11.1.length:Int)≤480 then ((law18_awake.f).bind fun t22=>(some t22)) else (none)) else (none))) else (none)))))))
noncomputable def law18_PlanMade.f (k:Nat) (l0:List Int) (l1:List Int) (a2:Int) (a3:Bool):Option (Bool):=if (l0.length:Int)>60 then (law18_PlanMade.j0 k l0 l1 a2 a3 true) else (law18_PlanMade.j0 k l0 l1 a2 a3 (decide ((l1.length:Int)>60)))
theorem law18_PlanMade.mono_l: ∀k,(∀y0 y1 y2 y3 y4,LeO (law18_PlanMade.j0 k y0 y1 y2 y3 y4) (law18_PlanMade.j0 (k+1) y0 y1 y2 y3 y4))
 |0=>fun _ _ _ _ _ r h=>by simp [law18_PlanMade.j0] at h
 |k+1=>by
  have ih0:=law18_PlanMade.mono_l k;intro y0 y1 y2 y3 y4;unfold law18_PlanMade.j0
  repeat' with_reducible first|apply ih0|apply law11_Make.mono|apply law18_Live.mono|apply r16_SameSteps.mono|apply r16_Steps.mono|apply LeO.refl|apply LeO.none|apply LeO.ite|refine LeO.bind ?_ fun _=> ?_
theorem law18_PlanMade.mono: ∀a0 a1 a2 a3 k,LeO (law18_PlanMade.f k a0 a1 a2 a3) (law18_PlanMade.f (k+1) a0 a1 a2 a3):=by
 intro a0 a1 a2 a3 k;have ih0:=law18_PlanMade.mono_l k;unfold law18_PlanMade.f
 repeat' with_reducible first|apply ih0|apply law11_Make.mono|apply law18_Live.mono|apply r16_SameSteps.mono|apply r16_Steps.mono|apply LeO.refl|apply LeO.none|apply LeO.ite|refine LeO.bind ?_ fun _=> ?_
noncomputable def law18_PlanMade.T7:Bool×List (List Nat×List Nat):=(true,[([],[]),([],[]),([1],[1]),([0,2],[0,2]),([3,3],[3]),([4],[4]),([5,4,4],[4,5]),([4],[4]),([7,4],[4,7]),([6,8,4],[4,6,8]),([4,9],[4,9]),([10,6],[10]),([11],[11]),([12,11],[11,12]),([13,11],[11,13]),([11,14],[11,14]),([15,11],[15]),([16,16],[16]),([16,17],[16,17]),([18,17,0,1,2,3,4,5,6,7,8,9,10,11,12,13,14,15,16,17,18],[18])])
noncomputable def law18_PlanMade.B7:List Nat:=[0,0,2,7,15,31,63,31,159,511,1023,2047,4095,8191,16383,32767,65535,131071,262143,524287]
theorem law18_PlanMade.tab7:rtab .any (opsOf Try.f10 7)=law18_PlanMade.T7:=by kernel_rfl
theorem law18_PlanMade.bits7:waitsOk law18_PlanMade.T7.2 law18_PlanMade.B7=true:=by kernel_rfl
set_option maxHeartbeats 80000000 in
set_option maxRecDepth 100000 in
theorem law18_PlanMade.calls (k:Nat) (A0:Option Addr) (c0:Nat) (l0:List Int) (A1:Option Addr) (c1:Nat) (l1:List Int) (a2:Int) (a3:Bool) (r:Bool) (w:World) (hr0:Kd.C (Kd.int .u8) w A0 l0.length l0) (hc0:l0.length≤c0) (hr1:Kd.C (Kd.int .u8) w A1 l1.length l1) (hc1:l1.length≤c1) (h:law18_PlanMade.f k l0 l1 a2 a3=some r):
  Calls Try.prog 10 #[.slice A0 l0.length c0, .slice A1 l1.length c1, .int .u8 a2, .bool a3] w fun e w'=>e= .returned (.bool r)∧Below w.heap.size w w':=by
 have hu51:=Try.underlying51;have HR0:=Aside0.mk hr0;have HC0:=Aside0.mk hc0;clear hr0 hc0;have HR1:=Aside0.mk hr1;have HC1:=Aside0.mk hc1;clear hr1 hc1;have HB:=am_ (Below.refl w.heap.size w);have H:(if (l0.length:Int)>60 then (law18_PlanMade.j0 k l0 l1 a2 a3 true) else (law18_PlanMade.j0 k l0 l1 a2 a3 (decide ((l1.length:Int)>60))))=some r:=h;clear h;have HC5:=Aside0.mk H;clear H;go_enter Try.func10,Try.ntmps10;go_upto_region 1 with (fail)
 go_cut [22] (fun v22 wc=> ∃(kq:Nat) (x22_4:Bool),v22= .bool x22_4∧Aside0 (law18_PlanMade.j0 kq l0 l1 a2 a3 x22_4=some r)∧Aside0 (kq≤k)∧Aside0 (Below w.heap.size w wc))
 case first=>
  have H:=HC5.out;clear HC5;by_cases c6:(l0.length:Int)>60
  ·rw [if_pos c6] at H;have c6b0:decide (60<(l0.length:Int))=true:=decide_eq_true c6;have c6b1:decide (60<l0.length)=true:=decide_eq_true (by omega);clear c6;(first|rw [c6b0]|(simp only [i64_w,i32_w];rw [c6b0])|skip);have H':=Aside0.mk H;clear H;go_wp2
   go_meet
   case rel=>exact ⟨_,(true),rf_,H',⟨by first|omega|exact Nat.le_refl _⟩,⟨zl0_ HB⟩⟩
  rw [if_neg c6] at H;have c6b0:decide (60<(l0.length:Int))=false:=decide_eq_false c6;have c6b1:decide (60<l0.length)=false:=decide_eq_false (by omega);clear c6;(first|rw [c6b0]|(simp only [i64_w,i32_w];rw [c6b0])|skip);have H':=Aside0.mk H;clear H;go_wp2
  go_meet
  case rel=>exact ⟨_,(decide ((l1.length:Int)>60)),rf_,H',⟨by first|omega|exact Nat.le_refl _⟩,⟨zl0_ HB⟩⟩
 case rest=>
  clear HC5;obtain ⟨kq,x22_4,rfl,HA,HJ4,HB⟩:=hcut
  cases kq with
  |zero=>exact absurd HA.out (by simp [law18_PlanMade.j0])
  |succ kj4=>
   have H:=HA.out;clear HA;simp only [law18_PlanMade.j0] at H;by_cases c7:x22_4=true
   ·subst c7;rw [if_pos rfl] at H;replace H:=zbd_ H;obtain ⟨t1,A8,H⟩:=H;try dsimp only at H
    obtain rfl:=Option.some.inj H;go_wp2_with (first|((with_reducible refine gate_callee (f:=47) rfl ?_);refine gl_ (some 23) Try.func47 #[] ?_;(with_reducible refine (law18_awake.calls t1 _ A8.out).mono ?_);rintro e w9 ⟨rfl,hb⟩;refine ⟨_,rfl, ?_⟩;replace HB:=am_ (below_step (zl0_ HB) hb);(try clear hb)))
    go_ret
    exact ⟨by first|rfl|(simp [errW_none,errW_some]<;>rfl)|(simp [*,errW_none,errW_some]<;>rfl),zl0_ HB⟩
   replace c7:=Bool.eq_false_iff.mpr c7;subst c7;rw [if_neg (show¬(false=true) by decide)] at H;replace H:=zbd_ H;obtain ⟨⟨t2,t3⟩,A10,H⟩:=H;try dsimp only at H
   replace H:=zbd_ H;obtain ⟨t8,A11,H⟩:=H;try dsimp only at H
   replace H:=zbd_ H;obtain ⟨⟨t11,t12⟩,A12,H⟩:=H;try dsimp only at H
   replace H:=zbd_ H;obtain ⟨⟨t15,t18⟩,A13,H⟩:=H;try dsimp only at H
   replace H:=zbd_ H;obtain ⟨t20,A14,H⟩:=H;try dsimp only at H
   by_cases c15:t20=true;rotate_left
   ·replace c15:=Bool.eq_false_iff.mpr c15;subst c15;have H1:(none)=some r:=by rw [if_neg (show¬(false=true) by decide)] at H;exact H
    cases H1

   subst c15;rw [if_pos rfl] at H;replace H:=zbd_ H;obtain ⟨t21,A16,H⟩:=H;try dsimp only at H
   by_cases c17:t21=t18;rotate_left
   ·rw [if_neg c17] at H;cases H
   rw [if_pos c17] at H;have c17b0:=beq_iff_eq.mpr c17;have c17b1:=bne_eq_false_iff_eq.mpr c17;clear c17;by_cases c18:(t11.length:Int)≤480;rotate_left
   ·rw [if_neg c18] at H;cases H
   rw [if_pos c18] at H;have c18b0:=decide_eq_true c18;have c18b1:decide (t11.length≤480)=true:=decide_eq_true (by omega);clear c18;replace H:=zbd_ H;obtain ⟨t22,A19,H⟩:=H;try dsimp only at H
   obtain rfl:=Option.some.inj H
   try go_wp2_with (first|((with_reducible refine gate_callee (f:=50) rfl ?_);refine gl_ (some 27) Try.func50 #[.slice A0 l0.length c0, .int .u8 a2] ?_;(with_reducible refine (law18_Live.calls kj4 _ _ l0 a2 t2 t3 _ ?side1 ?side2 A10.out).mono ?_);(case side1=>exact zc_ (Kd.C_below HR0.out HB.out));(case side2=>exact HC0.out);rintro e w20 ⟨v4,v6,rfl,ho0,ho1,hb⟩;refine ⟨_,rfl, ?_⟩;have HO5:=am_ (Kd.R_lower ho0 (below_size (zl0_ HB)));have HO7:=am_ (Kd.R_lower ho1 (below_size (zl0_ HB)));replace HB:=am_ (below_step (zl0_ HB) hb);(try clear hb ho0 ho1))|((with_reducible refine gate_callee (f:=32) rfl ?_);refine gl_ (some 32) Try.func32 #[.slice A1 l1.length c1, .bool a3] ?_;(with_reducible refine (law11_Make.calls kj4 _ _ l1 a3 t8 _ ?side1 ?side2 A11.out).mono ?_);(case side1=>exact zc_ (Kd.C_below HR1.out HB.out));(case side2=>exact HC1.out);rintro e w21 ⟨v9,rfl,ho0,hb⟩;refine ⟨_,rfl, ?_⟩;replace HO5:=ob_ HO5 hb;replace HO7:=ob_ HO7 hb;have HO10:=am_ (Kd.R_lower ho0 (below_size (zl0_ HB)));replace HB:=am_ (below_step (zl0_ HB) hb);(try clear hb ho0);obtain ⟨Ao22,co22,eo22⟩:=Kd.R_slice HO10.out;subst eo22;obtain ⟨Ao23,co23,eo23⟩:=Kd.R_slice HO5.out;subst eo23;obtain ⟨Ao24,co24,eo24⟩:=Kd.R_slice HO7.out;subst eo24)|((with_reducible refine gate_callee (f:=48) rfl ?_);refine gl_ (some 37) Try.func48 #[.slice Ao22 t8.length co22, .slice Ao23 t2.length co23, .slice Ao24 t3.length co24] ?_;(with_reducible refine (plan_Steps.calls _ _ t8 _ _ t2 _ _ t3 t11 t12 _ ?side1 ?side2 ?side3 ?side4 ?side5 ?side6 A12.out).mono ?_);(case side1=>exact zc_ (Kd.R_reads' HO10.out).2.2);(case side2=>exact (Kd.R_reads' HO10.out).2.1);(case side3=>exact zc_ (Kd.R_reads' HO5.out).2.2);(case side4=>exact (Kd.R_reads' HO5.out).2.1);(case side5=>exact zc_ (Kd.R_reads' HO7.out).2.2);(case side6=>exact (Kd.R_reads' HO7.out).2.1);rintro e w25 ⟨v13,rfl,ho0,hb⟩;refine ⟨_,rfl, ?_⟩;replace HO5:=ob_ HO5 hb;replace HO7:=ob_ HO7 hb;replace HO10:=ob_ HO10 hb;have HO14:=am_ (Kd.R_lower ho0 (below_size (zl0_ HB)));replace HB:=am_ (below_step (zl0_ HB) hb);(try clear hb ho0))|((with_reducible refine gate_callee (f:=39) rfl ?_);refine gl_ (some 43) Try.func39 #[.slice Ao22 t8.length co22, .slice Ao23 t2.length co23, .slice Ao24 t3.length co24] ?_;(with_reducible refine (r16_Steps.calls kj4 _ _ t8 _ _ t2 _ _ t3 t15 t18 _ ?side1 ?side2 ?side3 ?side4 ?side5 ?side6 A13.out).mono ?_);(case side1=>exact zc_ (Kd.R_reads' HO10.out).2.2);(case side2=>exact (Kd.R_reads' HO10.out).2.1);(case side3=>exact zc_ (Kd.R_reads' HO5.out).2.2);(case side4=>exact (Kd.R_reads' HO5.out).2.1);(case side5=>exact zc_ (Kd.R_reads' HO7.out).2.2);(case side6=>exact (Kd.R_reads' HO7.out).2.1);rintro e w26 ⟨v16,rfl,ho0,hb⟩;refine ⟨_,rfl, ?_⟩;replace HO5:=ob_ HO5 hb;replace HO7:=ob_ HO7 hb;replace HO10:=ob_ HO10 hb;have HO17:=am_ (Kd.R_lower (Kd.R_new' ho0 (Kd.R_lt (zr_ HO14))) (below_size (zl0_ HB)));replace HO14:=am_ (Kd.R_elder' (zr_ HO14) (Kd.R_base ho0) hb);replace HB:=am_ (below_step (zl0_ HB) hb);(try clear hb ho0))|((with_reducible refine gate_dst (N:=14) rfl ?_);(try (refine gate_guard (by rfl) ?_;dsimp only));refine bx_ (N:=14) (cs:=#[.slice none 0 0, .int .i64 0]) (t:=51) ?_;intro gb19 hg w27 hbox hb;replace HO5:=ob_ HO5 hb;replace HO7:=ob_ HO7 hb;replace HO10:=ob_ HO10 hb;replace HO14:=ob_ HO14 hb;replace HO17:=ob_ HO17 hb;have BK19:=am_ (hbox);have GE19:=am_ ((zg0_ HB hg:w.heap.size≤gb19));replace HB:=am_ (below_step (zl0_ HB) hb);clear hb hbox hg;obtain ⟨Ao28,co28,eo28⟩:=Kd.R_slice HO17.out;subst eo28;obtain ⟨hcz29_0,hcz29_1⟩:=x2_ BK19;have hfz29_0:=blk_frozen BK19.out 0;have hfz29_1:=blk_frozen BK19.out 1))
   have n0_:Aside0 (Kd.R k84 84 ((w27.setCell ⟨gb19,0,none⟩ (.slice Ao28 t15.length co28)).setCell ⟨gb19,1,none⟩ (.int .i64 t18)) w.heap.size (fun _=>True) (.slice Ao23 t2.length co23) t2):=⟨zy_ HO5 BK19⟩;have n1_:Aside0 (Kd.R k79 79 ((w27.setCell ⟨gb19,0,none⟩ (.slice Ao28 t15.length co28)).setCell ⟨gb19,1,none⟩ (.int .i64 t18)) w.heap.size (fun _=>True) (.slice Ao24 t3.length co24) t3):=⟨zy_ HO7 BK19⟩;have n2_:Aside0 (Kd.R k39 39 ((w27.setCell ⟨gb19,0,none⟩ (.slice Ao28 t15.length co28)).setCell ⟨gb19,1,none⟩ (.int .i64 t18)) w.heap.size (fun _=>True) (.slice Ao22 t8.length co22) t8):=⟨zy_ HO10 BK19⟩;have n3_:Aside0 (Kd.R k76 76 ((w27.setCell ⟨gb19,0,none⟩ (.slice Ao28 t15.length co28)).setCell ⟨gb19,1,none⟩ (.int .i64 t18)) w.heap.size (fun k_=>some k_≠(.slice Ao28 t15.length co28:Value).ownBlock) v13 t11):=⟨by (with_reducible repeat (first|apply Kd.R_alloc|apply Kd.R_drewN|apply Kd.R_drew));exact Kd.R_mono (Kd.R_far (p:=⟨gb19,1,none⟩) (Kd.R_far (p:=⟨gb19,0,none⟩) (Kd.R_types HO14.out BK19.out (by decide)) (fun _ hk=>hk.2) (.slice Ao28 t15.length co28)) (fun _ hk=>hk.2) (.int .i64 t18)) (fun _ hk=>hk.1.2)⟩
   have n4_:Aside0 (Kd.R k76 76 ((w27.setCell ⟨gb19,0,none⟩ (.slice Ao28 t15.length co28)).setCell ⟨gb19,1,none⟩ (.int .i64 t18)) w.heap.size (fun k_=>some k_≠(v13:Value).ownBlock) (.slice Ao28 t15.length co28) t15):=⟨by (with_reducible repeat (first|apply Kd.R_alloc|apply Kd.R_drewN|apply Kd.R_drew));exact Kd.R_mono (Kd.R_far (p:=⟨gb19,1,none⟩) (Kd.R_far (p:=⟨gb19,0,none⟩) (Kd.R_types HO17.out BK19.out (by decide)) (fun _ hk=>hk.2) (.slice Ao28 t15.length co28)) (fun _ hk=>hk.2) (.int .i64 t18)) (fun _ hk=>hk.1.2)⟩;have n5_:Aside0 (((w27.setCell ⟨gb19,0,none⟩ (.slice Ao28 t15.length co28)).setCell ⟨gb19,1,none⟩ (.int .i64 t18)).heap[gb19]?=some (.cells #[.slice Ao28 t15.length co28, .int .i64 t18] 51 (0,0))):=⟨zw_ BK19⟩;have n6_:Aside0 (Below w.heap.size w ((w27.setCell ⟨gb19,0,none⟩ (.slice Ao28 t15.length co28)).setCell ⟨gb19,1,none⟩ (.int .i64 t18))):=⟨zl1_ HB GE19⟩;generalize ((w27.setCell ⟨gb19,0,none⟩ (.slice Ao28 t15.length co28)).setCell ⟨gb19,1,none⟩ (.int .i64 t18))=w30 at n0_ n1_ n2_ n3_ n4_ n5_ n6_ ⊢;have HO5:=n0_;have HO7:=n1_;have HO10:=n2_;have HO14:=n3_;have HO17:=n4_;have BK19:=n5_;have HB:=n6_;clear n0_ n1_ n2_ n3_ n4_ n5_ n6_;replace HO5:=am_ (Kd.R_drew HO5.out);replace HO7:=am_ (Kd.R_drew HO7.out);replace HO10:=am_ (Kd.R_drew HO10.out);replace HO14:=am_ (Kd.R_drew HO14.out);replace HO17:=am_ (Kd.R_drew HO17.out);replace BK19:=am_ (blk_drew BK19.out);replace HB:=am_ (below_drew1 HB.out);obtain ⟨Ao32,co32,eo32⟩:=Kd.R_slice HO14.out
   (first|subst eo32|cases eo32);refine start_ (n:=20) (S:=fun w'=>w'.cell? ⟨gb19,0,none⟩=some (.slice Ao28 t15.length co28)∧w'.cell? ⟨gb19,1,none⟩=some (.int .i64 t18)) (ds:=[]) (bt_ 20 0) (by kernel_rfl) rfl rfl ⟨(blk_cell BK19.out 0).trans rfl,(blk_cell BK19.out 1).trans rfl⟩ (fun hHeld=> ?_);refine with_tabW law18_PlanMade.tab7 law18_PlanMade.bits7 (fun HT_ HW_=> ?_);generalize w30.drew=w31 at HO5 HO7 HO10 HO14 HO17 BK19 HB hHeld ⊢;refine ru_ 0 HT_ ?_;refine ru_ 1 HT_ ?_;refine rk_ 2 HT_ HW_ hHeld ?_;refine on_ (i:=3) (N:=some 47) (bt_ 20 15) HT_ (fun K hK=> ?_);refine gs_ Try.func49 #[.slice Ao32 t11.length co32, .slice Ao28 t15.length co28] ?_
   with_reducible refine (r16_SameSteps.calls kj4 _ _ t11 _ _ t15 true _ ?side1 ?side2 ?side3 ?side4 A14.out).mono ?_
   (case side1=>exact zc_ (Kd.R_reads' HO14.out).2.2);(case side2=>exact (Kd.R_reads' HO14.out).2.1);(case side3=>exact zc_ (Kd.R_reads' HO17.out).2.2);(case side4=>exact (Kd.R_reads' HO17.out).2.1);rintro e w' ⟨rfl,⟨nd,rfl⟩⟩;refine ⟨_,rfl, ?_⟩;refine hK.out _ _ ⟨(blk_cell BK19.out 0).trans rfl,(blk_cell BK19.out 1).trans rfl⟩ (fun hHeld=> ?_);clear hK K;refine no_ (N:=some 47) ?_;refine ru_ 4 HT_ ?_;refine ru_ 5 HT_ ?_;refine ru_ 7 HT_ ?_;refine rk_ 8 HT_ HW_ hHeld ?_;refine on_ (i:=6) (N:=some 50) (bt_ 20 511) HT_ (fun K hK=> ?_);refine gs_ Try.func25 #[.int .i64 t12] ?_
   with_reducible refine (law1_Num.calls t12 t21 _ A16.out).mono ?_
   rintro e w' ⟨rfl,⟨nd,rfl⟩⟩;refine ⟨_,rfl, ?_⟩;refine hK.out _ _ ⟨(blk_cell BK19.out 0).trans rfl,(blk_cell BK19.out 1).trans rfl⟩ (fun hHeld=> ?_);clear hK K;refine no_ (N:=some 50) ?_;refine ru_ 9 HT_ ?_;refine ru_ 10 HT_ ?_;refine ru_ 11 HT_ ?_;refine ru_ 12 HT_ ?_;refine ru_ 13 HT_ ?_;refine ru_ 14 HT_ ?_;refine ru_ 15 HT_ ?_;refine ru_ 16 HT_ ?_;refine on_ (i:=17) (N:=some 61) (bt_ 20 262143) HT_ (fun K hK=> ?_);refine gs_ Try.func47 #[] ?_
   with_reducible refine (law18_awake.calls t22 _ A19.out).mono ?_
   rintro e w33 ⟨rfl,hb⟩;refine ⟨_,rfl, ?_⟩;replace HO5:=ob_ HO5 hb;replace HO7:=ob_ HO7 hb;replace HO10:=ob_ HO10 hb;replace HO14:=ob_ HO14 hb;replace HO17:=ob_ HO17 hb;replace BK19:=bb_ BK19 hb;replace HB:=am_ (below_step (zl1_ HB GE19) hb);(try clear hb);refine hK.out _ _ ⟨(blk_cell BK19.out 0).trans rfl,(blk_cell BK19.out 1).trans rfl⟩ (fun hHeld=> ?_);clear hK K;refine no_ (N:=some 61) ?_;refine ru_ 18 HT_ ?_;refine ru_ 19 HT_ ?_;refine done_ (done_of HT_.out (by kernel_rfl)) ?_;try go_wp2
   go_ret
   exact ⟨by first|rfl|(simp [errW_none,errW_some]<;>rfl)|(simp [*,errW_none,errW_some]<;>rfl),zl1_ HB GE19⟩
noncomputable def law18_PlanMade.Pure:Prop:= ∀(l0:List Int) (l1:List Int) (a2:Int) (a3:Bool),l0.length≤maxLen→l0.length*1≤140737488351232→(∀x∈l0,(Lit.int .u8 x).wf=true)→l1.length≤maxLen→l1.length*1≤140737488351232→(∀x∈l1,(Lit.int .u8 x).wf=true)→(Lit.int .u8 a2).wf=true→ ∃k,law18_PlanMade.f k l0 l1 a2 a3=some true
theorem law18_PlanMade.walk (P:law18_PlanMade.Pure) (a0:Option Addr) (len0 cap0:Nat) (z0:List Int) (a1:Option Addr) (len1 cap1:Nat) (z1:List Int) (a2:Int) (a3:Bool) (w:World) (w0:(a0=none∧len0=0∧cap0=0∧z0=[])∨ ∃x,a0=some x∧len0≤cap0∧cap0≤maxLen∧z0.length=cap0∧(∀i,i<z0.length→w.cell? (x.add i)=some (.int .u8 (z0.getD i 0)))∧ ∀n∈z0,(Lit.int .u8 n).wf=true) (y0:len0*1≤140737488351232) (w1:(a1=none∧len1=0∧cap1=0∧z1=[])∨ ∃x,a1=some x∧len1≤cap1∧cap1≤maxLen∧z1.length=cap1∧(∀i,i<z1.length→w.cell? (x.add i)=some (.int .u8 (z1.getD i 0)))∧ ∀n∈z1,(Lit.int .u8 n).wf=true) (y1:len1*1≤140737488351232) (w2:(Lit.int .u8 a2).wf=true):
  Calls Try.prog 10 #[.slice a0 len0 cap0, .slice a1 len1 cap1, .int .u8 a2, .bool a3] w fun e w'=>e= .returned (.bool true)∧Below w.heap.size w w':=by
 obtain ⟨l0,rfl,hr0,hm0,hw0,hc0⟩:=ReadsInt.ofRowC w0;obtain ⟨l1,rfl,hr1,hm1,hw1,hc1⟩:=ReadsInt.ofRowC w1;obtain ⟨k,h⟩:=P l0 l1 a2 a3 hm0 y0 hw0 hm1 y1 hw1 w2;refine (law18_PlanMade.calls k _ _ l0 _ _ l1 a2 a3 true w (Kd.C_of_reads (d:=(0:Int)) (h1:=fun _=>rfl) hr0) hc0 (Kd.C_of_reads (d:=(0:Int)) (h1:=fun _=>rfl) hr1) hc1 h).mono ?_;rintro e w' ⟨rfl,hd⟩;exact ⟨rfl,hd⟩

def slices_Clone_Item.f (l0:List (S79)):Option (List (S79)):=if l0.length<1256584717458 then some l0 else none
def shape_made.f (l0:List (S79)) (a1:ByteArray):Option ((List (S79))×Int):=(slices_Clone_Item.f l0).bind fun t2=>((tree_Find.f l0 a1).bind fun t5=>(some (t2,t5)))
def shape_change_parent.f (l0_0:List (S79)) (a0_1:Int) (a1:ByteArray):Option (Bool):=if a1.toList=([]:List UInt8) then (some true) else ((tree_Find.f l0_0 a1).bind fun t2=>(some (decide (t2≥0))))
def guardF (l:List S79) (j ver:Int):Option Int:=if j<0 then some 2 else if j<(l.length:Int) then (if 0≤ver∧(rd_T79 l j).f5≠ver then some 14 else some 0) else none
def verF (y:S79):S79:=⟨y.f0,y.f1,y.f2,y.f3,y.f4,wrap64 (y.f5+1)⟩
def olderF (l:List S79) (j:Int):Option (Int×List S79):=if 0≤j∧j<(l.length:Int) then (if (rd_T79 l j).f5≥9007199254740992 then some (4,l) else some (0,l.set j.toNat (verF (rd_T79 l j)))) else none
structure Turned (W w':World) (base:Nat) (v:Value):Prop where
 below:Below base W w'
 block: ∀(k:Nat) o,W.heap[k]?=some o→some k≠v.ownBlock→w'.heap[k]?=some o
theorem Turned.of_below {W w':World} {base:Nat} {v:Value} (h:Below W.heap.size W w') (hb:base≤W.heap.size):Turned W w' base v:=⟨⟨h.os,h.tape,h.output,h.size,fun k hk=>h.block k (Nat.lt_of_lt_of_le hk hb)⟩,fun k o hk _=>blk_below hk h⟩
end Go.Proofs.Ytahidkjncljkaaa.Print

namespace Go.Proofs.Ytahidkjncljkaaa.Print
open Go.RowKit Go.Proofs.YtahidkjncljkaaaW.PrintWords Go.Proofs.YtahidkjncljkaaaW.PrintLast Go.Proofs.YtahidkjncljkaaaW.PrintMore
end Go.Proofs.Ytahidkjncljkaaa.Print

namespace Go.Proofs.Ytahidkjncljkaaa.Print
open Go.RowKit Go.Proofs.YtahidkjncljkaaaW.PrintWords Go.Proofs.YtahidkjncljkaaaW.PrintLast Go.Proofs.YtahidkjncljkaaaW.PrintMore
attribute [local go_sem] max2_int min2_int max_two min_two max_three min_three max_four min_four
def placeL (l:List S79) (n:ByteArray):Nat:=(l.takeWhile fun y=>Op.bytesLess y.f0.toList n.toList).length
def shape_Create.f (l0:List (S79)) (a1:ByteArray) (a2:ByteArray) (a3_0:Int) (a3_1:Int) (a3_2:Int):Option ((List (S79))×Int):=
 (shape_made.f l0 a1).bind fun p=>if a1.toList=([]:List UInt8) then some ([],1) else if (a1.size:Int)>24 then some ([],1) else (vec_May.f a3_0 a3_1 a3_2).bind fun m=>if m=false then some ([],1) else
  if p.2≥0 then some ([],3) else (shape_change_parent.f p.1 p.2 a2).bind fun q=>if q=false then some ([],2) else if (l0.length:Int)≥120 then some ([],4) else
   some (p.1.take (placeL l0 a1)++⟨a1,a2,⟨a3_0,a3_1,a3_2⟩,⟨0,0,0⟩,⟨0,0,0⟩,1⟩::p.1.drop (placeL l0 a1),0)
end Go.Proofs.Ytahidkjncljkaaa.Print

namespace Go.Proofs.Ytahidkjncljkaaa.Print
open Go.RowKit Go.Proofs.YtahidkjncljkaaaW.PrintWords Go.Proofs.YtahidkjncljkaaaW.PrintLast Go.Proofs.YtahidkjncljkaaaW.PrintMore
def shSub (op:S37→S37) (y:S79):S79:=⟨y.f0,y.f1,y.f2,y.f3,op y.f4,y.f5⟩
def shiftF (op:S37→S37):List ByteArray→List S79→Option (List S79)
 |[],out=>some out
 |s::us,out=>(tree_Find.f out s).bind fun j=>if 0≤j∧j<(out.length:Int) then shiftF op us (out.set j.toNat (shSub op (rd_T79 out j))) else none
end Go.Proofs.Ytahidkjncljkaaa.Print

namespace Go.Proofs.Ytahidkjncljkaaa.Print
open Go.RowKit Go.Proofs.YtahidkjncljkaaaW.PrintWords Go.Proofs.YtahidkjncljkaaaW.PrintLast Go.Proofs.YtahidkjncljkaaaW.PrintMore
attribute [local go_sem] max2_int min2_int max_two min_two max_three min_three max_four min_four

def limF (v:S37) (y:S79):S79:=⟨y.f0,y.f1,v,y.f3,y.f4,y.f5⟩
def shape_Limit.f (l0:List (S79)) (a1:ByteArray) (a2_0:Int) (a2_1:Int) (a2_2:Int) (a3:Int):Option ((List (S79))×Int):=
 (vec_May.f a2_0 a2_1 a2_2).bind fun m=>if m=false then some ([],1) else (shape_made.f l0 a1).bind fun p=>(guardF p.1 p.2 a3).bind fun e=>if e≠0 then some ([],e) else (olderF p.1 p.2).bind fun q=>if q.1≠0 then some ([],q.1) else
  (vec_Le.f (rd_T79 q.2 p.2).f4.f0 (rd_T79 q.2 p.2).f4.f1 (rd_T79 q.2 p.2).f4.f2 a2_0 a2_1 a2_2).bind fun b=>if b=false then some ([],12) else some (q.2.set p.2.toNat (limF ⟨a2_0,a2_1,a2_2⟩ (rd_T79 q.2 p.2)),0)
def slices_Index_string_string.l0:Nat→List ByteArray→ByteArray→Int→Int→Option (Int)
 |0,_,_,_,_=>none
 |k+1,x0,x1,x7,x8=>if x8<x7 then (if 0≤x8 then (if x8<(x0.length:Int) then (if x1.toList=(rdOf ByteArray.empty x0 x8).toList then (some x8) else (slices_Index_string_string.l0 k x0 x1 x7 (wrap64 (x8+1)))) else (none)) else (none)) else (some (-1))
def slices_Index_string_string.f (k:Nat) (l0:List ByteArray) (a1:ByteArray):Option (Int):=slices_Index_string_string.l0 k l0 a1 (l0.length:Int) 0
theorem slices_Index_string_string.mono_l: ∀k,(∀y0 y1 y2 y3,LeO (slices_Index_string_string.l0 k y0 y1 y2 y3) (slices_Index_string_string.l0 (k+1) y0 y1 y2 y3))
 |0=>fun _ _ _ _ r h=>by simp [slices_Index_string_string.l0] at h
 |k+1=>by
  have ih0:=slices_Index_string_string.mono_l k;intro y0 y1 y2 y3;unfold slices_Index_string_string.l0
  repeat' with_reducible first|apply ih0|apply LeO.refl|apply LeO.none|apply LeO.ite|refine LeO.bind ?_ fun _=> ?_
theorem slices_Index_string_string.mono: ∀a0 a1 k,LeO (slices_Index_string_string.f k a0 a1) (slices_Index_string_string.f (k+1) a0 a1):=by
 intro a0 a1 k;have ih0:=slices_Index_string_string.mono_l k;unfold slices_Index_string_string.f
 repeat' first
  |(with_reducible exact ih0 _ _ _ _)
  |(with_reducible exact LeO.refl _)
  |(with_reducible exact LeO.none _)
  |(with_reducible refine LeO.ite ?_ ?_)
  |(with_reducible refine LeO.bind ?_ (fun _=> ?_))
  |exact ih0 _ _ _ _
  |exact LeO.none _
  |refine LeO.ite ?_ ?_
  |refine LeO.bind ?_ (fun _=> ?_)
def slices_Contains_string_string.f (k:Nat) (l0:List ByteArray) (a1:ByteArray):Option (Bool):=(slices_Index_string_string.f k l0 a1).bind fun t1=>(some (decide (t1≥0)))
theorem slices_Contains_string_string.mono: ∀a0 a1 k,LeO (slices_Contains_string_string.f k a0 a1) (slices_Contains_string_string.f (k+1) a0 a1):=by
 intro a0 a1 k;unfold slices_Contains_string_string.f
 repeat' first
  |(with_reducible exact slices_Index_string_string.mono _ _ _)
  |(with_reducible exact LeO.refl _)
  |(with_reducible exact LeO.none _)
  |(with_reducible refine LeO.ite ?_ ?_)
  |(with_reducible refine LeO.bind ?_ (fun _=> ?_))
  |exact slices_Index_string_string.mono _ _ _
  |exact LeO.none _
  |refine LeO.ite ?_ ?_
  |refine LeO.bind ?_ (fun _=> ?_)
def mvAdd (v u:S37):S37:=⟨((vec_Add.f [u,v]).getD (0,0,0)).1,((vec_Add.f [u,v]).getD (0,0,0)).2.1,((vec_Add.f [u,v]).getD (0,0,0)).2.2⟩
def mvSub (v u:S37):S37:=⟨wrap64 (u.f0 - v.f0),wrap64 (u.f1 - v.f1),wrap64 (u.f2 - v.f2)⟩
def fitsF (k:Nat) (l:List S79) (from_:List ByteArray) (sub:S37):List ByteArray→Option Bool
  |[]=>some true
  | s :: us => (tree_Find.f l s).bind fun j => if 0 ≤ j ∧ j < (l.length : Int) then (slices_Contains_string_string.f k from_ s).bind fun c => if c = true then fitsF k l from_ sub us else
      (vec_Le.f (mvAdd sub (rd_T79 l j).f4).f0 (mvAdd sub (rd_T79 l j).f4).f1 (mvAdd sub (rd_T79 l j).f4).f2 (rd_T79 l j).f2.f0 (rd_T79 l j).f2.f1 (rd_T79 l j).f2.f2).bind fun b=>if b=true then fitsF k l from_ sub us else some false else none
theorem fitsF_mono (l:List S79) (from_:List ByteArray) (sub:S37) (k:Nat): ∀us,LeO (fitsF k l from_ sub us) (fitsF (k+1) l from_ sub us)
  |[]=>LeO.refl _
  | s :: us => by
    unfold fitsF;refine LeO.bind (LeO.refl _) (fun j=>LeO.ite (LeO.bind (slices_Contains_string_string.mono _ _ _) (fun c=>LeO.ite (fitsF_mono l from_ sub k us) (LeO.bind (LeO.refl _) (fun b=>LeO.ite (fitsF_mono l from_ sub k us) (LeO.refl _))))) (LeO.refl _))
def parF (p:ByteArray) (y:S79):S79:=⟨y.f0,p,y.f2,y.f3,y.f4,y.f5⟩
def shape_Move.f (k:Nat) (l0:List (S79)) (a1:ByteArray) (a2:ByteArray) (a3:Int):Option ((List (S79))×Int):=
 (shape_made.f l0 a1).bind fun p=>(guardF p.1 p.2 a3).bind fun e=>if e≠0 then some ([],e) else (tree_Up.f k l0 a2).bind fun ts=>(shape_change_parent.f p.1 p.2 a2).bind fun q=>if q=false then some ([],2) else
  (slices_Contains_string_string.f k ts a1).bind fun c=>if c=true then some ([],10) else (olderF p.1 p.2).bind fun o=>if o.1≠0 then some ([],o.1) else
   (tree_Up.f k l0 (rd_T79 o.2 p.2).f1).bind fun fs=>(fitsF k l0 fs (rd_T79 o.2 p.2).f4 ts).bind fun b=>if b=false then some ([],12) else
    (shiftF (mvSub (rd_T79 o.2 p.2).f4) fs o.2).bind fun l3=>(shiftF (mvAdd (rd_T79 o.2 p.2).f4) ts l3).bind fun l4=>some (l4.set p.2.toNat (parF a2 (rd_T79 l4 p.2)),0)
theorem shape_Move.mono: ∀a0 a1 a2 a3 k,LeO (shape_Move.f k a0 a1 a2 a3) (shape_Move.f (k+1) a0 a1 a2 a3):=by
 intro a0 a1 a2 a3 k;unfold shape_Move.f
 repeat' first
  |(with_reducible exact tree_Up.mono _ _ _)
  |(with_reducible exact slices_Contains_string_string.mono _ _ _)
  |(with_reducible exact fitsF_mono _ _ _ _ _)
  |(with_reducible exact LeO.refl _)
  |(with_reducible exact LeO.none _)
  |(with_reducible refine LeO.ite ?_ ?_)
  |(with_reducible refine LeO.bind ?_ (fun _=> ?_))
def tree_Below.l0:Nat→ByteArray→List ByteArray→List (S79)→Int→Int→Option (List ByteArray)
 |0,_,_,_,_,_=>none
 |k+1,x1,x5,x8,x9,x10=>if x10<x9 then (if 0≤x10 then (if x10<(x8.length:Int) then (if ((rd_T79 x8 x10).f1).toList=x1.toList then (if x5.length<8796093022208 then (tree_Below.l0 k x1 (x5++ [(rd_T79 x8 x10).f0]) x8 x9 (wrap64 (x10+1))) else (none)) else (tree_Below.l0 k x1 x5 x8 x9 (wrap64 (x10+1)))) else (none)) else (none)) else (some x5)
def tree_Below.f (k:Nat) (l0:List (S79)) (a1:ByteArray):Option (List ByteArray):=tree_Below.l0 k a1 ([]:List ByteArray) l0 (l0.length:Int) 0
theorem tree_Below.mono_l: ∀k,(∀y0 y1 y2 y3 y4,LeO (tree_Below.l0 k y0 y1 y2 y3 y4) (tree_Below.l0 (k+1) y0 y1 y2 y3 y4))
 |0=>fun _ _ _ _ _ r h=>by simp [tree_Below.l0] at h
 |k+1=>by
  have ih0:=tree_Below.mono_l k;intro y0 y1 y2 y3 y4;unfold tree_Below.l0
  repeat' with_reducible first|apply ih0|apply LeO.refl|apply LeO.none|apply LeO.ite|refine LeO.bind ?_ fun _=> ?_
theorem tree_Below.mono: ∀a0 a1 k,LeO (tree_Below.f k a0 a1) (tree_Below.f (k+1) a0 a1):=by
 intro a0 a1 k;have ih0:=tree_Below.mono_l k;unfold tree_Below.f
 repeat' first
  |(with_reducible exact ih0 _ _ _ _ _)
  |(with_reducible exact LeO.refl _)
  |(with_reducible exact LeO.none _)
  |(with_reducible refine LeO.ite ?_ ?_)
  |(with_reducible refine LeO.bind ?_ (fun _=> ?_))
  |exact ih0 _ _ _ _ _
  |exact LeO.none _
  |refine LeO.ite ?_ ?_
  |refine LeO.bind ?_ (fun _=> ?_)
def shape_Delete.f (k:Nat) (l0:List (S79)) (a1:ByteArray) (a2:Int):Option ((List (S79))×Int):=
 (shape_made.f l0 a1).bind fun p=>(guardF p.1 p.2 a2).bind fun e=>if e≠0 then some ([],e) else (tree_Below.f k l0 a1).bind fun b=>if (b.length:Int)>0 then some ([],13) else
  if (rd_T79 p.1 p.2).f3.f0=0∧(rd_T79 p.1 p.2).f3.f1=0∧(rd_T79 p.1 p.2).f3.f2=0 then some (p.1.take p.2.toNat++p.1.drop (p.2.toNat+1),0) else some ([],13)
theorem shape_Delete.mono: ∀a0 a1 a2 k,LeO (shape_Delete.f k a0 a1 a2) (shape_Delete.f (k+1) a0 a1 a2):=by
 intro a0 a1 a2 k;unfold shape_Delete.f
 repeat' first
  |(with_reducible exact tree_Below.mono _ _ _)
  |(with_reducible exact LeO.refl _)
  |(with_reducible exact LeO.none _)
  |(with_reducible refine LeO.ite ?_ ?_)
  |(with_reducible refine LeO.bind ?_ (fun _=> ?_))
def shape_Do.f (k:Nat) (l0:List (S79)) (a1_0:Int) (a1_1:ByteArray) (a1_2:ByteArray) (a1_3:Int) (a1_4:Int) (a1_5:Int) (a2:Int):Option ((List (S79))×Int):=if a1_0=1 then ((shape_Create.f l0 a1_1 a1_2 a1_3 a1_4 a1_5).bind fun bt2=>(some (bt2.1,bt2.2))) else (if a1_0=2 then ((shape_Limit.f l0 a1_1 a1_3 a1_4 a1_5 a2).bind fun bt6=>(some (bt6.1,bt6.2))) else (if a1_0=3 then ((shape_Move.f k l0 a1_1 a1_2 a2).bind fun bt10=>(some (bt10.1,bt10.2))) else (if a1_0=4 then ((shape_Delete.f k l0 a1_1 a2).bind fun bt14=>(some (bt14.1,bt14.2))) else (some (([]:List (S79)),1)))))
theorem shape_Do.mono: ∀a0 a1 a2 a3 a4 a5 a6 a7 k,LeO (shape_Do.f k a0 a1 a2 a3 a4 a5 a6 a7) (shape_Do.f (k+1) a0 a1 a2 a3 a4 a5 a6 a7):=by
 intro a0 a1 a2 a3 a4 a5 a6 a7 k;unfold shape_Do.f
 repeat' first
  |(with_reducible exact shape_Delete.mono _ _ _ _)
  |(with_reducible exact shape_Move.mono _ _ _ _ _)
  |(with_reducible exact LeO.refl _)
  |(with_reducible exact LeO.none _)
  |(with_reducible refine LeO.ite ?_ ?_)
  |(with_reducible refine LeO.bind ?_ (fun _=> ?_))
  |exact shape_Delete.mono _ _ _ _
  |exact shape_Move.mono _ _ _ _ _
  |exact LeO.none _
  |refine LeO.ite ?_ ?_
  |refine LeO.bind ?_ (fun _=> ?_)
def Kept (b:Nat) (W w:World):Prop:=(∀g ob,g≠b→W.heap[g]?=some ob→w.heap[g]?=some ob)∧W.heap.size≤w.heap.size
def trial_try.l0:Nat→List (S76)→Int→List (S79)→Int→Option ((List (S79))×Int×Int)
 |0,_,_,_,_=>none
 |k+1,ss,x,lc,dc=>if x<(ss.length:Int) then (if 0≤x then ((shape_Do.f k lc (rd_T76 ss x).f0 (rd_T76 ss x).f1 (rd_T76 ss x).f2 (rd_T76 ss x).f3.f0 (rd_T76 ss x).f3.f1 (rd_T76 ss x).f3.f2 (-1)).bind fun bt7=>if bt7.2=0 then trial_try.l0 k ss (wrap64 (x+1)) bt7.1 (wrap64 (dc+1)) else some (lc,dc,bt7.2)) else none) else some (lc,dc,0)
theorem trial_try.mono_l: ∀k y0 y1 y2 y3,LeO (trial_try.l0 k y0 y1 y2 y3) (trial_try.l0 (k+1) y0 y1 y2 y3)
  |0=>fun _ _ _ _ r h=>by simp [trial_try.l0] at h
  | k + 1 => by
    have ih0:=trial_try.mono_l k;intro y0 y1 y2 y3;unfold trial_try.l0
    repeat' first
      |(with_reducible exact ih0 _ _ _ _)
      |(with_reducible exact shape_Do.mono _ _ _ _ _ _ _ _ _)
      |(with_reducible exact LeO.refl _)
      |(with_reducible exact LeO.none _)
      |(with_reducible refine LeO.ite ?_ ?_)
      |(with_reducible refine LeO.bind ?_ (fun _=> ?_))
theorem eqA79 (d:Nat) (w:World) (x0 y0:ByteArray) (x1 y1:ByteArray) (x2 y2:Int) (x3 y3:Int) (x4 y4:Int) (x5 y5:Int) (x6 y6:Int) (x7 y7:Int) (x8 y8:Int) (x9 y9:Int) (x10 y10:Int) (x11 y11:Int):
  (Op.equalIn (d+3) 79 (.agg #[.string x0, .string x1, .int .i64 x2, .int .i64 x3, .int .i64 x4, .int .i64 x5, .int .i64 x6, .int .i64 x7, .int .i64 x8, .int .i64 x9, .int .i64 x10, .int .i64 x11]) (.agg #[.string y0, .string y1, .int .i64 y2, .int .i64 y3, .int .i64 y4, .int .i64 y5, .int .i64 y6, .int .i64 y7, .int .i64 y8, .int .i64 y9, .int .i64 y10, .int .i64 y11])).run Try.prog w= .ok (x0.toList==y0.toList && (x1.toList==y1.toList && ((x2==y2 && (x3==y3 && (x4==y4))) && ((x5==y5 && (x6==y6 && (x7==y7))) && ((x8==y8 && (x9==y9 && (x10==y10))) && (x11==y11)))))) w:=by
 refine eqA_of Try.underlying79 (by kernel_rfl) ?_;refine eqf_cons (by rfl) (by go_simp;rfl) (by go_simp;rfl) (by go_simp) ?_;refine eqf_cons (by rfl) (by go_simp;rfl) (by go_simp;rfl) (by go_simp) ?_;refine eqf_cons (by rfl) (by go_simp) (by go_simp) (eqA37 (d+0) w _ _ _ _ _ _) ?_;refine eqf_cons (by rfl) (by go_simp) (by go_simp) (eqA37 (d+0) w _ _ _ _ _ _) ?_;refine eqf_cons (by rfl) (by go_simp) (by go_simp) (eqA37 (d+0) w _ _ _ _ _ _) ?_;exact eqf_last (by rfl) (by go_simp;rfl) (by go_simp;rfl) (by go_simp)
attribute [local go_sem high] eqA79
end Go.Proofs.Ytahidkjncljkaaa.Print

namespace Go.Proofs.Ytahidkjncljkaaa.Print
open Go.RowKit Go.Proofs.YtahidkjncljkaaaW.PrintWords Go.Proofs.YtahidkjncljkaaaW.PrintLast Go.Proofs.YtahidkjncljkaaaW.PrintMore
end Go.Proofs.Ytahidkjncljkaaa.Print

namespace Go.Proofs.Ytahidkjncljkaaa.Print
open Go.RowKit Go.Proofs.YtahidkjncljkaaaW.PrintWords Go.Proofs.YtahidkjncljkaaaW.PrintLast Go.Proofs.YtahidkjncljkaaaW.PrintMore
attribute [local go_sem] max2_int min2_int max_two min_two max_three min_three max_four min_four

end Go.Proofs.Ytahidkjncljkaaa.Print

namespace Go.Proofs.Ytahidkjncljkaaa.Print
open Go.RowKit Go.Proofs.YtahidkjncljkaaaW.PrintWords Go.Proofs.YtahidkjncljkaaaW.PrintLast Go.Proofs.YtahidkjncljkaaaW.PrintMore
end Go.Proofs.Ytahidkjncljkaaa.Print

namespace Go.Proofs.Ytahidkjncljkaaa.Print
open Go.RowKit Go.Proofs.YtahidkjncljkaaaW.PrintWords Go.Proofs.YtahidkjncljkaaaW.PrintLast Go.Proofs.YtahidkjncljkaaaW.PrintMore
attribute [local go_sem] max2_int min2_int max_two min_two max_three min_three max_four min_four

end Go.Proofs.Ytahidkjncljkaaa.Print

namespace Go.Proofs.Ytahidkjncljkaaa.Print
open Go.RowKit Go.Proofs.YtahidkjncljkaaaW.PrintWords Go.Proofs.YtahidkjncljkaaaW.PrintLast Go.Proofs.YtahidkjncljkaaaW.PrintMore
end Go.Proofs.Ytahidkjncljkaaa.Print

namespace Go.Proofs.Ytahidkjncljkaaa.Print
open Go.RowKit Go.Proofs.YtahidkjncljkaaaW.PrintWords Go.Proofs.YtahidkjncljkaaaW.PrintLast Go.Proofs.YtahidkjncljkaaaW.PrintMore
attribute [local go_sem] max2_int min2_int max_two min_two max_three min_three max_four min_four

attribute [local go_sem high] eqA37
end Go.Proofs.Ytahidkjncljkaaa.Print

namespace Go.Proofs.Ytahidkjncljkaaa.Print
open Go.RowKit Go.Proofs.YtahidkjncljkaaaW.PrintWords Go.Proofs.YtahidkjncljkaaaW.PrintLast Go.Proofs.YtahidkjncljkaaaW.PrintMore
end Go.Proofs.Ytahidkjncljkaaa.Print

namespace Go.Proofs.Ytahidkjncljkaaa.Print
open Go.RowKit Go.Proofs.YtahidkjncljkaaaW.PrintWords Go.Proofs.YtahidkjncljkaaaW.PrintLast Go.Proofs.YtahidkjncljkaaaW.PrintMore
attribute [local go_sem] max2_int min2_int max_two min_two max_three min_three max_four min_four

end Go.Proofs.Ytahidkjncljkaaa.Print

namespace Go.Proofs.Ytahidkjncljkaaa.Print
open Go.RowKit Go.Proofs.YtahidkjncljkaaaW.PrintWords Go.Proofs.YtahidkjncljkaaaW.PrintLast Go.Proofs.YtahidkjncljkaaaW.PrintMore
end Go.Proofs.Ytahidkjncljkaaa.Print

namespace Go.Proofs.Ytahidkjncljkaaa.Print
open Go.RowKit Go.Proofs.YtahidkjncljkaaaW.PrintWords Go.Proofs.YtahidkjncljkaaaW.PrintLast Go.Proofs.YtahidkjncljkaaaW.PrintMore
attribute [local go_sem] max2_int min2_int max_two min_two max_three min_three max_four min_four

end Go.Proofs.Ytahidkjncljkaaa.Print

namespace Go.Proofs.Ytahidkjncljkaaa.Print
open Go.RowKit Go.Proofs.YtahidkjncljkaaaW.PrintWords Go.Proofs.YtahidkjncljkaaaW.PrintLast Go.Proofs.YtahidkjncljkaaaW.PrintMore
end Go.Proofs.Ytahidkjncljkaaa.Print

namespace Go.Proofs.Ytahidkjncljkaaa.Print
open Go.RowKit Go.Proofs.YtahidkjncljkaaaW.PrintWords Go.Proofs.YtahidkjncljkaaaW.PrintLast Go.Proofs.YtahidkjncljkaaaW.PrintMore
attribute [local go_sem] max2_int min2_int max_two min_two max_three min_three max_four min_four

end Go.Proofs.Ytahidkjncljkaaa.Print

namespace Go.Proofs.Ytahidkjncljkaaa.Print
open Go.RowKit Go.Proofs.YtahidkjncljkaaaW.PrintWords Go.Proofs.YtahidkjncljkaaaW.PrintLast Go.Proofs.YtahidkjncljkaaaW.PrintMore
end Go.Proofs.Ytahidkjncljkaaa.Print

namespace Go.Proofs.Ytahidkjncljkaaa.Print
open Go.RowKit Go.Proofs.YtahidkjncljkaaaW.PrintWords Go.Proofs.YtahidkjncljkaaaW.PrintLast
def idle (x:Item):Item:=⟨x.f0,x.f1,x.f2,⟨0,0,0⟩,⟨0,0,0⟩,x.f5⟩
structure St (t:List Item) (v m:Nat) (A:ByteArray→Option ByteArray):Prop where
 right:RightP t
 idle: ∀x∈t,x.f3=⟨0,0,0⟩∧x.f4=⟨0,0,0⟩
 ver: ∀x∈t,x.f5≤v
 len:t.length≤m
 par: ∀n,(look t n).map (·.f1)=A n
theorem St.some {t:List Item} {v m:Nat} {A:ByteArray→Option ByteArray} (S:St t v m A) {n p:ByteArray} (h:A n=some p): ∃x,look t n=some x∧x.f1=p:=by
  have:=S.par n
  rw [h] at this
  cases e:look t n with
  |none=>rw [e] at this;cases this
  | some x =>
    rw [e] at this;exact ⟨x,rfl,Option.some.inj this⟩
theorem St.none {t:List Item} {v m:Nat} {A:ByteArray→Option ByteArray} (S:St t v m A) {n:ByteArray} (h:A n=none):look t n=none:=by
 have:=S.par n
 rw [h] at this
 cases e:look t n with
 |none=>rfl
 |some x=>rw [e] at this;cases this
theorem St.le {t:List Item} {v m v' m':Nat} {A:ByteArray→Option ByteArray} (S:St t v m A) (h:v≤v') (k:m≤m'):St t v' m' A:=⟨S.right,S.idle,fun x hx=>by have:=S.ver x hx;omega,by have:=S.len;omega,S.par⟩
theorem St.congr {t:List Item} {v m:Nat} {A B:ByteArray→Option ByteArray} (S:St t v m A) (h: ∀n,A n=B n):St t v m B:=⟨S.right,S.idle,S.ver,S.len,fun n=>(S.par n).trans (h n)⟩
theorem zero_le {v:Vec} (h:MayP v):LeP (⟨0,0,0⟩:Vec) v:=by
 obtain ⟨a,b,c⟩:=v;rw [mayP_iff] at h;rw [leP_iff]
 omega
structure TopOK (top:List Want):Prop where
 nodup:(top.map (·.f0)).Nodup
 par: ∀(pre post:List Want) (w:Want),top=pre++w::post→w.f1=⟨#[]⟩∨ ∃u∈pre,u.f0=w.f1
 may: ∀w∈top,(w.f0≠⟨#[]⟩∧w.f0.size≤24)∧MayP w.f2
def A0 (l:List Item) (n:ByteArray):Option ByteArray:=(look l n).map (·.f1)
section
variable {l:List Item} {top:List Want}
end
theorem befG_iff {l:List Item} {n a:ByteArray}:befG l n a=true↔depU l n<depU l a∨(depU l a=depU l n∧lt a n=true):=by unfold befG;simp
theorem befG_trans {l:List Item} {a b c:ByteArray} (h:befG l b a=true) (k:befG l c b=true):befG l c a=true:=by
  rw [befG_iff] at h k ⊢
  rcases h with h|⟨h,h'⟩<;>rcases k with k|⟨k,k'⟩
  · exact .inl (by omega)
  · exact .inl (by omega)
  · exact .inl (by omega)
  exact .inr ⟨by omega,lt_trans h' k'⟩
theorem befG_total {l:List Item} {a n:ByteArray} (h:befG l n a=false) (hn:a≠n):befG l a n=true:=by
  rw [←Bool.not_eq_true,befG_iff] at h;rw [befG_iff];by_cases e:depU l a=depU l n;rotate_left
  · exact .inl (by have: ¬depU l n<depU l a:=fun q=>h (.inl q);omega)
  refine .inr ⟨e.symm,lt_total ?_ hn⟩;rw [←Bool.not_eq_true];exact fun q=>h (.inr ⟨e,q⟩)
theorem insG_perm (l:List Item) (n:ByteArray) (out:List ByteArray):(insG l n out).Perm (n::out):=by
 unfold insG;have:=List.perm_middle (a:=n) (l₁:=out.takeWhile (befG l n)) (l₂:=out.dropWhile (befG l n))
 rwa [List.takeWhile_append_dropWhile] at this
def goneN (ws:List Want) (ms:List PMark):List ByteArray:=(ms.filter (fun m=> !isWant ws m.f0)).map (·.f0)
theorem goesGo_perm (ws:List Want) (l:List Item): ∀(ms:List PMark) (out:List ByteArray),(goesGo ws l out ms).Perm (out++goneN ws ms)
  |[],out=>by rw [goesGo];show List.Perm out (out++ []);rw [List.append_nil]
  | m :: ms, out => by
    rw [goesGo];by_cases c:isWant ws m.f0=true
    · rw [if_pos c]
      have:goneN ws (m::ms)=goneN ws ms:=by unfold goneN;rw [List.filter_cons_of_neg (by rw [c];simp)]
      rw [this]
      exact goesGo_perm ws l ms out
    rw [if_neg c];have:goneN ws (m::ms)=m.f0::goneN ws ms:=by unfold goneN;rw [List.filter_cons_of_pos (by rw [Bool.eq_false_iff.2 c];rfl)];rfl
    rw [this];refine (goesGo_perm ws l ms _).trans (((insG_perm l m.f0 out).append_right _).trans ?_);exact List.perm_middle.symm
end Go.Proofs.Ytahidkjncljkaaa.Print

namespace Go.Proofs.Ytahidkjncljkaaa.Print
open Go.RowKit Go.Proofs.YtahidkjncljkaaaW.PrintWords Go.Proofs.YtahidkjncljkaaaW.PrintLast Go.Proofs.YtahidkjncljkaaaW.PrintMore
theorem mx_zero {a:Int} (h:0≤a):mx 0 a=a:=by unfold mx;split<;>omega
theorem mx3 {a b:Int} (h:0≤b):mx (mx 0 a) b=mx a b:=by unfold mx;repeat' split<;>omega
theorem nowG_eq {l:List Item} (wide:Bool) {y:Want} (h:MayP y.f2):nowG wide (goalOf l y)=upV l wide y:=by
  have h0:=(mayP_iff.1 h).1.1;have h1:=(mayP_iff.1 h).2.1.1;have h2:=(mayP_iff.1 h).2.2.1;unfold nowG upV
  cases wide with
  |true=>rfl
  | false =>
    rw [if_neg (by simp),if_neg (by simp)];unfold goalOf
    cases look l y.f0 with
    | none =>
      show (⟨mx (mx 0 0) y.f2.f0,mx (mx 0 0) y.f2.f1,mx (mx 0 0) y.f2.f2⟩:Vec)=y.f2
      rw [mx3 h0,mx3 h1,mx3 h2,mx_zero h0,mx_zero h1,mx_zero h2]
    | some x =>
      show (⟨mx (mx 0 x.f2.f0) y.f2.f0,mx (mx 0 x.f2.f1) y.f2.f1,mx (mx 0 x.f2.f2) y.f2.f2⟩:Vec)=_
      rw [mx3 h0,mx3 h1,mx3 h2]
theorem bq (a b:Int):(a==b)=(b==a):=by
 rw [Bool.eq_iff_iff,beq_iff_eq,beq_iff_eq];exact ⟨Eq.symm,Eq.symm⟩
theorem neG_neV (a b:Vec):neG a b=neV b a:=by
 unfold neG neV;rw [show (a.f0==b.f0)=(b.f0==a.f0) from bq _ _,show (a.f1==b.f1)=(b.f1==a.f1) from bq _ _,show (a.f2==b.f2)=(b.f2==a.f2) from bq _ _]
theorem upG_f (l:List Item) (wide:Bool) (y:Want):(upG wide (goalOf l y)).f0=y∧(upG wide (goalOf l y)).f1=(goalOf l y).f1∧(upG wide (goalOf l y)).f2=(goalOf l y).f2∧(goalOf l y).f0=y:=by
 have:(goalOf l y).f0=y:=by unfold goalOf;split<;>rfl
 exact ⟨this,rfl,rfl,this⟩
theorem raise_eq {l:List Item} (wide:Bool) {y:Want} (h:MayP y.f2):raiseG wide (goalOf l y)=raiseS l wide y:=by
 have e:=nowG_eq (l:=l) wide h;have q: ∀z:PGoal,raiseG wide z=if z.f2=false then [⟨1,z.f0.f0,z.f0.f1,nowG wide z⟩] else if neG (nowG wide z) z.f1.f2=true then [⟨2,z.f0.f0,⟨#[]⟩,nowG wide z⟩] else []:=fun z=>rfl
 rw [q,e,neG_neV,(upG_f l wide y).2.2.2];unfold raiseS goalOf
 cases look l y.f0 with
 |none=>exact if_pos rfl
 |some x=>exact if_neg (by simp)
theorem move_eq {l:List Item} (wide:Bool) (y:Want):moveG (upG wide (goalOf l y))=moveS l y:=by
  have q: ∀z:PGoal,moveG (upG wide z)=if z.f2=true∧z.f1.f1.toList≠z.f0.f1.toList then [⟨3,z.f0.f0,z.f0.f1,⟨0,0,0⟩⟩] else []:=fun z=>rfl
  rw [q,(upG_f l wide y).2.2.2];unfold moveS goalOf
  cases look l y.f0 with
  |none=>exact if_neg (by simp [gzero])
  | some x =>
    dsimp only;by_cases c:x.f1=y.f1
    · rw [if_pos c,if_neg (by rw [c];simp)]
    rw [if_neg c,if_pos ⟨rfl,nm_ne.2 c⟩]
theorem lower_eq {l:List Item} (wide:Bool) {y:Want} (h:MayP y.f2):lowerG (upG wide (goalOf l y))=lowerS l wide y:=by
 have q: ∀z:PGoal,lowerG (upG wide z)=if neG (nowG wide z) z.f0.f2=true then [⟨2,z.f0.f0,⟨#[]⟩,z.f0.f2⟩] else []:=fun z=>rfl
 rw [q,nowG_eq wide h,neG_neV,(upG_f l wide y).2.2.2];unfold lowerS;rw [show neV y.f2 (upV l wide y)=neV (upV l wide y) y.f2 from Bool.eq_iff_iff.2 (by rw [neV_iff,neV_iff];exact ⟨fun a b=>a b.symm,fun a b=>a b.symm⟩)]
theorem wide_eq (l:List Item) (ms:List PMark): ∀(ys:List Want) (b:Bool),wideP l ms b ys=wideGo l ms b ys
  |[],b=>rfl
  | y :: ys, b => by
    have q:(ms.any (fun m=>m.f0.toList==y.f0.toList))=(mlook ms y.f0).isSome:=by
      unfold mlook;rw [List.isSome_find?]
      congr 1
      funext m
      exact nm_beq _ _
    unfold wideP wideGo badW wideOf;rw [q,wide_eq l ms ys]
    cases look l y.f0 with
    |none=>rw [if_neg (by simp)];dsimp only;rw [Bool.or_false]
    | some x =>
      dsimp only
      cases mlook ms y.f0 with
      |none=>rw [if_pos (by simp),if_pos rfl]
      | some m =>
        rw [if_neg (by simp),if_neg (by simp)];rw [show (x.f1.toList !=y.f1.toList)= !decide (x.f1=y.f1) from by unfold bne;rw [nm_beq]]
theorem flat_congr {α β:Type} {f g:α→List β}: ∀{l:List α},(∀x∈l,f x=g x)→l.flatMap f=l.flatMap g
  |[],_=>rfl
  | x :: l, h => by
    rw [List.flatMap_cons,List.flatMap_cons,h x (by simp),flat_congr fun y hy=>h y (List.mem_cons_of_mem _ hy)]
theorem befG_asym {l:List Item} {a b:ByteArray} (h:befG l a b=true):befG l b a=false:=by
  rw [←Bool.not_eq_true]
  intro k
  rw [befG_iff] at h k
  rcases h with h|⟨h,h'⟩<;>rcases k with k|⟨k,k'⟩
  · omega
  · omega
  · omega
  exact absurd (lt_trans h' k') (by rw [lt_irrefl];simp)
theorem befG_neg {l:List Item} {a b c:ByteArray} (h:befG l a b=false) (k:befG l b c=false):befG l a c=false:=by
  rw [←Bool.not_eq_true];intro q;by_cases e:b=a
  · subst e;rw [q] at k;cases k
  have h1:=befG_total h e;have h2:=befG_trans q h1;rw [h2] at k;cases k
theorem insG_weak {l:List Item} {n:ByteArray}: ∀{out:List ByteArray},out.Pairwise (fun a b=>befG l a b=false)→(insG l n out).Pairwise (fun a b=>befG l a b=false)
  |[],h=>by simp [insG]
  | x :: out, h => by
    rw [List.pairwise_cons] at h;unfold insG;rw [List.takeWhile_cons,List.dropWhile_cons];by_cases c:befG l n x=true
    · rw [c]
      show (x::insG l n out).Pairwise _
      rw [List.pairwise_cons]
      refine ⟨fun a ha=> ?_,insG_weak h.2⟩
      rcases List.mem_cons.1 ((insG_perm l n out).mem_iff.1 ha) with rfl|ha
      · exact befG_asym c
      exact h.1 a ha
    rw [Bool.eq_false_iff.2 c]
    show (n::x::out).Pairwise _
    rw [List.pairwise_cons,List.pairwise_cons];refine ⟨fun a ha=> ?_,h⟩
    rcases List.mem_cons.1 ha with rfl|ha
    · exact Bool.eq_false_iff.2 c
    exact befG_neg (Bool.eq_false_iff.2 c) (h.1 a ha)
theorem goesGo_weak (ws:List Want) (l:List Item): ∀(ms:List PMark) (out:List ByteArray),out.Pairwise (fun a b=>befG l a b=false)→(goesGo ws l out ms).Pairwise (fun a b=>befG l a b=false)
  |[],out,h=>by rw [goesGo];exact h
  | m :: ms, out, h => by
    rw [goesGo];by_cases c:isWant ws m.f0=true
    · rw [if_pos c];exact goesGo_weak ws l ms out h
    rw [if_neg c];exact goesGo_weak ws l ms _ (insG_weak h)
theorem drop_eq (l:List Item) (wide:Bool) (ws:List Want): ∀ms:List PMark,dropN (((topR ws).map (goalOf l)).map (upG wide)) ms=goneN ws ms
  |[]=>rfl
  | m :: ms => by
    have q:hasG (((topR ws).map (goalOf l)).map (upG wide)) m=isWant ws m.f0:=by
      unfold hasG isWant;rw [List.any_map,List.any_map,Bool.eq_iff_iff,List.any_eq_true,List.any_eq_true]
      constructor
      · rintro ⟨y, hy, e⟩
        refine ⟨y,(topR_perm ws).mem_iff.1 hy, ?_⟩
        have e2:(y.f0.toList==m.f0.toList)=true:=by rw [←(upG_f l wide y).1];exact e
        rwa [nm_beq] at e2
      rintro ⟨y,hy,e⟩;refine ⟨y,(topR_perm ws).mem_iff.2 hy, ?_⟩
      show ((upG wide (goalOf l y)).f0.f0.toList==m.f0.toList)=true
      rw [(upG_f l wide y).1,nm_beq];exact e
    show (if hasG _ m=true then dropN _ ms else m.f0::dropN _ ms)=_
    rw [q,drop_eq l wide ws ms];unfold goneN;by_cases c:isWant ws m.f0=true
    · rw [if_pos c,List.filter_cons_of_neg (by rw [c];simp)]
    rw [if_neg c,List.filter_cons_of_pos (by rw [Bool.eq_false_iff.2 c];rfl)];rfl
theorem gone_eq {l:List Item} {wide:Bool} {ws:List Want} {ms:List PMark} {ns:List ByteArray} (h:GoneIs (((topR ws).map (goalOf l)).map (upG wide)) ms l ns):ns=goesR ws ms l:=by
  obtain ⟨h1,h2⟩:=h;rw [drop_eq] at h1;have k1:(goesR ws ms l).Perm (goneN ws ms):=(goesGo_perm ws l ms []).trans (by rw [List.nil_append]);have k2:=goesGo_weak ws l ms [] List.Pairwise.nil;refine List.Perm.eq_of_pairwise (le:=fun a b=>befG l a b=false) ?_ ?_ k2 (h1.trans k1.symm)
  · intro a b _ _ hab hba
    by_cases e:a=b
    · exact e
    have:=befG_total hba e
    rw [hab] at this;cases this
  refine h2.imp ?_;intro a b hab;rw [←Bool.not_eq_true];intro q;refine hab (cmpW_neg.2 ?_);rw [befG_iff] at q;unfold depN
  rcases q with q|⟨q,q'⟩
  · exact .inl (by omega)
  exact .inr ⟨by omega,q'⟩
theorem gone_is (l:List Item) (wide:Bool) (ws:List Want) (ms:List PMark):GoneIs (((topR ws).map (goalOf l)).map (upG wide)) ms l (goesR ws ms l):=by
  refine ⟨?_, ?_⟩
  · rw [drop_eq]
    exact (goesGo_perm ws l ms []).trans (by rw [List.nil_append])
  refine (goesGo_weak ws l ms [] List.Pairwise.nil).imp ?_;intro a b hab q;rw [←Bool.not_eq_true] at hab;refine hab (befG_iff.2 ?_);have q:=cmpW_neg.1 q;unfold depN at q
  rcases q with q|⟨q,q'⟩
  · exact .inl (by omega)
  exact .inr ⟨by omega,q'⟩
theorem mayW_may {y:Want} (h:mayW y=true):MayP y.f2:=by
 unfold mayW at h;exact (of_decide_eq_true h).2
theorem plan_is {ws:List Want} {ms:List PMark} {l:List Item} (r:List PStep) (e:Int):PlanIs ws (topR ws) ms l r e↔(r,e)=planR ws ms l:=by
  unfold PlanIs planR;by_cases hz:checkR ws=0;rotate_left
  · rw [if_neg hz, if_neg hz]
    exact ⟨fun ⟨a,b⟩=>by rw [a,b],fun h=>by injection h with a b;exact ⟨a,b⟩⟩
  rw [if_pos hz,if_pos hz,wide_eq];have T:=checkR_tree (.inl hz);have hm: ∀y∈topR ws,MayP y.f2:=fun y hy=>mayW_may (T.may y ((topR_perm ws).mem_iff.1 hy))
  cases wideGo l ms false (topR ws) with
  |none=>exact ⟨fun ⟨a,b⟩=>by rw [a,b],fun h=>by injection h with a b;exact ⟨a,b⟩⟩
  | some wide =>
    dsimp only
    have e1:((topR ws).map (goalOf l)).flatMap (raiseG wide)=(topR ws).flatMap (raiseS l wide):=by
      rw [List.flatMap_map];exact flat_congr fun y hy=>raise_eq wide (hm y hy)
    have e2:(((topR ws).map (goalOf l)).map (upG wide)).flatMap moveG=(topR ws).flatMap (moveS l):=by
      rw [List.flatMap_map,List.flatMap_map];exact flat_congr fun y hy=>move_eq wide y
    have e3:(((topR ws).map (goalOf l)).map (upG wide)).reverse.flatMap lowerG=(topR ws).reverse.flatMap (lowerS l wide):=by
      rw [←List.map_reverse,←List.map_reverse,List.flatMap_map,List.flatMap_map];exact flat_congr fun y hy=>lower_eq wide (hm y (List.mem_reverse.1 hy))
    rw [e1,e2,e3]
    constructor
    · rintro ⟨rfl, ns, hg, rfl⟩
      rw [gone_eq hg]
    intro h;injection h with a b;exact ⟨b,_,gone_is l wide ws ms,a⟩
theorem plan_Steps_ev {ws:List Want} {ms:List PMark} {l:List Item} (hs:smallW ws) (hl:l.length<10000) (hm:ms.length<10000):plan_Steps.f ws ms l=some (planR ws ms l):=by
 have hx:(smallW ws∧l.length<10000∧ms.length<10000)∧ ∃p:List PStep×Int,PlanIs ws (topR ws) ms l p.1 p.2∧ ∀q:List PStep×Int,PlanIs ws (topR ws) ms l q.1 q.2→q=p:=
  ⟨⟨hs,hl,hm⟩,planR ws ms l,(plan_is _ _).2 rfl,fun q hq=>(plan_is q.1 q.2).1 hq⟩
 unfold plan_Steps.f;rw [dif_pos hx];have:=hx.2.choose_spec.1
 rw [plan_is] at this;exact congrArg some this
def creS (w:Want):PStep:=⟨1,w.f0,w.f1,w.f2⟩
theorem wide_nil (ms:List PMark): ∀ys:List Want,wideGo [] ms false ys=some false
 |[]=>rfl
 |y::ys=>wide_nil ms ys
theorem plan_fresh {ws:List Want} (h:checkR ws=0):planR ws [] []=((topR ws).map creS,0):=by
 unfold planR;rw [if_pos h,wide_nil];dsimp only
 have e1:(topR ws).flatMap (raiseS [] false)=(topR ws).map creS:=by
  rw [List.map_eq_flatMap]
  rfl
 have e2:(topR ws).flatMap (moveS [])=[]:=by
  rw [List.flatMap_eq_nil_iff];intro y _
  rfl
 have e3:(topR ws).reverse.flatMap (lowerS [] false)=[]:=by
  rw [List.flatMap_eq_nil_iff];intro y _;exact if_neg (by rw [show upV [] false y=y.f2 from rfl,neV_iff];simp)
 rw [e1,e2,e3]
 show (_++_++_++List.map delS [],0)=_
 rw [List.map_nil,List.append_nil,List.append_nil,List.append_nil]
def exS:List Want:=[⟨⟨#[97]⟩,⟨#[]⟩,⟨0,0,0⟩⟩]
theorem exS_small:smallW exS:=by
 intro w hw;unfold exS at hw;simp only [List.mem_cons,List.not_mem_nil,or_false] at hw;subst hw;exact ⟨by decide,by decide⟩
theorem awake18:law18_awake.f=some true:=by
 have h1:=(plan_Steps_ev (ws:=exS) (ms:=[]) (l:=[]) exS_small (by decide) (by decide)).trans (congrArg some (plan_fresh (ws:=exS) (by decide)));have h2:=(plan_Steps_ev (ws:=[]) (ms:=[]) (l:=[]) nil_small (by decide) (by decide)).trans (congrArg some (plan_fresh (ws:=[]) (by decide)));rw [show topR exS=exS from by kernel_rfl] at h1;rw [show topR []=[] from rfl] at h2;unfold law18_awake.f;rw [show exS=[⟨⟨#[97]⟩,⟨#[]⟩,⟨0,0,0⟩⟩] from rfl] at h1;rw [h1,h2];refine Eq.trans (b:=some true) ?_ rfl
 kernel_rfl
theorem awake18_ev:Ev (fun _=>(law18_awake.f).bind fun t=>some t) true:=by
 rw [awake18];exact Ev.const rfl
def zzN:ByteArray:=⟨#[122,122]⟩
def markI (x:Item):PMark:=⟨x.f0,x.f1,x.f2,x.f5⟩
structure LiveM (l:List Item) (m:List PMark):Prop where
 len:m.length≤l.length+1
 nodup:(m.map (·.f0)).Nodup
 mem: ∀x∈m,x.f0=zzN∨ ∃y∈l,x=markI y
theorem live_l0N {l:List Item} (hl:l.length≤1000) (hn:(l.map (·.f0)).Nodup) (hz: ∀x∈l,x.f0≠zzN) (a:Int): ∀(d i:Nat) (m0:List PMark),l.length - i=d→i≤l.length→m0.length≤i→(m0.map (·.f0)).Nodup→(∀x∈m0,∃y∈l.take i,x=markI y)→ ∃m,LiveM l m∧Ev (fun k=>law18_Live.l0 k a l m0 (i:Int)) (m,l)
  | 0, i, m0, hd, hi, hm, h1, h2 => by
    obtain rfl:i=l.length:=by omega
    rw [List.take_length] at h2;by_cases c:Int.tmod a 5=0;rotate_left
    · exact ⟨m0,⟨by omega,h1,fun x hx=> .inr (h2 x hx)⟩,Ev.step (fun k=>law18_Live.l0.eq_2 (k:=k) ..) (Ev.congr (fun k=>by rw [if_neg (by omega),if_neg c]) (Ev.now _))⟩
    refine ⟨m0++ [⟨⟨#[122,122]⟩,⟨#[]⟩,⟨0,0,0⟩,1⟩],⟨by rw [List.length_append,List.length_singleton];omega, ?_, ?_⟩,Ev.step (fun k=>law18_Live.l0.eq_2 (k:=k) ..) (Ev.congr (fun k=>by rw [if_neg (by omega),if_pos c,if_pos (by omega)]) (Ev.now _))⟩;rotate_left
    · intro x hx
      rcases List.mem_append.1 hx with hx|hx
      · exact .inr (h2 x hx)
      rw [List.mem_singleton] at hx
      exact .inl (by rw [hx];rfl)
    rw [List.map_append,List.map_cons,List.map_nil,List.nodup_append];refine ⟨h1,by simp,fun x hx y hy=> ?_⟩;obtain ⟨q,hq,rfl⟩:=List.mem_map.1 hx;obtain ⟨z,hz1,e⟩:=h2 q hq;rw [List.mem_singleton] at hy;rw [hy,e];exact hz z hz1
  | d + 1, i, m0, hd, hi, hm, h1, h2 => by
    have hlt:i<l.length:=by omega
    have e1:wrap64 ((i:Int)+1)=((i+1:Nat):Int):=by rw [w64 (by omega) (by omega)];rfl
    have ht: ∀x∈m0,∃y∈l.take (i+1),x=markI y:=fun x hx=>by
      obtain ⟨y,hy,e⟩:=h2 x hx;exact ⟨y,by rw [List.take_succ_eq_append_getElem hlt];exact List.mem_append_left _ hy,e⟩
    by_cases c:Int.tmod (wrap64 ((i:Int)+wrap64 a)) 4>0;rotate_left
    · obtain ⟨m, k1, k2⟩ := live_l0N hl hn hz a d (i + 1) m0 (by omega) (by omega) (by omega) h1 ht
      exact ⟨m,k1,Ev.step (fun k=>law18_Live.l0.eq_2 (k:=k) ..) (Ev.congr (fun k=>by rw [if_pos (by omega),if_neg c,e1]) k2)⟩
    obtain ⟨m,k1,k2⟩:=live_l0N hl hn hz a d (i+1) (m0++ [markI l[i]]) (by omega) (by omega) (by rw [List.length_append,List.length_singleton];omega) (by
      rw [List.map_append,List.map_cons,List.map_nil,List.nodup_append];refine ⟨h1,by simp,fun x hx y hy=> ?_⟩;obtain ⟨q,hq,rfl⟩:=List.mem_map.1 hx;obtain ⟨z,hz1,e⟩:=h2 q hq;rw [List.mem_singleton] at hy;rw [hy,e];intro q;have q:z.f0=l[i].f0:=q;rw [←List.take_append_drop i l,List.drop_eq_getElem_cons hlt,List.map_append,List.nodup_append] at hn;refine hn.2.2 z.f0 (List.mem_map_of_mem hz1) l[i].f0 ?_ q;rw [List.map_cons];exact List.mem_cons_self) (fun x hx=>by
      rcases List.mem_append.1 hx with hx|hx
      · exact ht x hx
      rw [List.mem_singleton] at hx;exact ⟨l[i],by rw [List.take_succ_eq_append_getElem hlt];exact List.mem_append_right _ (List.mem_singleton.2 rfl),hx⟩)
    refine ⟨m,k1,Ev.step (fun k=>law18_Live.l0.eq_2 (k:=k) ..) (Ev.congr (fun k=>by rw [if_pos (by omega),if_pos c,if_pos (by omega),if_pos (by omega),e1,rd_itemN l hlt];rfl) k2)⟩
theorem liveM_ev {ns:List Int} {l:List Item} (hev:Ev (fun k=>law12_Make.f k ns) l) (M:MadeP l) (a:Int): ∃m,LiveM l m∧Ev (fun k=>law18_Live.f k ns a) (m,l):=by
 have hlen:=M.len
 obtain ⟨m,h1,h2⟩:=live_l0N (l:=l) (by omega) M.right.nodup (fun x hx e=>by
  obtain ⟨c,_,_,h⟩:=M.name x hx;rw [e] at h;have:=congrArg ByteArray.size h
  rw [show (one c).size=1 from strOfNums_size _] at this;exact absurd this (by decide)) a l.length 0 [] (by omega) (by omega) (by simp) (by simp) (by simp)
 refine ⟨m,h1, ?_⟩;unfold law18_Live.f;exact Ev.bind hev h2
theorem flat_lenP {α β:Type} (f:α→List β) (hf: ∀w,(f w).length≤1): ∀xs:List α,(xs.flatMap f).length≤xs.length
 |[]=>Nat.le_refl _
 |x::xs=>by rw [List.flatMap_cons,List.length_append,List.length_cons];have:=hf x;have:=flat_lenP f hf xs;omega
theorem plan_len (ws:List Want) (m:List PMark) (l:List Item) (wd:Bool):((((topR ws).flatMap (raiseS l wd)++(topR ws).flatMap (moveS l))++(topR ws).reverse.flatMap (lowerS l wd))++(goesR ws m l).map delS).length≤3*ws.length+m.length:=by
 have h1: ∀w,(raiseS l wd w).length≤1:=fun w=>by unfold raiseS;split<;>(try split)<;>simp
 have h2: ∀w,(moveS l w).length≤1:=fun w=>by unfold moveS;split<;>(try split)<;>simp
 have h3: ∀w,(lowerS l wd w).length≤1:=fun w=>by unfold lowerS;split<;>simp
 have g1:=flat_lenP _ h1 (topR ws);have g2:=flat_lenP _ h2 (topR ws);have g3:=flat_lenP _ h3 (topR ws).reverse;have g4:(goesR ws m l).length≤m.length:=by have:=len_goesGo ws l m [];rw [List.length_nil,Nat.zero_add] at this;exact this
 have hp:=(topR_perm ws).length_eq;rw [List.length_reverse] at g3;rw [List.length_append,List.length_append,List.length_append,List.length_map]
 omega
theorem same_stp_l0 (l:List PStep) (hl:l.length<1000000): ∀(d i:Nat),l.length - i=d→i≤l.length→Ev (fun k=>r16_SameSteps.l0 k l l i) true
  | 0, i, hd, hi => by
    refine Ev.step (fun k=>r16_SameSteps.l0.eq_2 (k:=k) ..) ?_;exact Ev.congr (fun k=>if_neg (by omega)) (Ev.now _)
  | d + 1, i, hd, hi => by
    refine Ev.step (fun k=>r16_SameSteps.l0.eq_2 (k:=k) ..) ?_;have e3:wrap64 ((i:Int)+1)=((i+1:Nat):Int):=by rw [w64 (by omega) (by omega)];rfl
    rw [e3];refine Ev.congr (fun k=>by rw [if_pos (by omega),if_pos (by omega),if_pos (by omega)]) ?_;refine Ev.congr (fun k=>if_neg (by simp)) (same_stp_l0 l hl d (i+1) (by omega) (by omega))
theorem same_stp (l:List PStep) (hl:l.length<1000000):Ev (fun k=>r16_SameSteps.f k l l) true:=by
 unfold r16_SameSteps.f;exact Ev.congr (fun k=>if_pos rfl) (same_stp_l0 l hl l.length 0 (by omega) (by omega))
end Go.Proofs.Ytahidkjncljkaaa.Print

namespace Go.Proofs.Ytahidkjncljkaaa.Print
open Go.RowKit Go.Proofs.YtahidkjncljkaaaW.PrintWords Go.Proofs.YtahidkjncljkaaaW.PrintLast
def upM (p:Nat→Bool):Nat→Bool
 |0=>true
 |n+1=>p n && upM p n
theorem upM_all {p:Nat→Bool}: ∀{n i:Nat},upM p n=true→i<n→p i=true
  | n + 1, i, h, hi => by
    unfold upM at h;rw [Bool.and_eq_true] at h;by_cases e:i=n
    · rw [e];exact h.1
    exact upM_all h.2 (by omega)
def nmM (i:Nat):ByteArray:=⟨#[UInt8.ofNat (97+(i*7) % 24)]⟩
theorem nmM_strs:upM (fun i=>decide (strOfNums [(wrap64 (97+(Int.tmod (wrap64 ((i:Int)*7)) 24))) % 256]=nmM i)) 24=true:=by kernel_rfl
theorem nmM_str {i:Nat} (h:i<24):strOfNums [(wrap64 (97+(Int.tmod (wrap64 ((i:Int)*7)) 24))) % 256]=nmM i:=by
 have:=upM_all nmM_strs h
 rwa [decide_eq_true_iff] at this
theorem nmM_injs:upM (fun i=>upM (fun j=>decide (nmM i≠nmM j∨i=j)) 24) 24=true:=by kernel_rfl
theorem nmM_inj {i j:Nat} (hi:i<24) (hj:j<24) (h:nmM i=nmM j):i=j:=by
 have a:upM (fun j=>decide (nmM i≠nmM j∨i=j)) 24=true:=upM_all (p:=fun i=>upM (fun j=>decide (nmM i≠nmM j∨i=j)) 24) nmM_injs hi;have:=upM_all a hj
 rw [decide_eq_true_iff] at this;exact this.resolve_left (fun q=>q h)
theorem nmM_ne (i:Nat):nmM i≠⟨#[]⟩:=fun h=>by
 have:=congrArg ByteArray.size h
 cases this
theorem nmM_size (i:Nat):(nmM i).size=1:=rfl
theorem sumGo_snoc (n:ByteArray) (w:Want): ∀(l:List Want) (v:Vec),sumGo n (l++ [w]) v=if w.f1=n then vadd (sumGo n l v) w.f2 else sumGo n l v
  |[],v=>by simp only [List.nil_append,sumGo]
  | x :: l, v => by
    rw [List.cons_append];unfold sumGo;exact sumGo_snoc n w l _
theorem sumGo_zero (n:ByteArray): ∀(l:List Want) (v:Vec),(∀x∈l,x.f1≠n)→sumGo n l v=v
  |[],v,_=>rfl
  | x :: l, v, h => by
    unfold sumGo;rw [if_neg (h x (by simp))];exact sumGo_zero n l v (fun y hy=>h y (by simp [hy]))
structure MkI (c:Bool) (l:List Want) (left:List Int):Prop where
 len:left.length=l.length
 n24:l.length≤24
 nm: ∀(i:Nat) (w:Want),l[i]?=some w→w.f0=nmM i
 par: ∀(i:Nat) (w:Want),l[i]?=some w→w.f1=⟨#[]⟩∨ ∃p,p<i∧w.f1=nmM p
 may: ∀w∈l,MayP w.f2
 lo: ∀(i:Nat) (x:Int),left[i]?=some x→0≤x∧x≤8193
 sum:c=false→ ∀(i:Nat) (w:Want) (x:Int),l[i]?=some w→left[i]?=some x→ ∀o:Comp,o.of (sumW l w.f0)+x≤o.of w.f2
theorem mkI_nil (c:Bool):MkI c [] []:=⟨rfl,Nat.zero_le _,(fun i w h=>by simp at h),(fun i w h=>by simp at h),(fun w h=>by simp at h),(fun i x h=>by simp at h),(fun _ i w x h=>by simp at h)⟩
theorem snoc_get {α:Type} {l:List α} {a w:α} {i:Nat} (h:(l++ [a])[i]?=some w):(l[i]?=some w∧i<l.length)∨(i=l.length∧w=a):=by
  by_cases c:i<l.length
  · rw [List.getElem?_append_left c] at h
    exact .inl ⟨h,c⟩
  rw [List.getElem?_append_right (by omega)] at h
  have hi:i - l.length=0:=by
    have:=(List.getElem?_eq_some_iff.1 h).1
    simp only [List.length_singleton] at this
    omega
  rw [hi] at h;simp only [List.getElem?_cons_zero,Option.some.injEq] at h;exact .inr ⟨by omega,h.symm⟩
theorem mk_add {c:Bool} {l:List Want} {left left1:List Int} (I:MkI c l left) (h:l.length<24) {lim b:Int} (hl:0≤lim∧lim≤8193) (hb:b=0∨b=1) {par:ByteArray} (hlen:left1.length=left.length) (hp:par=⟨#[]⟩∨ ∃p,p<l.length∧par=nmM p)
    (hlo: ∀(i:Nat) (x:Int),left1[i]?=some x→0≤x∧x≤8193) (hs:c=false→ ∀(i:Nat) (x1:Int),left1[i]?=some x1→ ∃x,left[i]?=some x∧x1≤x∧(par=nmM i→x1+lim≤x)):MkI c (l++ [⟨nmM l.length,par,⟨lim,lim,lim - lim / 3*b⟩⟩]) (left1++ [lim - lim / 3]) where
  len:=by rw [List.length_append,List.length_append,hlen,I.len];rfl
  n24:=by rw [List.length_append,List.length_singleton];omega
  nm:=fun i w q=>by
    rcases snoc_get q with ⟨q,_⟩|⟨rfl,rfl⟩
    · exact I.nm i w q
    rfl
  par:=fun i w q=>by
    rcases snoc_get q with ⟨q,_⟩|⟨rfl,rfl⟩
    · exact I.par i w q
    exact hp
  may:=fun w q=>by
    rcases List.mem_append.1 q with q|q
    · exact I.may w q
    rw [List.mem_singleton] at q;subst q;rw [mayP_iff]
    rcases hb with rfl|rfl<;>omega
  lo:=fun i x q=>by
    rcases snoc_get q with ⟨q,_⟩|⟨rfl,rfl⟩
    · exact hlo i x q
    omega
  sum:=fun hc i w x q1 q2 o=>by
    have e:sumW (l++ [⟨nmM l.length,par,⟨lim,lim,lim - lim / 3*b⟩⟩]) w.f0=if par=w.f0 then vadd (sumW l w.f0) ⟨lim,lim,lim - lim / 3*b⟩ else sumW l w.f0:=sumGo_snoc _ _ _ _
    have hv:o.of (⟨lim,lim,lim - lim / 3*b⟩:Vec)≤lim∧lim - lim / 3≤o.of (⟨lim,lim,lim - lim / 3*b⟩:Vec):=by
      cases o<;>simp only [Comp.of]<;>rcases hb with rfl|rfl<;>omega
    rcases snoc_get q1 with ⟨q1,hi⟩|⟨rfl,rfl⟩
    · rcases snoc_get q2 with ⟨q2, _⟩ | ⟨rfl, _⟩
      rotate_left
      · rw [hlen,I.len] at hi;omega
      obtain ⟨x0,g1,g2,g3⟩:=hs hc i x q2
      have g:=I.sum hc i w x0 q1 g1 o
      rw [e]
      by_cases d:par=w.f0
      rotate_left
      · rw [if_neg d];omega
      have:=g3 (by rw [d];exact I.nm i w q1)
      rw [if_pos d,of_vadd]
      omega
    rcases snoc_get q2 with ⟨q2,hi⟩|⟨_,rfl⟩
    · rw [hlen,I.len] at hi;omega
    have z:sumW l (nmM l.length)=⟨0,0,0⟩:=sumGo_zero _ _ _ (fun y hy=>by
      obtain ⟨i,hi,rfl⟩:=List.getElem_of_mem hy
      rcases I.par i l[i] (List.getElem?_eq_getElem hi) with q|⟨p,hp,q⟩
      · rw [q];exact fun k=>nmM_ne _ k.symm
      rw [q];exact fun k=>by have:=nmM_inj (by omega) (by omega) k;omega)
    have e2: ¬par=nmM l.length:=fun k=>by
      rcases hp with q|⟨p,hp,q⟩
      · rw [q] at k;exact nmM_ne _ k.symm
      rw [q] at k;have:=nmM_inj (by omega) (by omega) k;omega
    rw [e]
    show o.of (if par=nmM l.length then _ else sumW l (nmM l.length))+_≤_
    rw [if_neg e2,z];have:o.of (⟨0,0,0⟩:Vec)=0:=by cases o<;>rfl
    show _≤o.of (⟨lim,lim,lim - lim / 3*b⟩:Vec)
    omega
theorem mk_root {c:Bool} {l:List Want} {left:List Int} (I:MkI c l left) (h:l.length<24) {lim b:Int} (hl:0≤lim∧lim≤8193) (hb:b=0∨b=1):MkI c (l++ [⟨nmM l.length,⟨#[]⟩,⟨lim,lim,lim - lim / 3*b⟩⟩]) (left++ [lim - lim / 3]):=
 mk_add I h hl hb rfl (.inl rfl) I.lo (fun _ i x q=>⟨x,q,Int.le_refl _,fun k=>absurd k.symm (nmM_ne i)⟩)
theorem mk_kid {c:Bool} {l:List Want} {left:List Int} (I:MkI c l left) (h:l.length<24) {lim b:Int} (hl:0≤lim∧lim≤8193) (hb:b=0∨b=1) {p:Nat} (hp:p<l.length) {x q:Int} (hx:left[p]?=some x) (hq:0≤q∧q≤x) (hc:c=false→lim=q):
    MkI c (l++ [⟨nmM l.length,nmM p,⟨lim,lim,lim - lim / 3*b⟩⟩]) (left.set p (x - q)++ [lim - lim / 3]):=by
  have hpl:p<left.length:=by rw [I.len];exact hp
  have g:=I.lo p x hx;refine mk_add I h hl hb (List.length_set ..) (.inr ⟨p,hp,rfl⟩) (fun i y hy=> ?_) (fun hc' i y hy=> ?_)
  · rw [List.getElem?_set] at hy
    by_cases e:p=i
    · rw [if_pos e, if_pos hpl] at hy
      obtain rfl:=Option.some.inj hy
      omega
    rw [if_neg e] at hy
    exact I.lo i y hy
  rw [List.getElem?_set] at hy;by_cases e:p=i
  · rw [if_pos e, if_pos hpl] at hy
    obtain rfl:=Option.some.inj hy
    subst e
    have:=hc hc'
    exact ⟨x,hx,by omega,fun _=>by omega⟩
  rw [if_neg e] at hy;refine ⟨y,hy,Int.le_refl _,fun k=> ?_⟩;have hi:=(List.getElem?_eq_some_iff.1 hy).1;exact absurd (nmM_inj (by omega) (by rw [I.len] at hi;omega) k) e
theorem mk_small {c:Bool} {l:List Want} {left:List Int} (I:MkI c l left):smallW l:=fun w hw=>by
  obtain ⟨i,hi,rfl⟩:=List.getElem_of_mem hw;refine ⟨?_, ?_⟩
  · rw [I.nm i _ (List.getElem?_eq_getElem hi),nmM_size];omega
  rcases I.par i _ (List.getElem?_eq_getElem hi) with q|⟨p,hp,q⟩
  · rw [q];decide
  rw [q,nmM_size];omega
theorem lims_eq {lim x:Int} (hl:0≤lim∧lim≤8193) (hx:0≤x∧x≤255): ∃b:Int,(b=0∨b=1)∧wrap64 (lim - (wrap64 ((wrap64 (Int.tdiv lim 3))*(wrap64 (Int.tmod x 2)))))=lim - lim / 3*b∧wrap64 (lim - (wrap64 (Int.tdiv lim 3)))=lim - lim / 3:=by
  have e1:Int.tdiv lim 3=lim / 3:=Int.tdiv_eq_ediv_of_nonneg hl.1
  have e2:Int.tmod x 2=x % 2:=Int.tmod_eq_emod_of_nonneg hx.1
  rw [e1,e2,w64 (n:=lim / 3) (by omega) (by omega),w64 (n:=x % 2) (by omega) (by omega),w64 (n:=lim - lim / 3) (by omega) (by omega)]
  refine ⟨x % 2,by omega, ?_,rfl⟩
  rcases (show x % 2=0∨x % 2=1 by omega) with q|q
  · rw [q,Int.mul_zero,w64 (n:=0) (by omega) (by omega),w64 (by omega) (by omega)]
  rw [q,Int.mul_one,w64 (n:=lim / 3) (by omega) (by omega),w64 (by omega) (by omega)]
theorem rd_nat (l:List Int) {i:Nat} (h:i<l.length):rd l (i:Int)=l[i]:=by
 unfold rd;rw [Int.toNat_natCast,List.getD_eq_getElem?_getD,List.getElem?_eq_getElem h,Option.getD_some]
theorem mkE1:wrap64 ((wrap64 (4096*2))+1)=8193:=by unfold wrap64;rfl
theorem make_go {ns:List Int} {c:Bool} (hns:ns.length≤60) (hb: ∀x∈ns,0≤x∧x≤255): ∀(d j:Nat) (l:List Want) (left:List Int),ns.length - 2*j≤d→2*j≤ns.length+1→MkI c l left→ ∃r left',Ev (fun k=>law11_Make.l0 k ns c l left ((2*j:Nat):Int)) r∧MkI c r left'
  | d, j, l, left, hd, hj, I => by
    have e1:wrap64 (((2*j:Nat):Int)+1)=((2*j+1:Nat):Int):=by rw [w64 (by omega) (by omega)];rfl
    have e3:wrap64 (((2*j:Nat):Int)+2)=((2*(j+1):Nat):Int):=by rw [w64 (by omega) (by omega)];omega
    by_cases h:2*j+1<ns.length∧l.length<24;rotate_left
    · have stop : Ev (fun k => law11_Make.j1 k ns c l left ((2 * j : Nat) : Int) false) l := Ev.step (fun k => law11_Make.j1.eq_2 (k := k) ..) (Ev.congr (fun k => if_neg (by simp)) (Ev.now _))
      refine ⟨l,left,Ev.step (fun k=>law11_Make.l0.eq_2 (k:=k) ..) ?_,I⟩
      by_cases a:2*j+1<ns.length
      · refine Ev.congr (fun k => ?_) stop
        rw [e1,if_pos (show ((2*j+1:Nat):Int)<(ns.length:Int) by omega),decide_eq_false (show¬(l.length:Int)<24 by omega)]
      refine Ev.congr (fun k=> ?_) stop
      rw [e1,if_neg (show¬((2*j+1:Nat):Int)<(ns.length:Int) by omega)]
    obtain ⟨h1,h24⟩:=h
    match d,hd with
    |0,hd=>omega
    |d+1,hd=>
    have IH:=make_go (c:=c) hns hb d (j+1);obtain ⟨x,hx⟩: ∃x,x=ns[2*j]:=⟨_,rfl⟩;obtain ⟨y,hy⟩: ∃y,y=ns[2*j+1]:=⟨_,rfl⟩;have bx:=hb x (by rw [hx];exact List.getElem_mem _);have by':=hb y (by rw [hy];exact List.getElem_mem _);have rx:rd ns ((2*j:Nat):Int)=x:=by rw [rd_nat ns (by omega),hx]
    have ry:rd ns ((2*j+1:Nat):Int)=y:=by rw [rd_nat ns h1,hy]
    have wx:wrap64 x=x:=w64 (by omega) (by omega);have hnm:=nmM_str h24;have hlen:=I.len;have c1:(0:Int)≤((2*j:Nat):Int):=by omega
    have c2:((2*j:Nat):Int)<(ns.length:Int):=by omega
    have c3:(0:Int)≤((2*j+1:Nat):Int):=by omega
    have c4:((2*j+1:Nat):Int)<(ns.length:Int):=by omega
    have g1:l.length<2513169434916:=by omega
    have g2:left.length<17592186044416:=by omega
    have leaf: ∀(L:Int) (par:ByteArray) (left1:List Int),0≤L∧L≤8193→(∀b:Int,(b=0∨b=1)→MkI c (l++ [⟨nmM l.length,par,⟨L,L,L - L / 3*b⟩⟩]) (left1++ [L - L / 3]))→
        ∃r left',Ev (fun k=>law11_Make.l0 k ns c (l++ [⟨nmM l.length,par,⟨L,L,wrap64 (L - (wrap64 ((wrap64 (Int.tdiv L 3))*(wrap64 (Int.tmod y 2)))))⟩⟩]) (left1++ [wrap64 (L - (wrap64 (Int.tdiv L 3)))]) ((2*(j+1):Nat):Int)) r∧MkI c r left':=fun L par left1 hL k=>by
      obtain ⟨b,hbb,q1,q2⟩:=lims_eq hL by'
      rw [q1,q2]
      exact IH _ _ (by omega) (by omega) (k b hbb)
    have root: ∃r left',Ev (fun k=>law11_Make.j2 k ns c l left ((2*j:Nat):Int) (l.length:Int) x 4096 false (nmM l.length) ⟨#[]⟩ 4096 4096 4096) r∧MkI c r left':=by
      have lo:=leaf 4096 ⟨#[]⟩ left (by omega) (fun b hbb=>mk_root I h24 (by omega) hbb);have hi:=leaf 8193 ⟨#[]⟩ left (by omega) (fun b hbb=>mk_root I h24 (by omega) hbb)
      cases hc:c with
      | true =>
        subst hc;by_cases m:Int.tmod y 16=0
        · obtain ⟨r, left', ev, I'⟩ := hi
          refine ⟨r,left',Ev.step (fun k=>law11_Make.j2.eq_2 (k:=k) ..) (Ev.congr (fun k=> ?_) ev),I'⟩
          rw [if_neg (by simp),if_pos rfl,e1,if_pos c3,if_pos c4,ry,if_pos m,if_pos g1,if_pos g2,mkE1,e3]
        obtain ⟨r,left',ev,I'⟩:=lo;refine ⟨r,left',Ev.step (fun k=>law11_Make.j2.eq_2 (k:=k) ..) (Ev.congr (fun k=> ?_) ev),I'⟩;rw [if_neg (by simp),if_pos rfl,e1,if_pos c3,if_pos c4,ry,if_neg m,if_pos g1,if_pos g2,e3]
      | false =>
        subst hc;obtain ⟨r,left',ev,I'⟩:=lo;refine ⟨r,left',Ev.step (fun k=>law11_Make.j2.eq_2 (k:=k) ..) (Ev.congr (fun k=> ?_) ev),I'⟩;rw [if_neg (by simp),if_neg (by simp),e1,if_pos c3,if_pos c4,ry,if_pos g1,if_pos g2,e3]
    have kid:0<l.length→ ∃r left',Ev (fun k=>law11_Make.j2 k ns c l left ((2*j:Nat):Int) (l.length:Int) x 4096 true (nmM l.length) ⟨#[]⟩ 4096 4096 4096) r∧MkI c r left':=fun h0=>by
      obtain ⟨p,hp,hpl⟩: ∃p:Nat,Int.tmod (wrap64 (Int.tdiv x 3)) (l.length:Int)=(p:Int)∧p<l.length:=by
        have q1:Int.tdiv x 3=x / 3:=Int.tdiv_eq_ediv_of_nonneg bx.1;rw [q1,w64 (n:=x / 3) (by omega) (by omega),Int.tmod_eq_emod_of_nonneg (by omega)];have a:=Int.emod_nonneg (x / 3) (show (l.length:Int)≠0 by omega);have b:=Int.emod_lt_of_pos (x / 3) (show (0:Int)<l.length by omega);exact ⟨(x / 3 % (l.length:Int)).toNat,by omega,by omega⟩
      have hpf:p<left.length:=by omega
      obtain ⟨f,hf⟩: ∃f,f=left[p]:=⟨_,rfl⟩;have rf:rd left (p:Int)=f:=by rw [rd_nat left hpf,hf]
      have hg:left[p]?=some f:=by rw [List.getElem?_eq_getElem hpf,hf]
      have bf:=I.lo p f hg;have q1:wrap64 (Int.tdiv f 2)=f / 2:=by rw [Int.tdiv_eq_ediv_of_nonneg bf.1,w64 (by omega) (by omega)]
      have q2:wrap64 (f - f / 2)=f - f / 2:=w64 (by omega) (by omega);have q3:wrap64 (wrap64 (f / 2*2)+1)=f / 2*2+1:=by rw [w64 (n:=f / 2*2) (by omega) (by omega),w64 (by omega) (by omega)]
      have rn:(rd_T39 l (p:Int)).f0=nmM p:=by rw [rd_wantN l hpl];exact I.nm p _ (List.getElem?_eq_getElem hpl)
      have d1: ¬(l.length:Int)=0:=by omega
      have d2:(0:Int)≤(p:Int):=by omega
      have d3:(p:Int)<(l.length:Int):=by omega
      have d4:(p:Int)<(left.length:Int):=by omega
      have g3:(left.set p (f - f / 2)).length<17592186044416:=by rw [List.length_set];exact g2
      have lo:=leaf (f / 2) (nmM p) (left.set p (f - f / 2)) (by omega) (fun b hbb=>mk_kid I h24 (by omega) hbb hpl hg (by omega) (fun _=>rfl))
      cases hc:c with
      | true =>
        have hi:=leaf (f / 2*2+1) (nmM p) (left.set p (f - f / 2)) (by omega) (fun b hbb=>mk_kid I h24 (by omega) hbb hpl hg (by omega) (fun e=>by rw [hc] at e;cases e));subst hc;by_cases m:Int.tmod y 16=0
        · obtain ⟨r, left', ev, I'⟩ := hi
          refine ⟨r,left',Ev.step (fun k=>law11_Make.j2.eq_2 (k:=k) ..) (Ev.congr (fun k=> ?_) ev),I'⟩
          rw [if_pos rfl,if_neg d1,hp,if_pos d2,if_pos d3,if_pos d4,Option.bind_some,if_pos rfl,e1,if_pos c3,if_pos c4,ry,if_pos m,if_pos g1,rf,q1,q2,Int.toNat_natCast,if_pos g3,q3,rn,e3]
        obtain ⟨r,left',ev,I'⟩:=lo;refine ⟨r,left',Ev.step (fun k=>law11_Make.j2.eq_2 (k:=k) ..) (Ev.congr (fun k=> ?_) ev),I'⟩;rw [if_pos rfl,if_neg d1,hp,if_pos d2,if_pos d3,if_pos d4,Option.bind_some,if_pos rfl,e1,if_pos c3,if_pos c4,ry,if_neg m,if_pos g1,rf,q1,q2,Int.toNat_natCast,if_pos g3,rn,e3]
      | false =>
        subst hc;obtain ⟨r,left',ev,I'⟩:=lo;refine ⟨r,left',Ev.step (fun k=>law11_Make.j2.eq_2 (k:=k) ..) (Ev.congr (fun k=> ?_) ev),I'⟩;rw [if_pos rfl,if_neg d1,hp,if_pos d2,if_pos d3,if_pos d4,Option.bind_some,if_neg (by simp),e1,if_pos c3,if_pos c4,ry,if_pos g1,rf,q1,q2,Int.toNat_natCast,if_pos g3,rn,e3]
    have fin: ∃r left',Ev (fun k=>law11_Make.j1 k ns c l left ((2*j:Nat):Int) true) r∧MkI c r left':=by
      by_cases h0:0<l.length;rotate_left
      · obtain ⟨r, left', ev, I'⟩ := root
        refine ⟨r,left',Ev.step (fun k=>law11_Make.j1.eq_2 (k:=k) ..) (Ev.congr (fun k=> ?_) ev),I'⟩
        rw [if_pos rfl,if_pos c1,if_pos c2,Option.bind_some,if_neg (by omega),rx,wx,hnm]
      by_cases t:Int.tmod x 3>0
      · obtain ⟨r, left', ev, I'⟩ := kid h0
        refine ⟨r,left',Ev.step (fun k=>law11_Make.j1.eq_2 (k:=k) ..) (Ev.congr (fun k=> ?_) ev),I'⟩
        rw [if_pos rfl,if_pos c1,if_pos c2,Option.bind_some,if_pos (by omega),rx,wx,hnm,decide_eq_true t]
      obtain ⟨r,left',ev,I'⟩:=root;refine ⟨r,left',Ev.step (fun k=>law11_Make.j1.eq_2 (k:=k) ..) (Ev.congr (fun k=> ?_) ev),I'⟩;rw [if_pos rfl,if_pos c1,if_pos c2,Option.bind_some,if_pos (by omega),rx,wx,hnm,decide_eq_false t]
    obtain ⟨r,left',ev,I'⟩:=fin;refine ⟨r,left',Ev.step (fun k=>law11_Make.l0.eq_2 (k:=k) ..) (Ev.congr (fun k=> ?_) ev),I'⟩;rw [e1,if_pos c4,decide_eq_true (show (l.length:Int)<24 by omega)]
theorem make_ev {ns:List Int} (c:Bool) (hns:ns.length≤60) (hb: ∀x∈ns,0≤x∧x≤255): ∃r left,Ev (fun k=>law11_Make.f k ns c) r∧MkI c r left:=
 make_go hns hb ns.length 0 [] [] (by omega) (by omega) (mkI_nil c)
end Go.Proofs.Ytahidkjncljkaaa.Print

namespace Go.Proofs.Ytahidkjncljkaaa.Print
open Go.RowKit Go.Proofs.YtahidkjncljkaaaW.PrintWords Go.Proofs.YtahidkjncljkaaaW.PrintLast Go.Proofs.YtahidkjncljkaaaW.PrintMore
theorem pm_u8 {x:Int} (h:(Lit.int .u8 x).wf=true):0≤x∧x≤255:=by
 simp only [Lit.wf,Bool.and_eq_true,decide_eq_true_eq] at h;obtain ⟨h1,h2⟩:=h;exact ⟨h1,h2⟩
theorem planR_len (ws:List Want) (m:List PMark) (l:List Item):(planR ws m l).1.length≤3*ws.length+m.length:=by
  unfold planR
  split
  rotate_left
  · simp
  split
  · simp
  exact plan_len ws m l _
theorem planR_num (ws:List Want) (m:List PMark) (l:List Item):law1_Num.f (planR ws m l).2=some (planR ws m l).2:=rfl
theorem planMade_pure:law18_PlanMade.Pure:=by
  intro ns ns1 a2 a3 _ _ hw _ _ hw1 _;unfold law18_PlanMade.f;have hstop:Ev (fun k=>law18_PlanMade.j0 k ns ns1 a2 a3 true) true:=Ev.step (fun k=>law18_PlanMade.j0.eq_2 (k:=k) ..) (Ev.congr (fun k=>if_pos rfl) awake18_ev);refine Ev.rounds ?_;by_cases h:(ns.length:Int)>60
  · exact Ev.congr (fun k=>if_pos h) hstop
  refine Ev.congr (fun k=>if_neg h) ?_;by_cases h1:(ns1.length:Int)>60
  · rw [decide_eq_true h1];exact hstop
  rw [decide_eq_false h1];refine Ev.step (fun k=>law18_PlanMade.j0.eq_2 (k:=k) ..) (Ev.congr (fun k=>if_neg (by decide)) ?_);obtain ⟨l,hev,M⟩:=made_all (ns:=ns) (fun x hx=>pm_u8 (hw x hx)) (by omega);have hlen:=M.len;obtain ⟨ws,left,ev,I⟩:=make_ev a3 (ns:=ns1) (by omega) (fun x hx=>pm_u8 (hw1 x hx));obtain ⟨m,L,lev⟩:=liveM_ev hev M a2;have hml:=L.len;have hs:=mk_small I;have hwl:=I.n24;have hpl:=planR_len ws m l;refine Ev.bind lev (Ev.bind ev ?_);dsimp only;rw [plan_Steps_ev hs (by omega) (by omega)];simp only [Option.bind_some];refine Ev.bind (r16_Steps_ev ws (by omega) (by omega)) ?_;refine Ev.bind (same_stp _ (by omega)) ?_;rw [planR_num];simp only [Option.bind_some];exact Ev.congr (fun k=>(if_pos trivial).trans ((if_pos trivial).trans (if_pos (by omega)))) awake18_ev
end Go.Proofs.Ytahidkjncljkaaa.Print
namespace Go.Proofs.Ytahidkjncljkaaa.Pure
open Go.Proofs.Ytahidkjncljkaaa.Print
theorem PlanMade:law18_PlanMade.Pure:=planMade_pure
end Go.Proofs.Ytahidkjncljkaaa.Pure

namespace Go.Proofs.Ytahidkjncljkaaa.Head
def signs:List Char:=(List.map Char.ofNat [104,97,114,110,101,115,115,32,52,48,100,98,98,98,100,57,102,99,56,49,51,57,52,102,98,101,100,54,48,53,102,48,101,50,51,100,52,101,50,55,97,52,48,52,98,97,49,55,57,48,56,57,54,99,56,100,54,100,100,54,56,102,97,52,102,101,49,48,50,99,55,57,32,99,117,116,32,97,116,32,100,111,111,114,107,101,101,112,101,114,47,100,111,111,114,107,101,101,112,101,114,108,97,119,49,49,46,87,97,110,116,65,108,108,32,100,111,111,114,107,101,101,112,101,114,47,100,111,111,114,107,101,101,112,101,114,108,97,119,49,49,46,87,97,110,116,77,97,100,101,32,100,111,111,114,107,101,101,112,101,114,47,100,111,111,114,107,101,101,112,101,114,108,97,119,49,49,46,87,97,110,116,84,111,112,32,100,111,111,114,107,101,101,112,101,114,47,100,111,111,114,107,101,101,112,101,114,108,97,119,49,49,46,87,97,110,116,67,105,114,99,108,101,32,100,111,111,114,107,101,101,112,101,114,47,100,111,111,114,107,101,101,112,101,114,108,97,119,49,49,46,87,97,110,116,83,117,109,115,32,100,111,111,114,107,101,101,112,101,114,47,100,111,111,114,107,101,101,112,101,114,108,97,119,49,57,46,84,114,105,97,108,67,117,116,115,32,100,111,111,114,107,101,101,112,101,114,47,100,111,111,114,107,101,101,112,101,114,108,97,119,49,56,46,80,108,97,110,65,108,108,32,100,111,111,114,107,101,101,112,101,114,47,100,111,111,114,107,101,101,112,101,114,108,97,119,49,56,46,80,108,97,110,77,97,100,101,32,100,111,111,114,107,101,101,112,101,114,47,100,111,111,114,107,101,101,112,101,114,108,97,119,49,56,46,80,108,97,110,76,101,97,100,115,32,100,111,111,114,107,101,101,112,101,114,47,100,111,111,114,107,101,101,112,101,114,108,97,119,49,56,46,80,108,97,110,69,109,112,116,121,32,100,111,111,114,107,101,101,112,101,114,47,100,111,111,114,107,101,101,112,101,114,108,97,119,49,56,46,80,108,97,110,79,114,100,101,114,32,100,111,111,114,107,101,101,112,101,114,47,100,111,111,114,107,101,101,112,101,114,108,97,119,49,56,46,80,108,97,110,70,114,101,115,104,32,100,111,111,114,107,101,101,112,101,114,47,100,111,111,114,107,101,101,112,101,114,108,97,119,49,56,46,80,108,97,110,78,111,110,101,32,100,111,111,114,107,101,101,112,101,114,47,100,111,111,114,107,101,101,112,101,114,108,97,119,49,56,46,80,108,97,110,67,108,97,115,104,32,100,111,111,114,107,101,101,112,101,114,47,100,111,111,114,107,101,101,112,101,114,108,97,119,49,56,46,80,108,97,110,87,105,100,101,32,100,111,111,114,107,101,101,112,101,114,47,100,111,111,114,107,101,101,112,101,114,108,97,119,50,51,46,65,112,112,108,121,65,108,108,32,100,111,111,114,107,101,101,112,101,114,47,100,111,111,114,107,101,101,112,101,114,108,97,119,50,51,46,65,112,112,108,121,77,97,100,101,32,100,111,111,114,107,101,101,112,101,114,47,100,111,111,114,107,101,101,112,101,114,108,97,119,50,51,46,65,112,112,108,121,65,103,97,105,110,32,100,111,111,114,107,101,101,112,101,114,47,100,111,111,114,107,101,101,112,101,114,108,97,119,50,51,46,65,112,112,108,121,69,110,100,115])
set_option maxRecDepth 100000 in
theorem word:Try.prog.initOrder=String.ofList signs:=by kernel_rfl
theorem list:Try.prog.initOrder.toList=signs:=by rw [word,String.toList_ofList]
theorem words_app: ∀(w r:List Char),(∀c∈w,c≠Char.ofNat 32)→wordsSigns (w++Char.ofNat 32::r)=w::wordsSigns r
  |[],r,_=>rfl
  | c :: w, r, h => by
    have hc:c≠Char.ofNat 32:=h c (by simp);have ih:=words_app w r (fun d hd=>h d (by simp [hd]))
    show wordsSigns (c::(w++Char.ofNat 32::r))=_
    rw [wordsSigns.eq_3 _ _ (fun q=>hc q),ih]
def w1:List Char:=[Char.ofNat 104,Char.ofNat 97,Char.ofNat 114,Char.ofNat 110,Char.ofNat 101,Char.ofNat 115,Char.ofNat 115]
def w2:List Char:=(List.map Char.ofNat [52,48,100,98,98,98,100,57,102,99,56,49,51,57,52,102,98,101,100,54,48,53,102,48,101,50,51,100,52,101,50,55,97,52,48,52,98,97,49,55,57,48,56,57,54,99,56,100,54,100,100,54,56,102,97,52,102,101,49,48,50,99,55,57])
def w3:List Char:=[Char.ofNat 99,Char.ofNat 117,Char.ofNat 116]
def rest:List Char:=(List.map Char.ofNat [97,116,32,100,111,111,114,107,101,101,112,101,114,47,100,111,111,114,107,101,101,112,101,114,108,97,119,49,49,46,87,97,110,116,65,108,108,32,100,111,111,114,107,101,101,112,101,114,47,100,111,111,114,107,101,101,112,101,114,108,97,119,49,49,46,87,97,110,116,77,97,100,101,32,100,111,111,114,107,101,101,112,101,114,47,100,111,111,114,107,101,101,112,101,114,108,97,119,49,49,46,87,97,110,116,84,111,112,32,100,111,111,114,107,101,101,112,101,114,47,100,111,111,114,107,101,101,112,101,114,108,97,119,49,49,46,87,97,110,116,67,105,114,99,108,101,32,100,111,111,114,107,101,101,112,101,114,47,100,111,111,114,107,101,101,112,101,114,108,97,119,49,49,46,87,97,110,116,83,117,109,115,32,100,111,111,114,107,101,101,112,101,114,47,100,111,111,114,107,101,101,112,101,114,108,97,119,49,57,46,84,114,105,97,108,67,117,116,115,32,100,111,111,114,107,101,101,112,101,114,47,100,111,111,114,107,101,101,112,101,114,108,97,119,49,56,46,80,108,97,110,65,108,108,32,100,111,111,114,107,101,101,112,101,114,47,100,111,111,114,107,101,101,112,101,114,108,97,119,49,56,46,80,108,97,110,77,97,100,101,32,100,111,111,114,107,101,101,112,101,114,47,100,111,111,114,107,101,101,112,101,114,108,97,119,49,56,46,80,108,97,110,76,101,97,100,115,32,100,111,111,114,107,101,101,112,101,114,47,100,111,111,114,107,101,101,112,101,114,108,97,119,49,56,46,80,108,97,110,69,109,112,116,121,32,100,111,111,114,107,101,101,112,101,114,47,100,111,111,114,107,101,101,112,101,114,108,97,119,49,56,46,80,108,97,110,79,114,100,101,114,32,100,111,111,114,107,101,101,112,101,114,47,100,111,111,114,107,101,101,112,101,114,108,97,119,49,56,46,80,108,97,110,70,114,101,115,104,32,100,111,111,114,107,101,101,112,101,114,47,100,111,111,114,107,101,101,112,101,114,108,97,119,49,56,46,80,108,97,110,78,111,110,101,32,100,111,111,114,107,101,101,112,101,114,47,100,111,111,114,107,101,101,112,101,114,108,97,119,49,56,46,80,108,97,110,67,108,97,115,104,32,100,111,111,114,107,101,101,112,101,114,47,100,111,111,114,107,101,101,112,101,114,108,97,119,49,56,46,80,108,97,110,87,105,100,101,32,100,111,111,114,107,101,101,112,101,114,47,100,111,111,114,107,101,101,112,101,114,108,97,119,50,51,46,65,112,112,108,121,65,108,108,32,100,111,111,114,107,101,101,112,101,114,47,100,111,111,114,107,101,101,112,101,114,108,97,119,50,51,46,65,112,112,108,121,77,97,100,101,32,100,111,111,114,107,101,101,112,101,114,47,100,111,111,114,107,101,101,112,101,114,108,97,119,50,51,46,65,112,112,108,121,65,103,97,105,110,32,100,111,111,114,107,101,101,112,101,114,47,100,111,111,114,107,101,101,112,101,114,108,97,119,50,51,46,65,112,112,108,121,69,110,100,115])
theorem parts:signs=w1++Char.ofNat 32::(w2++Char.ofNat 32::(w3++Char.ofNat 32::rest)):=by kernel_rfl
theorem behind: ∃r,behindMainWord (wordsSigns Try.prog.initOrder.toList)=w3::r:=by
 refine ⟨wordsSigns rest, ?_⟩;rw [list,parts,words_app w1 _ (by decide),words_app w2 _ (by decide),words_app w3 _ (by decide)];generalize wordsSigns rest=r
 rfl
theorem strip (r:List (List Char)):stripLifts liftWords (w3::r)=([],w3::r):=by kernel_rfl
theorem not_carried (r:List (List Char)):((w3::r).head?==some "carried".toList)=false:=by kernel_rfl
theorem is_cut (r:List (List Char)):((w3::r).head?==some "cut".toList)=true:=by kernel_rfl
theorem not_gc:(w3== "gc".toList||w3== "spec".toList)=false:=by kernel_rfl
theorem cut_:(w3== "cut".toList)=true:=by kernel_rfl
theorem lifts_of {P:Program} {r:List (List Char)} (h:behindMainWord (wordsSigns P.initOrder.toList)=w3::r):P.liftsFinal=false:=by
 unfold Program.liftsFinal Program.headLifts;simp only [h,strip,not_carried,is_cut,if_true,Bool.false_and,Bool.false_or,List.contains_nil]
theorem make_of {P:Program} {r:List (List Char)} (h:behindMainWord (wordsSigns P.initOrder.toList)=w3::r):P.make=some .cut:=by
 unfold Program.make;simp only [h,not_gc,cut_,Bool.true_or,if_true,Bool.false_eq_true,if_false]
theorem lifts:Try.prog.liftsFinal=false:=by obtain ⟨r,h⟩:=behind;exact lifts_of h
theorem make:Try.prog.make=some .cut:=by obtain ⟨r,h⟩:=behind;exact make_of h
theorem later:Try.prog.laysLater=false:=by kernel_rfl
theorem reflects:Try.prog.bearsReflect=false:=by kernel_rfl
theorem door:Try.prog.doorFits []=true:=by kernel_rfl
theorem may_of {P:Program} {r:List (List Char)} (h:behindMainWord (wordsSigns P.initOrder.toList)=w3::r) (h1:P.laysLater=false) (h2:P.bearsReflect=false) (h3:P.doorFits []=true):P.mayEnter=true:=by
 unfold Program.mayEnter;simp only [h,strip,is_cut,h1,h2,h3,List.contains_nil,Bool.not_false,Bool.or_true,Bool.and_true,Bool.and_self]
theorem mayEnter:Try.prog.mayEnter=true:=by obtain ⟨r,h⟩:=behind;exact may_of h later reflects door
theorem stopsHeard:Try.prog.stopsHeard=true:=by kernel_rfl
theorem laidOut:laidOutB Try.prog=true:=by kernel_rfl
theorem mapsRowed:mapsRowed Try.prog=true:=by kernel_rfl
theorem stops:(Try.prog.stops==[])=true:=by kernel_rfl
theorem stopKnobs:(Try.prog.stopKnobs==[])=true:=by kernel_rfl
end Go.Proofs.Ytahidkjncljkaaa.Head

-- PRINTED WORDS (module Derived/Print/Sized.lean): go-gate-2's, for the rows of laws over slices: an AI agent of Go's test side, Tue Nov 17 2026; no person has read it. Lean checks it.
namespace Go.Proofs.YtahidkjncljkaaaW.PrintWords
open Go.ChangeShapes Go.WideShapes
theorem sized_ints {H:Type} {enc:TypeId×Value→H} {P:Program} {W:World} {base:Nat} {spare:Nat→Bool} {held:Bool} {t e:TypeId} {k:IntKind} {a:Option Addr} {len cap:Nat} {d:DataW H} {ps:List MemPlace} {ts:List TypeId} {ds:List (DataW H)} {j:Nat}
    (hsz:(DataW.weightsEach P ts ds).all (· ≤reachBytes)=true) (ht:ts[j]?=some t) (hd:ds[j]?=some d) (hu:P.underlying t=some (.slice e)) (he:P.underlying e=some (.int k)) (hc:P.cellsOf e=1) {B:Nat} (hB:P.bytesOf e=B)
    (h:DataW.Trod enc P W base spare held t (.slice a len cap) d ps):len*B≤140737488351232:=by
  obtain ⟨fuel,hf⟩:=h
  rcases open_ints hu he hc hf with ⟨hcs,_⟩|⟨x,l,c,zs,hcs,_,hl,_,hz,hx,_,_⟩
  · simp [Value.cells] at hcs
    obtain ⟨rfl,rfl,rfl⟩:=hcs
    simp
  · simp [Value.cells] at hcs
    obtain ⟨rfl,rfl,rfl⟩:=hcs
    obtain ⟨hx,_⟩:=Prod.mk.inj hx
    subst hx
    have z:=sized_slice hsz ht hd hu
    rw [hB] at z
    have hl2:len≤zs.length:=by
      rw [hz]
      split
      · exact hl
      · exact Nat.le_refl _
    have h1:(lits (H:=H) k (zs.take len)).length+(lits (H:=H) k (zs.drop len)).length=zs.length:=by
      simp [lits]
      omega
    rw [h1] at z
    exact Nat.le_trans (Nat.mul_le_mul_right _ hl2) z
end Go.Proofs.YtahidkjncljkaaaW.PrintWords
