/- A part of the proof of ShapeMany: the machine's side by the kit's print, contracts and lemmas by this session. -/
import Derived.Test.YtcgefpklljclgaaProg
import Derived.Below
import Derived.Deep.Draws
import Derived.Deep.AppendLies
import Derived.Maps.AppendAt
import Derived.OwnWalk
import Derived.Laws.BytesArg
import Derived.Laws.MakeOwn
import Derived.Laws.OwnMore
import Derived.Deep.OwnRows
import Derived.Tactics
import Derived.Lib.ConvBytes
import Derived.Laws.Slices
import Derived.WalkKit
import Derived.KernelRfl
import Derived.RowKit3
import Derived.Deep.LoopGhost
import Derived.Deep.QuietTactic
import Derived.BigQuiet
import Derived.WideLaws
import Derived.Deep.DeepCutAuto
import Derived.Deep.CutBlock
import Derived.Deep.RegionHeld3
import Derived.Laws.Rows
import Derived.Lib.AppendStr
import Derived.ArgAppend
import Derived.Laws.IdiomCopy
import Derived.OrdersHeld
import Derived.Laws.BitsLemmas
import Derived.RowKit
import Derived.WalkSpells
import Derived.Shelf.Abstract
import Derived.Laws.Cover1
import Derived.Lib.SliceRun
import Derived.Lib.JoinLaws
import Derived.Lib.AppendZerosOnto
import Derived.Lib.Overlaps
import Derived.Laws.Externs
import Derived.Laws.NewBlocks
import Derived.Deep.RegionLaw
import Derived.Shelf.RegionOpenPlain
import Derived.Test.YtcgefpklljclgaaBShapeMany0
namespace Go.Proofs.Ytcgefpklljclgaa.Print
open Go.RowKit Go.Proofs.YtcgefpklljclgaaW.PrintWords Go.Proofs.YtcgefpklljclgaaW.PrintLast Go.Proofs.YtcgefpklljclgaaW.PrintMore
attribute [local go_sem] max2_int min2_int max_two min_two max_three min_three max_four min_four   -- for this text's walks alone
set_option linter.unusedVariables false
set_option linter.unusedSimpArgs false
def errW : Option Int → Value
  | none => .nilIface
  | some c => .iface 0 (.int .i64 c)
theorem errW_none : errW none = .nilIface := rfl
theorem errW_some (c : Int) : errW (some c) = .iface 0 (.int .i64 c) := rfl
theorem info31 : (Try.prog.info? 31).map (fun i => (i.zero, i.size, i.bytes)) = some (some (.agg #[(.string ⟨#[]⟩), (.string ⟨#[]⟩), (.int .i64 0), (.int .i64 0), (.int .i64 0), (.int .i64 0), (.int .i64 0), (.int .i64 0), (.int .i64 0), (.int .i64 0), (.int .i64 0), (.int .i64 0)]), 12, 112) := by kernel_rfl
-- the values' own types
/-! #### struct type 27 -/
structure S27 where
  f0 : Int
  f1 : Int
  f2 : Int
def z27 : S27 := ⟨(0 : Int), (0 : Int), (0 : Int)⟩
def k27 : Kd S27 := Kd.iso (Kd.pair (Kd.int .i64) (Kd.pair (Kd.int .i64) (Kd.int .i64))) (fun x : S27 => (x.f0, x.f1, x.f2))
theorem k27_open {w : World} {x : S27} {cs : List Value} (h : k27.K w x cs) : cs = [.int .i64 x.f0, .int .i64 x.f1, .int .i64 x.f2] := by
  obtain ⟨_, _, rfl, rfl, ⟨_, _, rfl, rfl, rfl⟩⟩ := h
  exact rfl
theorem k27_mkM (w : World) (base : Nat) (ok : Nat → Prop) (x : S27)  : k27.M w base ok x [.int .i64 x.f0, .int .i64 x.f1, .int .i64 x.f2] := ⟨[.int .i64 x.f0], [.int .i64 x.f1, .int .i64 x.f2], rfl, rfl, ⟨[.int .i64 x.f1], [.int .i64 x.f2], rfl, rfl, rfl⟩⟩
/-! #### struct type 31 -/
structure S31 where
  f0 : ByteArray
  f1 : ByteArray
  f2 : S27
  f3 : S27
  f4 : S27
  f5 : Int
def z31 : S31 := ⟨(⟨#[]⟩ : ByteArray), (⟨#[]⟩ : ByteArray), z27, z27, z27, (0 : Int)⟩
def k31 : Kd S31 := Kd.iso (Kd.pair Kd.string (Kd.pair Kd.string (Kd.pair k27 (Kd.pair k27 (Kd.pair k27 (Kd.int .i64)))))) (fun x : S31 => (x.f0, x.f1, x.f2, x.f3, x.f4, x.f5))
theorem k31_open {w : World} {x : S31} {cs : List Value} (h : k31.K w x cs) : cs = [.string x.f0, .string x.f1, .int .i64 x.f2.f0, .int .i64 x.f2.f1, .int .i64 x.f2.f2, .int .i64 x.f3.f0, .int .i64 x.f3.f1, .int .i64 x.f3.f2, .int .i64 x.f4.f0, .int .i64 x.f4.f1, .int .i64 x.f4.f2, .int .i64 x.f5] := by
  obtain ⟨_, _, rfl, rfl, ⟨_, _, rfl, rfl, ⟨_, _, rfl, s2, ⟨_, _, rfl, s5, ⟨_, _, rfl, s8, rfl⟩⟩⟩⟩⟩ := h
  obtain rfl := k27_open s2
  obtain rfl := k27_open s5
  obtain rfl := k27_open s8
  exact rfl
theorem k31_mkM (w : World) (base : Nat) (ok : Nat → Prop) (x : S31)  : k31.M w base ok x [.string x.f0, .string x.f1, .int .i64 x.f2.f0, .int .i64 x.f2.f1, .int .i64 x.f2.f2, .int .i64 x.f3.f0, .int .i64 x.f3.f1, .int .i64 x.f3.f2, .int .i64 x.f4.f0, .int .i64 x.f4.f1, .int .i64 x.f4.f2, .int .i64 x.f5] := ⟨[.string x.f0], [.string x.f1, .int .i64 x.f2.f0, .int .i64 x.f2.f1, .int .i64 x.f2.f2, .int .i64 x.f3.f0, .int .i64 x.f3.f1, .int .i64 x.f3.f2, .int .i64 x.f4.f0, .int .i64 x.f4.f1, .int .i64 x.f4.f2, .int .i64 x.f5], rfl, rfl, ⟨[.string x.f1], [.int .i64 x.f2.f0, .int .i64 x.f2.f1, .int .i64 x.f2.f2, .int .i64 x.f3.f0, .int .i64 x.f3.f1, .int .i64 x.f3.f2, .int .i64 x.f4.f0, .int .i64 x.f4.f1, .int .i64 x.f4.f2, .int .i64 x.f5], rfl, rfl, ⟨[.int .i64 x.f2.f0, .int .i64 x.f2.f1, .int .i64 x.f2.f2], [.int .i64 x.f3.f0, .int .i64 x.f3.f1, .int .i64 x.f3.f2, .int .i64 x.f4.f0, .int .i64 x.f4.f1, .int .i64 x.f4.f2, .int .i64 x.f5], rfl, (k27_mkM w base ok x.f2 ), ⟨[.int .i64 x.f3.f0, .int .i64 x.f3.f1, .int .i64 x.f3.f2], [.int .i64 x.f4.f0, .int .i64 x.f4.f1, .int .i64 x.f4.f2, .int .i64 x.f5], rfl, (k27_mkM w base ok x.f3 ), ⟨[.int .i64 x.f4.f0, .int .i64 x.f4.f1, .int .i64 x.f4.f2], [.int .i64 x.f5], rfl, (k27_mkM w base ok x.f4 ), rfl⟩⟩⟩⟩⟩
def rd_T31 (xs : List S31) (i : Int) : S31 := xs.getD i.toNat z31
theorem at_T31 {w : World} {A : Option Addr} {n : Nat} {xs : List S31} (h : Kd.C k31 w A n xs) (i : Int) (h0 : 0 ≤ i) (h1 : i < n) : ∃ ad , A = some ad ∧ w.cell? (ad.add (i.toNat * 12)) = some (.string (rd_T31 xs i).f0) ∧ w.cell? ⟨(ad.add (i.toNat * 12)).block, (ad.add (i.toNat * 12)).off + 1, none⟩ = some (.string (rd_T31 xs i).f1) ∧ w.cell? ⟨(ad.add (i.toNat * 12)).block, (ad.add (i.toNat * 12)).off + 2, none⟩ = some (.int .i64 (rd_T31 xs i).f2.f0) ∧ w.cell? ⟨(ad.add (i.toNat * 12)).block, (ad.add (i.toNat * 12)).off + 3, none⟩ = some (.int .i64 (rd_T31 xs i).f2.f1) ∧ w.cell? ⟨(ad.add (i.toNat * 12)).block, (ad.add (i.toNat * 12)).off + 4, none⟩ = some (.int .i64 (rd_T31 xs i).f2.f2) ∧ w.cell? ⟨(ad.add (i.toNat * 12)).block, (ad.add (i.toNat * 12)).off + 5, none⟩ = some (.int .i64 (rd_T31 xs i).f3.f0) ∧ w.cell? ⟨(ad.add (i.toNat * 12)).block, (ad.add (i.toNat * 12)).off + 6, none⟩ = some (.int .i64 (rd_T31 xs i).f3.f1) ∧ w.cell? ⟨(ad.add (i.toNat * 12)).block, (ad.add (i.toNat * 12)).off + 7, none⟩ = some (.int .i64 (rd_T31 xs i).f3.f2) ∧ w.cell? ⟨(ad.add (i.toNat * 12)).block, (ad.add (i.toNat * 12)).off + 8, none⟩ = some (.int .i64 (rd_T31 xs i).f4.f0) ∧ w.cell? ⟨(ad.add (i.toNat * 12)).block, (ad.add (i.toNat * 12)).off + 9, none⟩ = some (.int .i64 (rd_T31 xs i).f4.f1) ∧ w.cell? ⟨(ad.add (i.toNat * 12)).block, (ad.add (i.toNat * 12)).off + 10, none⟩ = some (.int .i64 (rd_T31 xs i).f4.f2) ∧ w.cell? ⟨(ad.add (i.toNat * 12)).block, (ad.add (i.toNat * 12)).off + 11, none⟩ = some (.int .i64 (rd_T31 xs i).f5) := by
  obtain ⟨ad, c, e, _, hK, hc0⟩ := Kd.C_get h z31 i h0 h1
  have hc : ∀ j u, c[j]? = some u → w.cell? (ad.add (i.toNat * 12 + j)) = some u := hc0
  obtain rfl := k31_open hK
  exact ⟨ad, e, hc 0 _ rfl, by rw [← add_field _ _ 1 (by omega)]; exact hc 1 _ rfl, by rw [← add_field _ _ 2 (by omega)]; exact hc 2 _ rfl, by rw [← add_field _ _ 3 (by omega)]; exact hc 3 _ rfl, by rw [← add_field _ _ 4 (by omega)]; exact hc 4 _ rfl, by rw [← add_field _ _ 5 (by omega)]; exact hc 5 _ rfl, by rw [← add_field _ _ 6 (by omega)]; exact hc 6 _ rfl, by rw [← add_field _ _ 7 (by omega)]; exact hc 7 _ rfl, by rw [← add_field _ _ 8 (by omega)]; exact hc 8 _ rfl, by rw [← add_field _ _ 9 (by omega)]; exact hc 9 _ rfl, by rw [← add_field _ _ 10 (by omega)]; exact hc 10 _ rfl, by rw [← add_field _ _ 11 (by omega)]; exact hc 11 _ rfl⟩
/-! #### struct type 37 -/
structure S37 where
  f0 : ByteArray
  f1 : Int
/-! #### struct type 54 -/
structure S54 where
  f0 : ByteArray
  f1 : ByteArray
  f2 : S27
  f3 : Int
/-! #### struct type 180 -/
structure S180 where
  f0 : ByteArray
  f1 : ByteArray
  f2 : S27
/-! #### struct type 58 -/
structure S58 where
  f0 : Int
  f1 : ByteArray
  f2 : ByteArray
  f3 : S27
end Go.Proofs.Ytcgefpklljclgaa.Print

namespace Go.Proofs.Ytcgefpklljclgaa.Print
open Go.RowKit Go.Proofs.YtcgefpklljclgaaW.PrintWords Go.Proofs.YtcgefpklljclgaaW.PrintLast Go.Proofs.YtcgefpklljclgaaW.PrintMore
attribute [local go_sem] max2_int min2_int max_two min_two max_three min_three max_four min_four   -- for this text's walks alone
set_option linter.unusedVariables false
set_option linter.unusedSimpArgs false
/-! ### r10_Find: function 50 -/
def r10_Find.l0 : Nat → List (S31) → ByteArray → Int → Option (Int)
 | 0, _, _, _ => none
 | k + 1, x0, x1, x5 => if x5 < (x0.length : Int) then (if 0 ≤ x5 then (if ((rd_T31 x0 x5).f0).toList = x1.toList then (some x5) else (r10_Find.l0 k x0 x1 (wrap64 (x5 + 1)))) else (none)) else (some (-1))
def r10_Find.f (k : Nat) (l0 : List (S31)) (a1 : ByteArray) : Option (Int) := r10_Find.l0 k l0 a1 0
theorem r10_Find.mono_l : ∀ k, (∀ y0 y1 y2, LeO (r10_Find.l0 k y0 y1 y2) (r10_Find.l0 (k + 1) y0 y1 y2))
 | 0 => fun _ _ _ r h => by simp [r10_Find.l0] at h
 | k + 1 => by
  have ih0 := r10_Find.mono_l k
  ·intro y0 y1 y2
   unfold r10_Find.l0
   repeat' first
   | (with_reducible exact ih0 _ _ _)
   | (with_reducible exact LeO.refl _)
   | (with_reducible exact LeO.none _)
   | (with_reducible refine LeO.ite ?_ ?_)
   | (with_reducible refine LeO.bind ?_ (fun _ => ?_))
   | exact ih0 _ _ _
   | exact LeO.none _
   | refine LeO.ite ?_ ?_
   | refine LeO.bind ?_ (fun _ => ?_)
theorem r10_Find.mono : ∀ a0 a1 k, LeO (r10_Find.f k a0 a1) (r10_Find.f (k + 1) a0 a1) := by
 intro a0 a1 k
 have ih0 := r10_Find.mono_l k
 unfold r10_Find.f
 repeat' first
   | (with_reducible exact ih0 _ _ _)
   | (with_reducible exact LeO.refl _)
   | (with_reducible exact LeO.none _)
   | (with_reducible refine LeO.ite ?_ ?_)
   | (with_reducible refine LeO.bind ?_ (fun _ => ?_))
   | exact ih0 _ _ _
   | exact LeO.none _
   | refine LeO.ite ?_ ?_
   | refine LeO.bind ?_ (fun _ => ?_)
set_option maxHeartbeats 8000000 in
set_option maxRecDepth 100000 in
theorem r10_Find.calls (k : Nat) (A0 : Option Addr) (c0 : Nat) (l0 : List (S31)) (a1 : ByteArray) (r : Int) (w : World) (hr0 : Kd.C k31 w A0 l0.length l0) (hc0 : l0.length ≤ c0) (h : r10_Find.f k l0 a1 = some r) :
  Calls Try.prog 50 #[.slice A0 l0.length c0, .string a1] w fun e w' => e = .returned (.int .i64 r) ∧ Drawn0 w w' := by
 have HR0 := Aside0.mk hr0
 have HC0 := Aside0.mk hc0
 clear hr0 hc0
 have H : (r10_Find.l0 k l0 a1 0) = some r := h
 clear h
 have H' := Aside0.mk H
 clear H
 go_enter Try.func50, Try.ntmps50
 go_wp2
 go_loopg [5] k (fun kq v5 w' => ∃ (x5_1 : Int), v5 = .int .i64 x5_1 ∧ Aside0 (r10_Find.l0 kq l0 a1 x5_1 = some r) ∧ Aside0 (kq ≤ k) ∧ Drawn0 w w')
 case atStart => exact ⟨(0), (by first | rfl | (simp; done) | (simp [*]; done)), H', ⟨Nat.le_refl _⟩, by repeat (first | exact Drawn0.refl _ | apply Drawn0.step)⟩
 case round =>
  clear H'
  try clear p2
  obtain ⟨x5_1, rfl, HA, HK1, ⟨m1, rfl⟩⟩ := hrel
  cases gk with
  | zero => exact absurd HA.out (by simp [r10_Find.l0])
  | succ k1 =>
   have H := HA.out
   clear HA
   simp only [r10_Find.l0] at H
   by_cases c3 : x5_1 < (l0.length : Int)
   ·rw [if_pos c3] at H
    have c3b0 : decide (x5_1 < (l0.length : Int)) = true := decide_eq_true c3
    clear c3
    by_cases c4 : 0 ≤ x5_1
    ·rw [if_pos c4] at H
     have c4b0 : decide (0 ≤ x5_1) = true := decide_eq_true c4
     clear c4
     by_cases c5 : ((rd_T31 l0 x5_1).f0).toList = a1.toList
     ·rw [if_pos c5] at H
      have c5b0 : (((rd_T31 l0 x5_1).f0).toList == a1.toList) = true := beq_iff_eq.mpr c5
      have c5b1 : (((rd_T31 l0 x5_1).f0).toList != a1.toList) = false := bne_eq_false_iff_eq.mpr c5
      clear c5
      obtain rfl := Option.some.inj H
      have p1 : 0 ≤ (x5_1 : Int) := of_decide_eq_true (by first|(with_reducible assumption)|assumption)
      have q1 : x5_1 < (l0.length : Int) := of_decide_eq_true (by first|(with_reducible assumption)|assumption)
      obtain ⟨ad1, e1, hx1_0, hx1_1, hx1_2, hx1_3, hx1_4, hx1_5, hx1_6, hx1_7, hx1_8, hx1_9, hx1_10, hx1_11⟩ := at_T31 HR0.out x5_1 p1 q1
      cases e1
      replace p1 := eq_true p1
      replace q1 := eq_true q1
      go_wp2
      go_ret
      exact ⟨by first | rfl | (simp; done) | (simp [*]; done), by repeat (first | exact Drawn0.refl _ | apply Drawn0.step)⟩
     ·rw [if_neg c5] at H
      have c5b0 : (((rd_T31 l0 x5_1).f0).toList == a1.toList) = false := beq_eq_false_iff_ne.mpr c5
      have c5b1 : (((rd_T31 l0 x5_1).f0).toList != a1.toList) = true := bne_iff_ne.mpr c5
      have H' := Aside0.mk H
      clear H
      have p1 : 0 ≤ (x5_1 : Int) := of_decide_eq_true (by first|(with_reducible assumption)|assumption)
      have q1 : x5_1 < (l0.length : Int) := of_decide_eq_true (by first|(with_reducible assumption)|assumption)
      obtain ⟨ad1, e1, hx1_0, hx1_1, hx1_2, hx1_3, hx1_4, hx1_5, hx1_6, hx1_7, hx1_8, hx1_9, hx1_10, hx1_11⟩ := at_T31 HR0.out x5_1 p1 q1
      cases e1
      replace p1 := eq_true p1
      replace q1 := eq_true q1
      go_wp2
      go_roundg k1
      case measure => have := HK1.out; omega
      case rel => exact ⟨(wrap64 (x5_1 + 1)), (by first|rfl|(simp;done)|(simp [*];done)), H', ⟨by have := HK1.out;omega⟩, by repeat (first|exact Drawn0.refl _|apply Drawn0.step)⟩
    ·rw [if_neg c4] at H
     exact absurd H (by simp)
   ·rw [if_neg c3] at H
    have c3b0 : decide (x5_1 < (l0.length : Int)) = false := decide_eq_false c3
    clear c3
    obtain rfl := Option.some.inj H
    go_wp2
    go_ret
    exact ⟨by first | rfl | (simp; done) | (simp [*]; done), by repeat (first | exact Drawn0.refl _ | apply Drawn0.step)⟩
end Go.Proofs.Ytcgefpklljclgaa.Print

namespace Go.Proofs.Ytcgefpklljclgaa.Print
open Go.RowKit Go.Proofs.YtcgefpklljclgaaW.PrintWords Go.Proofs.YtcgefpklljclgaaW.PrintLast Go.Proofs.YtcgefpklljclgaaW.PrintMore
attribute [local go_sem] max2_int min2_int max_two min_two max_three min_three max_four min_four   -- for this text's walks alone
set_option linter.unusedVariables false
set_option linter.unusedSimpArgs false
/-! ### r10_unit: function 123 -/
def r10_unit.f (a0 : Int) : Option (Bool) := if a0 ≥ 0 then (some (decide (a0 ≤ 1099511627776))) else (some false)
set_option maxHeartbeats 8000000 in
set_option maxRecDepth 100000 in
theorem r10_unit.calls (a0 : Int) (r : Bool) (w : World) (h : r10_unit.f a0 = some r) :
  Calls Try.prog 123 #[.int .i64 a0] w fun e w' => e = .returned (.bool r) ∧ Drawn0 w w' := by
 have H : (if a0 ≥ 0 then (some (decide (a0 ≤ 1099511627776))) else (some false)) = some r := h
 clear h
 by_cases c2 : a0 ≥ 0
 ·rw [if_pos c2] at H
  have c2b0 : decide (0 ≤ a0) = true := decide_eq_true c2
  clear c2
  obtain rfl := Option.some.inj H
  go_enter Try.func123, Try.ntmps123
  go_wp2
  go_ret
  exact ⟨by first | rfl | (simp; done) | (simp [*]; done), by repeat (first | exact Drawn0.refl _ | apply Drawn0.step)⟩
 ·rw [if_neg c2] at H
  have c2b0 : decide (0 ≤ a0) = false := decide_eq_false c2
  clear c2
  obtain rfl := Option.some.inj H
  go_enter Try.func123, Try.ntmps123
  go_wp2
  go_ret
  exact ⟨by first | rfl | (simp; done) | (simp [*]; done), by repeat (first | exact Drawn0.refl _ | apply Drawn0.step)⟩
end Go.Proofs.Ytcgefpklljclgaa.Print

namespace Go.Proofs.Ytcgefpklljclgaa.Print
open Go.RowKit Go.Proofs.YtcgefpklljclgaaW.PrintWords Go.Proofs.YtcgefpklljclgaaW.PrintLast Go.Proofs.YtcgefpklljclgaaW.PrintMore
attribute [local go_sem] max2_int min2_int max_two min_two max_three min_three max_four min_four   -- for this text's walks alone
set_option linter.unusedVariables false
set_option linter.unusedSimpArgs false
/-! ### r10_MayVec: function 65 -/
def r10_MayVec.f (a0_0 : Int) (a0_1 : Int) (a0_2 : Int) : Option (Bool) := (r10_unit.f a0_0).bind fun t2 => (if t2 = true then ((r10_unit.f a0_1).bind fun t3 => (if t3 = true then ((r10_unit.f a0_2).bind fun t4 => (some t4)) else (some false))) else (some false))
set_option maxHeartbeats 8000000 in
set_option maxRecDepth 100000 in
theorem r10_MayVec.calls (a0_0 : Int) (a0_1 : Int) (a0_2 : Int) (r : Bool) (w : World) (h : r10_MayVec.f a0_0 a0_1 a0_2 = some r) :
  Calls Try.prog 65 #[.agg #[.int .i64 a0_0, .int .i64 a0_1, .int .i64 a0_2]] w fun e w' => e = .returned (.bool r) ∧ Below w.heap.size w w' := by
 have hu27 := Try.underlying27
 have HB := Aside0.mk (Below.refl w.heap.size w)
 have H : ((r10_unit.f a0_0).bind fun t2 => (if t2 = true then ((r10_unit.f a0_1).bind fun t3 => (if t3 = true then ((r10_unit.f a0_2).bind fun t4 => (some t4)) else (some false))) else (some false))) = some r := h
 clear h
 replace H := Option.bind_eq_some_iff.mp H
 obtain ⟨t2, A20, H⟩ := H
 replace H : (if t2 = true then ((r10_unit.f a0_1).bind fun t3 => (if t3 = true then ((r10_unit.f a0_2).bind fun t4 => (some t4)) else (some false))) else (some false)) = some r := H
 have A2 := Aside0.mk A20
 clear A20
 by_cases c3 : t2 = true
 ·subst c3
  have H1 : ((r10_unit.f a0_1).bind fun t3 => (if t3 = true then ((r10_unit.f a0_2).bind fun t4 => (some t4)) else (some false))) = some r := by rw [if_pos rfl] at H; exact H
  clear H
  have H := H1
  clear H1
  replace H := Option.bind_eq_some_iff.mp H
  obtain ⟨t3, A40, H⟩ := H
  replace H : (if t3 = true then ((r10_unit.f a0_2).bind fun t4 => (some t4)) else (some false)) = some r := H
  have A4 := Aside0.mk A40
  clear A40
  by_cases c5 : t3 = true
  ·subst c5
   have H1 : ((r10_unit.f a0_2).bind fun t4 => (some t4)) = some r := by rw [if_pos rfl] at H; exact H
   clear H
   have H := H1
   clear H1
   replace H := Option.bind_eq_some_iff.mp H
   obtain ⟨t4, A60, H⟩ := H
   replace H : (some t4) = some r := H
   have A6 := Aside0.mk A60
   clear A60
   obtain rfl := Option.some.inj H
   go_enter Try.func65, Try.ntmps65
   go_wp2_with (first|((with_reducible refine gate_dst (N := 1) rfl ?_);refine box_event ?hg (N := 1) ?hd (cs := #[.int .i64 a0_0, .int .i64 a0_1, .int .i64 a0_2]) (t := 27) ?hr ?_;(case hd => rfl);(case hg => rfl);(case hr => first|(go_simp;done)|(go_simp;rfl));intro gb1 hg w7 hbox hb;have n0_ := Aside0.mk (below_step (by repeat (first|(with_reducible first|exact HB.out|apply below_alloc|apply pw_below_drewN|apply below_drew1)|exact HB.out)) hb);have n1_ := Aside0.mk (hbox);have n2_ := Aside0.mk ((by rw [hg];exact (below_size (by repeat (first|(with_reducible first|exact HB.out|apply below_alloc|apply pw_below_drewN|apply below_drew1)|exact HB.out))) : w.heap.size ≤ gb1));have n3_ := Aside0.mk ((by rw [hg];exact (below_size (by repeat (first|(with_reducible first|exact HB.out|apply below_alloc|apply pw_below_drewN|apply below_drew1)|exact HB.out))) : w.heap.size ≤ gb1));clear HB;have HB := n0_;have BK1 := n1_;have GW1 := n2_;have GE1 := n3_;clear n0_ n1_ n2_ n3_;clear hb hbox hg;have hcz8_0 : w7.cell? ⟨gb1, 0, none⟩ = some (.int .i64 a0_0) := (blk_cell BK1.out 0).trans rfl;have hcz8_1 : w7.cell? ⟨gb1, 1, none⟩ = some (.int .i64 a0_1) := (blk_cell BK1.out 1).trans rfl;have hcz8_2 : w7.cell? ⟨gb1, 2, none⟩ = some (.int .i64 a0_2) := (blk_cell BK1.out 2).trans rfl;have hfz8_0 := blk_frozen BK1.out 0;have hfz8_1 := blk_frozen BK1.out 1;have hfz8_2 := blk_frozen BK1.out 2)|((with_reducible refine gate_callee (f := 123) rfl ?_);refine goesL_ (some 5) rfl rfl Try.func123 (by kernel_rfl) rfl #[.int .i64 a0_0] rfl (by (try simp only [List.map_toArray, List.map_cons, List.map_nil]);first|done|rfl|(simp only [List.length_drop, List.length_take];rfl)) ?_;(with_reducible refine (r10_unit.calls a0_0 true _ A2.out).mono ?_);rintro e w' ⟨rfl, ⟨nd, rfl⟩⟩;refine ⟨_, rfl, ?_⟩)|(go_at_call 123;(with_reducible refine (r10_unit.calls a0_1 true _ A4.out).mono ?_);rintro e w' ⟨rfl, ⟨nd, rfl⟩⟩)|(go_at_call 123;(with_reducible refine (r10_unit.calls a0_2 t4 _ A6.out).mono ?_);rintro e w' ⟨rfl, ⟨nd, rfl⟩⟩))
   go_ret
   exact ⟨by first|rfl|(simp [errW_none, errW_some] <;> rfl)|(simp [*, errW_none, errW_some] <;> rfl), by repeat (first|(with_reducible first|exact HB.out|apply below_alloc|apply pw_below_drewN|apply below_drew1|refine below_set ?_ GE1.out)|exact HB.out)⟩
  ·replace c5 := Bool.eq_false_iff.mpr c5
   subst c5
   have H1 : (some false) = some r := by rw [if_neg (show ¬ (false = true) by decide)] at H; exact H
   clear H
   have H := H1
   clear H1
   obtain rfl := Option.some.inj H
   go_enter Try.func65, Try.ntmps65
   go_wp2_with (first|((with_reducible refine gate_dst (N := 1) rfl ?_);refine box_event ?hg (N := 1) ?hd (cs := #[.int .i64 a0_0, .int .i64 a0_1, .int .i64 a0_2]) (t := 27) ?hr ?_;(case hd => rfl);(case hg => rfl);(case hr => first|(go_simp;done)|(go_simp;rfl));intro gb1 hg w9 hbox hb;have n0_ := Aside0.mk (below_step (by repeat (first|(with_reducible first|exact HB.out|apply below_alloc|apply pw_below_drewN|apply below_drew1)|exact HB.out)) hb);have n1_ := Aside0.mk (hbox);have n2_ := Aside0.mk ((by rw [hg];exact (below_size (by repeat (first|(with_reducible first|exact HB.out|apply below_alloc|apply pw_below_drewN|apply below_drew1)|exact HB.out))) : w.heap.size ≤ gb1));have n3_ := Aside0.mk ((by rw [hg];exact (below_size (by repeat (first|(with_reducible first|exact HB.out|apply below_alloc|apply pw_below_drewN|apply below_drew1)|exact HB.out))) : w.heap.size ≤ gb1));clear HB;have HB := n0_;have BK1 := n1_;have GW1 := n2_;have GE1 := n3_;clear n0_ n1_ n2_ n3_;clear hb hbox hg;have hcz10_0 : w9.cell? ⟨gb1, 0, none⟩ = some (.int .i64 a0_0) := (blk_cell BK1.out 0).trans rfl;have hcz10_1 : w9.cell? ⟨gb1, 1, none⟩ = some (.int .i64 a0_1) := (blk_cell BK1.out 1).trans rfl;have hcz10_2 : w9.cell? ⟨gb1, 2, none⟩ = some (.int .i64 a0_2) := (blk_cell BK1.out 2).trans rfl;have hfz10_0 := blk_frozen BK1.out 0;have hfz10_1 := blk_frozen BK1.out 1;have hfz10_2 := blk_frozen BK1.out 2)|((with_reducible refine gate_callee (f := 123) rfl ?_);refine goesL_ (some 5) rfl rfl Try.func123 (by kernel_rfl) rfl #[.int .i64 a0_0] rfl (by (try simp only [List.map_toArray, List.map_cons, List.map_nil]);first|done|rfl|(simp only [List.length_drop, List.length_take];rfl)) ?_;(with_reducible refine (r10_unit.calls a0_0 true _ A2.out).mono ?_);rintro e w' ⟨rfl, ⟨nd, rfl⟩⟩;refine ⟨_, rfl, ?_⟩)|(go_at_call 123;(with_reducible refine (r10_unit.calls a0_1 false _ A4.out).mono ?_);rintro e w' ⟨rfl, ⟨nd, rfl⟩⟩))
   go_ret
   exact ⟨by first|rfl|(simp [errW_none, errW_some] <;> rfl)|(simp [*, errW_none, errW_some] <;> rfl), by repeat (first|(with_reducible first|exact HB.out|apply below_alloc|apply pw_below_drewN|apply below_drew1|refine below_set ?_ GE1.out)|exact HB.out)⟩
 ·replace c3 := Bool.eq_false_iff.mpr c3
  subst c3
  have H1 : (some false) = some r := by rw [if_neg (show ¬ (false = true) by decide)] at H; exact H
  clear H
  have H := H1
  clear H1
  obtain rfl := Option.some.inj H
  go_enter Try.func65, Try.ntmps65
  go_wp2_with (first|((with_reducible refine gate_dst (N := 1) rfl ?_);refine box_event ?hg (N := 1) ?hd (cs := #[.int .i64 a0_0, .int .i64 a0_1, .int .i64 a0_2]) (t := 27) ?hr ?_;(case hd => rfl);(case hg => rfl);(case hr => first|(go_simp;done)|(go_simp;rfl));intro gb1 hg w11 hbox hb;have n0_ := Aside0.mk (below_step (by repeat (first|(with_reducible first|exact HB.out|apply below_alloc|apply pw_below_drewN|apply below_drew1)|exact HB.out)) hb);have n1_ := Aside0.mk (hbox);have n2_ := Aside0.mk ((by rw [hg];exact (below_size (by repeat (first|(with_reducible first|exact HB.out|apply below_alloc|apply pw_below_drewN|apply below_drew1)|exact HB.out))) : w.heap.size ≤ gb1));have n3_ := Aside0.mk ((by rw [hg];exact (below_size (by repeat (first|(with_reducible first|exact HB.out|apply below_alloc|apply pw_below_drewN|apply below_drew1)|exact HB.out))) : w.heap.size ≤ gb1));clear HB;have HB := n0_;have BK1 := n1_;have GW1 := n2_;have GE1 := n3_;clear n0_ n1_ n2_ n3_;clear hb hbox hg;have hcz12_0 : w11.cell? ⟨gb1, 0, none⟩ = some (.int .i64 a0_0) := (blk_cell BK1.out 0).trans rfl;have hcz12_1 : w11.cell? ⟨gb1, 1, none⟩ = some (.int .i64 a0_1) := (blk_cell BK1.out 1).trans rfl;have hcz12_2 : w11.cell? ⟨gb1, 2, none⟩ = some (.int .i64 a0_2) := (blk_cell BK1.out 2).trans rfl;have hfz12_0 := blk_frozen BK1.out 0;have hfz12_1 := blk_frozen BK1.out 1;have hfz12_2 := blk_frozen BK1.out 2)|((with_reducible refine gate_callee (f := 123) rfl ?_);refine goesL_ (some 5) rfl rfl Try.func123 (by kernel_rfl) rfl #[.int .i64 a0_0] rfl (by (try simp only [List.map_toArray, List.map_cons, List.map_nil]);first|done|rfl|(simp only [List.length_drop, List.length_take];rfl)) ?_;(with_reducible refine (r10_unit.calls a0_0 false _ A2.out).mono ?_);rintro e w' ⟨rfl, ⟨nd, rfl⟩⟩;refine ⟨_, rfl, ?_⟩))
  go_ret
  exact ⟨by first|rfl|(simp [errW_none, errW_some] <;> rfl)|(simp [*, errW_none, errW_some] <;> rfl), by repeat (first|(with_reducible first|exact HB.out|apply below_alloc|apply pw_below_drewN|apply below_drew1|refine below_set ?_ GE1.out)|exact HB.out)⟩
end Go.Proofs.Ytcgefpklljclgaa.Print

namespace Go.Proofs.Ytcgefpklljclgaa.Print
open Go.RowKit Go.Proofs.YtcgefpklljclgaaW.PrintWords Go.Proofs.YtcgefpklljclgaaW.PrintLast Go.Proofs.YtcgefpklljclgaaW.PrintMore
attribute [local go_sem] max2_int min2_int max_two min_two max_three min_three max_four min_four   -- for this text's walks alone
set_option linter.unusedVariables false
set_option linter.unusedSimpArgs false
/-! ### r10_MayName: function 105 -/
def r10_MayName.f (a0 : ByteArray) : Option (Bool) := if a0.toList = ([] : List UInt8) then (some false) else (some (decide ((a0.size : Int) ≤ 24)))
set_option maxHeartbeats 8000000 in
set_option maxRecDepth 100000 in
theorem r10_MayName.calls (a0 : ByteArray) (r : Bool) (w : World) (h : r10_MayName.f a0 = some r) :
  Calls Try.prog 105 #[.string a0] w fun e w' => e = .returned (.bool r) ∧ Drawn0 w w' := by
 have H : (if a0.toList = ([] : List UInt8) then (some false) else (some (decide ((a0.size : Int) ≤ 24)))) = some r := h
 clear h
 by_cases c2 : a0.toList = ([] : List UInt8)
 ·rw [if_pos c2] at H
  have c2b0 : (a0.toList == ([] : List UInt8)) = true := beq_iff_eq.mpr c2
  have c2b1 : (a0.toList != ([] : List UInt8)) = false := bne_eq_false_iff_eq.mpr c2
  clear c2
  obtain rfl := Option.some.inj H
  go_enter Try.func105, Try.ntmps105
  go_wp2
  go_ret
  exact ⟨by first | rfl | (simp; done) | (simp [*]; done), by repeat (first | exact Drawn0.refl _ | apply Drawn0.step)⟩
 ·rw [if_neg c2] at H
  have c2b0 : (a0.toList == ([] : List UInt8)) = false := beq_eq_false_iff_ne.mpr c2
  have c2b1 : (a0.toList != ([] : List UInt8)) = true := bne_iff_ne.mpr c2
  obtain rfl := Option.some.inj H
  go_enter Try.func105, Try.ntmps105
  go_wp2
  go_ret
  exact ⟨by first | rfl | (simp; done) | (simp [*]; done), by repeat (first | exact Drawn0.refl _ | apply Drawn0.step)⟩
end Go.Proofs.Ytcgefpklljclgaa.Print

namespace Go.Proofs.Ytcgefpklljclgaa.Print
open Go.RowKit Go.Proofs.YtcgefpklljclgaaW.PrintWords Go.Proofs.YtcgefpklljclgaaW.PrintLast Go.Proofs.YtcgefpklljclgaaW.PrintMore
attribute [local go_sem] max2_int min2_int max_two min_two max_three min_three max_four min_four   -- for this text's walks alone
set_option linter.unusedVariables false
set_option linter.unusedSimpArgs false
/-! ### r10_no: function 113 -/
def r10_no.f (a0 : Int) : Option ((List (S31)) × Int) := some (([] : List (S31)), a0)
set_option maxHeartbeats 8000000 in
set_option maxRecDepth 100000 in
theorem r10_no.calls (a0 : Int) (r1 : List (S31)) (r2 : Int) (w : World) (h : r10_no.f a0 = some (r1, r2)) :
  Calls Try.prog 113 #[.int .i64 a0] w fun e w' => ∃ v0_ : Value, e = .returned (.agg #[v0_, .int .i64 r2]) ∧ Kd.R k31 31 w' w.heap.size (fun _ => True) v0_ r1 ∧ Below w.heap.size w w' := by
 have hu67 := Try.underlying67
 have HB := Aside0.mk (Below.refl w.heap.size w)
 have H : (some (([] : List (S31)), a0)) = some (r1, r2) := h
 clear h
 simp only [Option.some.injEq, Prod.mk.injEq] at H
 obtain ⟨rfl, rfl⟩ := H
 go_enter Try.func113, Try.ntmps113
 go_wp2_with (first|((with_reducible refine gate_dst (N := 2) rfl ?_);refine box_event ?hg (N := 2) ?hd (cs := #[.slice none 0 0, .int .i64 0]) (t := 67) ?hr ?_;(case hd => rfl);(case hg => rfl);(case hr => first|(go_simp;done)|(go_simp;rfl));intro gb1 hg w2 hbox hb;have n0_ := Aside0.mk (below_step (by repeat (first|(with_reducible first|exact HB.out|apply below_alloc|apply pw_below_drewN|apply below_drew1)|exact HB.out)) hb);have n1_ := Aside0.mk (hbox);have n2_ := Aside0.mk ((by rw [hg];exact (below_size (by repeat (first|(with_reducible first|exact HB.out|apply below_alloc|apply pw_below_drewN|apply below_drew1)|exact HB.out))) : w.heap.size ≤ gb1));have n3_ := Aside0.mk ((by rw [hg];exact (below_size (by repeat (first|(with_reducible first|exact HB.out|apply below_alloc|apply pw_below_drewN|apply below_drew1)|exact HB.out))) : w.heap.size ≤ gb1));clear HB;have HB := n0_;have BK1 := n1_;have GW1 := n2_;have GE1 := n3_;clear n0_ n1_ n2_ n3_;clear hb hbox hg;have hcz3_0 : w2.cell? ⟨gb1, 0, none⟩ = some (.slice none 0 0) := (blk_cell BK1.out 0).trans rfl;have hcz3_1 : w2.cell? ⟨gb1, 1, none⟩ = some (.int .i64 0) := (blk_cell BK1.out 1).trans rfl;have hfz3_0 := blk_frozen BK1.out 0;have hfz3_1 := blk_frozen BK1.out 1))
 refine bodyPost_ret (results_cell_row rfl _ _ gb1 67 #[.slice none 0 0, .int .i64 a0] (0, 0) _ rfl (by (with_reducible repeat (first|refine blk_drewN ?_ _|refine blk_drew ?_|refine blk_alloc ?_ _));refine blk_put (cs := #[.slice none 0 0, .int .i64 0]) ?_ 1 _ rfl;(with_reducible repeat (first|refine blk_drewN ?_ _|refine blk_drew ?_|refine blk_alloc ?_ _));refine blk_put (cs := #[.slice none 0 0, .int .i64 0]) ?_ 0 _ rfl;(with_reducible repeat (first|refine blk_drewN ?_ _|refine blk_drew ?_|refine blk_alloc ?_ _));exact BK1.out) Try.underlying67 rfl (by kernel_rfl)) rfl ?_
 exact ⟨_, by first|rfl|(simp [errW_none, errW_some] <;> rfl)|(simp [*, errW_none, errW_some] <;> rfl), by first|exact Kd.R_nil _ _ _ _ _|exact Kd.N_nil _ _ _ _ _|exact Kd.V_nil _ _ _ _ _|exact Kd.Q_nil _ _ _ _ _|exact Kd.S_nil _ _ _ _ _, by repeat (first|(with_reducible first|exact HB.out|apply below_alloc|apply pw_below_drewN|apply below_drew1|refine below_set ?_ GE1.out)|exact HB.out)⟩
end Go.Proofs.Ytcgefpklljclgaa.Print

namespace Go.Proofs.Ytcgefpklljclgaa.Print
open Go.RowKit Go.Proofs.YtcgefpklljclgaaW.PrintWords Go.Proofs.YtcgefpklljclgaaW.PrintLast Go.Proofs.YtcgefpklljclgaaW.PrintMore
attribute [local go_sem] max2_int min2_int max_two min_two max_three min_three max_four min_four   -- for this text's walks alone
set_option linter.unusedVariables false
set_option linter.unusedSimpArgs false
/-! ### r10_copied: function 124 -/
def r10_copied.f (l0 : List (S31)) : Option ((List (S31))) := (some (([] : List (S31)) : List (S31))).bind fun y1 => (if y1.length + l0.length < 1256584717458 then (some (y1 ++ l0)) else (none))
set_option maxHeartbeats 8000000 in
set_option maxRecDepth 100000 in
theorem r10_copied.calls (A0 : Option Addr) (c0 : Nat) (l0 : List (S31)) (r : List (S31)) (w : World) (hr0 : Kd.C k31 w A0 l0.length l0) (hc0 : l0.length ≤ c0) (h : r10_copied.f l0 = some r) :
  Calls Try.prog 124 #[.slice A0 l0.length c0] w fun e w' => ∃ v0_ : Value, e = .returned (v0_) ∧ Kd.R k31 31 w' w.heap.size (fun _ => True) v0_ r ∧ Below w.heap.size w w' := by
 have HR0 := Aside0.mk hr0
 have HC0 := Aside0.mk hc0
 clear hr0 hc0
 have HB := Aside0.mk (Below.refl w.heap.size w)
 have H : ((some (([] : List (S31)) : List (S31))).bind fun y1 => (if y1.length + l0.length < 1256584717458 then (some (y1 ++ l0)) else (none))) = some r := h
 clear h
 obtain ⟨y1, hy1⟩ : ∃ y_ : List (S31), y_ = (([] : List (S31))) := ⟨_, rfl⟩
 replace H : (if y1.length + l0.length < 1256584717458 then (some (y1 ++ l0)) else (none)) = some r := by first|(rw [hy1];with_reducible exact H)|(have H2_ := (Option.bind_some _ _).symm.trans H;rw [hy1];with_reducible exact H2_)|(have H2_ := (Option.bind_some _ _).symm.trans H;with_reducible exact H2_)|with_reducible exact H|(rw [hy1];exact H)|exact H
 have Ny1 := Aside0.mk hy1
 clear hy1
 by_cases c2 : y1.length + l0.length < 1256584717458
 ·rw [if_pos c2] at H
  have LMc2 := Aside0.mk c2
  clear c2
  obtain ⟨y4, hy4⟩ : ∃ y_ : List (S31), y_ = (y1 ++ l0) := ⟨_, rfl⟩
  replace H : (some y4) = some r := by first|(rw [hy4];with_reducible exact H)|(have H2_ := (Option.bind_some _ _).symm.trans H;rw [hy4];with_reducible exact H2_)|(have H2_ := (Option.bind_some _ _).symm.trans H;with_reducible exact H2_)|with_reducible exact H|(rw [hy4];exact H)|exact H
  have Ny4 := Aside0.mk hy4
  clear hy4
  obtain rfl := Option.some.inj H
  go_enter Try.func124, Try.ntmps124
  go_wp2_with (first|((with_reducible refine gate_dst (N := 3) rfl ?_);refine Kd.R_lit k31 _ 31 ?hg (N := 3) ?hd (xs := ([] : List (S31))) (inner := []) (ok := fun _ => True) (okp := fun _ => True) ?hr ?hp (fun _ hk => hk) trivial (Below.refl _ _) (Nat.le_refl _) (by simp) ?_;(case hd => rfl);(case hg => rfl);(case hr => first|(go_simp;done)|(go_simp;rfl));(case hp => exact (Reps.none _ _));intro v2 w3 ho4 hb hg_ hnew_;clear hg_ hnew_;(first|rw [← Ny1.out] at ho4|(simp only [Int.reduceToNat] at ho4;rw [← Ny1.out] at ho4));have n0_ := Aside0.mk (Kd.R_lower ho4 (below_size (by repeat (first|(with_reducible first|exact HB.out|apply below_alloc|apply pw_below_drewN|apply below_drew1)|exact HB.out))));have n1_ := Aside0.mk (below_step (by repeat (first|(with_reducible first|exact HB.out|apply below_alloc|apply pw_below_drewN|apply below_drew1)|exact HB.out)) hb);clear HB;have HO3 := n0_;have HB := n1_;clear n0_ n1_;clear hb ho4)|((with_reducible refine gate_builtin (b := .append) (xs := #[.tmp 3, .tmp 4]) rfl ?_);at_builtin;refine Kd.R_append_rows k31 (w0 := w) w.heap.size rfl (.tmp 3) (.tmp 4) 24 31 (.agg #[(.string ⟨#[]⟩), (.string ⟨#[]⟩), (.int .i64 0), (.int .i64 0), (.int .i64 0), (.int .i64 0), (.int .i64 0), (.int .i64 0), (.int .i64 0), (.int .i64 0), (.int .i64 0), (.int .i64 0)]) 112 rfl Try.underlying24 info31 rfl (by decide) (by omega) v2 y1 l0 _ _ _ (fun _ => True) (fun _ => False) rfl rfl ?aO ?aR (fun _ _ h => h) (fun _ h => h.elim) ?aF ?aB ?aS ?aL ?_;(case aR => repeat (first|exact (Kd.C_below HR0.out HB.out)|(with_reducible refine Kd.C_alloc ?_ _)|(with_reducible refine Kd.C_drewN ?_ _)|(with_reducible refine Kd.C_drew ?_)));(case aB => exact (by repeat (first|(with_reducible first|exact HB.out|apply below_alloc|apply pw_below_drewN|apply below_drew1)|exact HB.out)));(case aF => exact (fun _ _ => trivial));(case aO => exact (by (with_reducible repeat (first|apply Kd.R_alloc|apply Kd.R_drewN|apply Kd.R_drew));exact HO3.out));(case aS => exact (below_size (by repeat (first|(with_reducible first|exact HB.out|apply below_alloc|apply pw_below_drewN|apply below_drew1)|exact HB.out))));(case aL => have := LMc2.out;omega);intro v5 w5 ho hb hg hat;rw [← Ny4.out] at ho;have n0_ := Aside0.mk (hb);have n1_ := Aside0.mk (ho);clear HB;clear HO3;have HB := n0_;have HO6 := n1_;clear n0_ n1_;clear ho hb hg hat))
  go_ret
  exact ⟨_, by first|rfl|(simp [errW_none, errW_some] <;> rfl)|(simp [*, errW_none, errW_some] <;> rfl), by (with_reducible repeat (first|apply Kd.R_alloc|apply Kd.R_drewN|apply Kd.R_drew));exact HO6.out, by repeat (first|(with_reducible first|exact HB.out|apply below_alloc|apply pw_below_drewN|apply below_drew1)|exact HB.out)⟩
 ·rw [if_neg c2] at H
  exact absurd H (by simp)
end Go.Proofs.Ytcgefpklljclgaa.Print

namespace Go.Proofs.Ytcgefpklljclgaa.Print
open Go.RowKit Go.Proofs.YtcgefpklljclgaaW.PrintWords Go.Proofs.YtcgefpklljclgaaW.PrintLast Go.Proofs.YtcgefpklljclgaaW.PrintMore
attribute [local go_sem] max2_int min2_int max_two min_two max_three min_three max_four min_four   -- for this text's walks alone
set_option linter.unusedVariables false
set_option linter.unusedSimpArgs false
mutual
def r10_Create.j0 : Nat → List (S31) → ByteArray → ByteArray → Bool → Int → Int → Int → Option ((List (S31)) × Int)
 | 0, _, _, _, _, _, _, _ => none
 | k + 1, x0, x1, x2, x11, x2000, x2001, x2002 => if x11 = true then ((r10_no.f 1).bind fun bt5 => (some (bt5.1, bt5.2))) else ((r10_Find.f k x0 x1).bind fun t9 => (if t9 ≥ 0 then ((r10_no.f 3).bind fun bt10 => (some (bt10.1, bt10.2))) else (if x2.toList = ([] : List UInt8) then (r10_Create.j1 k x0 x1 x2 false x2000 x2001 x2002) else ((r10_Find.f k x0 x2).bind fun t14 => (r10_Create.j1 k x0 x1 x2 (decide (t14 < 0)) x2000 x2001 x2002)))))
def r10_Create.j1 : Nat → List (S31) → ByteArray → ByteArray → Bool → Int → Int → Int → Option ((List (S31)) × Int)
 | 0, _, _, _, _, _, _, _ => none
 | k + 1, x0, x1, x2, x27, x2000, x2001, x2002 => if x27 = true then ((r10_no.f 2).bind fun bt15 => (some (bt15.1, bt15.2))) else (if (x0.length : Int) ≥ 120 then ((r10_no.f 4).bind fun bt19 => (some (bt19.1, bt19.2))) else (r10_Create.l0 k x0 x1 x2 0 x2000 x2001 x2002))
def r10_Create.l0 : Nat → List (S31) → ByteArray → ByteArray → Int → Int → Int → Int → Option ((List (S31)) × Int)
 | 0, _, _, _, _, _, _, _ => none
 | k + 1, x0, x1, x2, x9, x2000, x2001, x2002 => if x9 < (x0.length : Int) then (if 0 ≤ x9 then (if (Op.bytesLess (((rd_T31 x0 x9).f0).toList) x1.toList) = true then (r10_Create.l0 k x0 x1 x2 (wrap64 (x9 + 1)) x2000 x2001 x2002) else (if x9 ≤ (x0.length : Int) then ((r10_copied.f (x0.take (x9 : Int).toNat)).bind fun t28 => (if t28.length < 1256584717458 then ((some (t28 ++ [(⟨x1, x2, (⟨x2000, x2001, x2002⟩ : S27), (⟨0, 0, 0⟩ : S27), (⟨0, 0, 0⟩ : S27), 1⟩ : S31)] : List (S31))).bind fun y31 => ((some (x0.drop (x9 : Int).toNat : List (S31))).bind fun y34 => (if y31.length + y34.length < 1256584717458 then (some ((y31 ++ y34), 0)) else (none)))) else (none))) else (none))) else (none)) else (if 0 ≤ x9 then (if x9 ≤ (x0.length : Int) then ((r10_copied.f (x0.take (x9 : Int).toNat)).bind fun t45 => (if t45.length < 1256584717458 then ((some (t45 ++ [(⟨x1, x2, (⟨x2000, x2001, x2002⟩ : S27), (⟨0, 0, 0⟩ : S27), (⟨0, 0, 0⟩ : S27), 1⟩ : S31)] : List (S31))).bind fun y48 => ((some (x0.drop (x9 : Int).toNat : List (S31))).bind fun y51 => (if y48.length + y51.length < 1256584717458 then (some ((y48 ++ y51), 0)) else (none)))) else (none))) else (none)) else (none))
end
def r10_Create.f (k : Nat) (l0 : List (S31)) (a1 : ByteArray) (a2 : ByteArray) (a3_0 : Int) (a3_1 : Int) (a3_2 : Int) : Option ((List (S31)) × Int) := (r10_MayName.f a1).bind fun t3 => (if t3 = true then ((r10_MayVec.f a3_0 a3_1 a3_2).bind fun t4 => (r10_Create.j0 k l0 a1 a2 (!t4) a3_0 a3_1 a3_2)) else (r10_Create.j0 k l0 a1 a2 true a3_0 a3_1 a3_2))
theorem r10_Create.mono_l : ∀ k, (∀ y0 y1 y2 y3 y4 y5 y6, LeO (r10_Create.j0 k y0 y1 y2 y3 y4 y5 y6) (r10_Create.j0 (k + 1) y0 y1 y2 y3 y4 y5 y6)) ∧ (∀ y0 y1 y2 y3 y4 y5 y6, LeO (r10_Create.j1 k y0 y1 y2 y3 y4 y5 y6) (r10_Create.j1 (k + 1) y0 y1 y2 y3 y4 y5 y6)) ∧ (∀ y0 y1 y2 y3 y4 y5 y6, LeO (r10_Create.l0 k y0 y1 y2 y3 y4 y5 y6) (r10_Create.l0 (k + 1) y0 y1 y2 y3 y4 y5 y6))
 | 0 => ⟨fun _ _ _ _ _ _ _ r h => by simp [r10_Create.j0] at h, fun _ _ _ _ _ _ _ r h => by simp [r10_Create.j1] at h, fun _ _ _ _ _ _ _ r h => by simp [r10_Create.l0] at h⟩
 | k + 1 => by
  obtain ⟨ih0, ih1, ih2⟩ := r10_Create.mono_l k
  refine ⟨?_, ?_, ?_⟩
  ·intro y0 y1 y2 y3 y4 y5 y6
   unfold r10_Create.j0
   repeat' first
   | (with_reducible exact ih0 _ _ _ _ _ _ _)
   | (with_reducible exact ih1 _ _ _ _ _ _ _)
   | (with_reducible exact ih2 _ _ _ _ _ _ _)
   | (with_reducible exact r10_Find.mono _ _ _)
   | (with_reducible exact LeO.refl _)
   | (with_reducible exact LeO.none _)
   | (with_reducible refine LeO.ite ?_ ?_)
   | (with_reducible refine LeO.bind ?_ (fun _ => ?_))
   | exact ih0 _ _ _ _ _ _ _
   | exact ih1 _ _ _ _ _ _ _
   | exact ih2 _ _ _ _ _ _ _
   | exact r10_Find.mono _ _ _
   | exact LeO.none _
   | refine LeO.ite ?_ ?_
   | refine LeO.bind ?_ (fun _ => ?_)
  ·intro y0 y1 y2 y3 y4 y5 y6
   unfold r10_Create.j1
   repeat' first
   | (with_reducible exact ih0 _ _ _ _ _ _ _)
   | (with_reducible exact ih1 _ _ _ _ _ _ _)
   | (with_reducible exact ih2 _ _ _ _ _ _ _)
   | (with_reducible exact r10_Find.mono _ _ _)
   | (with_reducible exact LeO.refl _)
   | (with_reducible exact LeO.none _)
   | (with_reducible refine LeO.ite ?_ ?_)
   | (with_reducible refine LeO.bind ?_ (fun _ => ?_))
   | exact ih0 _ _ _ _ _ _ _
   | exact ih1 _ _ _ _ _ _ _
   | exact ih2 _ _ _ _ _ _ _
   | exact r10_Find.mono _ _ _
   | exact LeO.none _
   | refine LeO.ite ?_ ?_
   | refine LeO.bind ?_ (fun _ => ?_)
  ·intro y0 y1 y2 y3 y4 y5 y6
   unfold r10_Create.l0
   repeat' first
   | (with_reducible exact ih0 _ _ _ _ _ _ _)
   | (with_reducible exact ih1 _ _ _ _ _ _ _)
   | (with_reducible exact ih2 _ _ _ _ _ _ _)
   | (with_reducible exact r10_Find.mono _ _ _)
   | (with_reducible exact LeO.refl _)
   | (with_reducible exact LeO.none _)
   | (with_reducible refine LeO.ite ?_ ?_)
   | (with_reducible refine LeO.bind ?_ (fun _ => ?_))
   | exact ih0 _ _ _ _ _ _ _
   | exact ih1 _ _ _ _ _ _ _
   | exact ih2 _ _ _ _ _ _ _
   | exact r10_Find.mono _ _ _
   | exact LeO.none _
   | refine LeO.ite ?_ ?_
   | refine LeO.bind ?_ (fun _ => ?_)
theorem r10_Create.mono : ∀ a0 a1 a2 a3 a4 a5 k, LeO (r10_Create.f k a0 a1 a2 a3 a4 a5) (r10_Create.f (k + 1) a0 a1 a2 a3 a4 a5) := by
 intro a0 a1 a2 a3 a4 a5 k
 obtain ⟨ih0, ih1, ih2⟩ := r10_Create.mono_l k
 unfold r10_Create.f
 repeat' first
   | (with_reducible exact ih0 _ _ _ _ _ _ _)
   | (with_reducible exact ih1 _ _ _ _ _ _ _)
   | (with_reducible exact ih2 _ _ _ _ _ _ _)
   | (with_reducible exact r10_Find.mono _ _ _)
   | (with_reducible exact LeO.refl _)
   | (with_reducible exact LeO.none _)
   | (with_reducible refine LeO.ite ?_ ?_)
   | (with_reducible refine LeO.bind ?_ (fun _ => ?_))
   | exact ih0 _ _ _ _ _ _ _
   | exact ih1 _ _ _ _ _ _ _
   | exact ih2 _ _ _ _ _ _ _
   | exact r10_Find.mono _ _ _
   | exact LeO.none _
   | refine LeO.ite ?_ ?_
   | refine LeO.bind ?_ (fun _ => ?_)
set_option maxHeartbeats 8000000 in
set_option maxRecDepth 100000 in
theorem r10_Create.calls (k : Nat) (A0 : Option Addr) (c0 : Nat) (l0 : List (S31)) (a1 : ByteArray) (a2 : ByteArray) (a3_0 : Int) (a3_1 : Int) (a3_2 : Int) (r1 : List (S31)) (r2 : Int) (w : World) (hr0 : Kd.C k31 w A0 l0.length l0) (hc0 : l0.length ≤ c0) (h : r10_Create.f k l0 a1 a2 a3_0 a3_1 a3_2 = some (r1, r2)) :
  Calls Try.prog 83 #[.slice A0 l0.length c0, .string a1, .string a2, .agg #[.int .i64 a3_0, .int .i64 a3_1, .int .i64 a3_2]] w fun e w' => ∃ v0_ : Value, e = .returned (.agg #[v0_, .int .i64 r2]) ∧ Kd.R k31 31 w' w.heap.size (fun _ => True) v0_ r1 ∧ Below w.heap.size w w' := by
 have hu27 := Try.underlying27
 have hu67 := Try.underlying67
 have hu31 := Try.underlying31
 have HR0 := Aside0.mk hr0
 have HC0 := Aside0.mk hc0
 clear hr0 hc0
 have HB := Aside0.mk (Below.refl w.heap.size w)
 have H : ((r10_MayName.f a1).bind fun t3 => (if t3 = true then ((r10_MayVec.f a3_0 a3_1 a3_2).bind fun t4 => (r10_Create.j0 k l0 a1 a2 (!t4) a3_0 a3_1 a3_2)) else (r10_Create.j0 k l0 a1 a2 true a3_0 a3_1 a3_2))) = some (r1, r2) := h
 clear h
 have HC5 := Aside0.mk H
 clear H
 go_enter Try.func83, Try.ntmps83
 go_upto_region 1 with (first|((with_reducible refine gate_dst (N := 7) rfl ?_);refine box_event ?hg (N := 7) ?hd (cs := #[.int .i64 a3_0, .int .i64 a3_1, .int .i64 a3_2]) (t := 27) ?hr ?_;(case hd => rfl);(case hg => rfl);(case hr => first|(go_simp;done)|(go_simp;rfl));intro gb1 hg w6 hbox hb;have n0_ := Aside0.mk (below_step (by repeat (first|(with_reducible first|exact HB.out|apply below_alloc|apply pw_below_drewN|apply below_drew1)|exact HB.out)) hb);have n1_ := Aside0.mk (hbox);have n2_ := Aside0.mk ((by rw [hg];exact (below_size (by repeat (first|(with_reducible first|exact HB.out|apply below_alloc|apply pw_below_drewN|apply below_drew1)|exact HB.out))) : w.heap.size ≤ gb1));have n3_ := Aside0.mk ((by rw [hg];exact (below_size (by repeat (first|(with_reducible first|exact HB.out|apply below_alloc|apply pw_below_drewN|apply below_drew1)|exact HB.out))) : w.heap.size ≤ gb1));clear HB;have HB := n0_;have BK1 := n1_;have GW1 := n2_;have GE1 := n3_;clear n0_ n1_ n2_ n3_;clear hb hbox hg)|((with_reducible refine gate_dst (N := 8) rfl ?_);refine box_event ?hg (N := 8) ?hd (cs := #[.slice none 0 0, .int .i64 0]) (t := 67) ?hr ?_;(case hd => rfl);(case hg => rfl);(case hr => first|(go_simp;done)|(go_simp;rfl));intro gb2 hg w7 hbox hb;have n0_ := Aside0.mk (blk_below (g := gb1) (o := .cells #[.int .i64 a3_0, .int .i64 a3_1, .int .i64 a3_2] 27 (0, 0)) (by (with_reducible repeat (first|refine blk_drewN ?_ _|refine blk_drew ?_|refine blk_alloc ?_ _));exact BK1.out) hb);have n1_ := Aside0.mk (below_step (by repeat (first|(with_reducible first|exact HB.out|apply below_alloc|apply pw_below_drewN|apply below_drew1|refine below_set ?_ GE1.out)|exact HB.out)) hb);have n2_ := Aside0.mk (hbox);have n3_ := Aside0.mk ((by rw [hg];exact (below_size (by repeat (first|(with_reducible first|exact HB.out|apply below_alloc|apply pw_below_drewN|apply below_drew1|refine below_set ?_ GE1.out)|exact HB.out))) : w.heap.size ≤ gb2));have n4_ := Aside0.mk ((by rw [hg];exact (below_size (by repeat (first|(with_reducible first|exact HB.out|apply below_alloc|apply pw_below_drewN|apply below_drew1|refine below_set ?_ GE1.out)|exact HB.out))) : w.heap.size ≤ gb2));have n5_ := Aside0.mk ((by rw [hg];exact Nat.ne_of_lt (blk_lt (g := gb1) (o := .cells #[.int .i64 a3_0, .int .i64 a3_1, .int .i64 a3_2] 27 (0, 0)) (by (with_reducible repeat (first|refine blk_drewN ?_ _|refine blk_drew ?_|refine blk_alloc ?_ _));exact BK1.out)) : gb1 ≠ gb2));have n6_ := Aside0.mk ((by rw [hg];exact Nat.ne_of_gt (blk_lt (g := gb1) (o := .cells #[.int .i64 a3_0, .int .i64 a3_1, .int .i64 a3_2] 27 (0, 0)) (by (with_reducible repeat (first|refine blk_drewN ?_ _|refine blk_drew ?_|refine blk_alloc ?_ _));exact BK1.out)) : gb2 ≠ gb1));clear BK1;clear HB;have BK1 := n0_;have HB := n1_;have BK2 := n2_;have GW2 := n3_;have GE2 := n4_;have NB1_2 := n5_;have NB2_1 := n6_;clear n0_ n1_ n2_ n3_ n4_ n5_ n6_;clear hb hbox hg))
 (try simp only [Act.put, List.setIfInBounds_toArray, List.set_cons_zero, List.set_cons_succ])
 go_cut [11] (fun v11 wc => ∃ (kq : Nat) (x11_4 : Bool), v11 = .bool x11_4 ∧ Aside0 (r10_Create.j0 kq l0 a1 a2 x11_4 a3_0 a3_1 a3_2 = some (r1, r2)) ∧ Aside0 (kq ≤ k) ∧ Aside0 (wc.heap[gb1]? = some (.cells #[.int .i64 a3_0, .int .i64 a3_1, .int .i64 a3_2] 27 (0, 0))) ∧ Aside0 (wc.heap[gb2]? = some (.cells #[(.slice none 0 0), .int .i64 0] 67 (0, 0))) ∧ Aside0 (Below w.heap.size w wc))
 case first =>
  have H := HC5.out
  clear HC5
  replace H := Option.bind_eq_some_iff.mp H
  obtain ⟨t3, A80, H⟩ := H
  replace H : (if t3 = true then ((r10_MayVec.f a3_0 a3_1 a3_2).bind fun t4 => (r10_Create.j0 k l0 a1 a2 (!t4) a3_0 a3_1 a3_2)) else (r10_Create.j0 k l0 a1 a2 true a3_0 a3_1 a3_2)) = some (r1, r2) := H
  have A8 := Aside0.mk A80
  clear A80
  by_cases c9 : t3 = true
  ·subst c9
   have H1 : ((r10_MayVec.f a3_0 a3_1 a3_2).bind fun t4 => (r10_Create.j0 k l0 a1 a2 (!t4) a3_0 a3_1 a3_2)) = some (r1, r2) := by rw [if_pos rfl] at H; exact H
   clear H
   have H := H1
   clear H1
   replace H := Option.bind_eq_some_iff.mp H
   obtain ⟨t4, A100, H⟩ := H
   replace H : (r10_Create.j0 k l0 a1 a2 (!t4) a3_0 a3_1 a3_2) = some (r1, r2) := H
   have A10 := Aside0.mk A100
   clear A100
   have H' := Aside0.mk H
   clear H
   go_wp2_with (first|((with_reducible refine gate_callee (f := 105) rfl ?_);refine goesL_ (some 13) rfl rfl Try.func105 (by kernel_rfl) rfl #[.string a1] rfl (by (try simp only [List.map_toArray, List.map_cons, List.map_nil]);first|done|rfl|(simp only [List.length_drop, List.length_take];rfl)) ?_;(with_reducible refine (r10_MayName.calls a1 true _ A8.out).mono ?_);rintro e w' ⟨rfl, ⟨nd, rfl⟩⟩;refine ⟨_, rfl, ?_⟩;have hnb11 := NB1_2.out;have hnc11 := NB2_1.out;have hcz12_0 : w7.cell? ⟨gb1, 0, none⟩ = some (.int .i64 a3_0) := (blk_cell BK1.out 0).trans rfl;have hcz12_1 : w7.cell? ⟨gb1, 1, none⟩ = some (.int .i64 a3_1) := (blk_cell BK1.out 1).trans rfl;have hcz12_2 : w7.cell? ⟨gb1, 2, none⟩ = some (.int .i64 a3_2) := (blk_cell BK1.out 2).trans rfl;have hfz12_0 := blk_frozen BK1.out 0;have hfz12_1 := blk_frozen BK1.out 1;have hfz12_2 := blk_frozen BK1.out 2)|(go_at_call 65;(with_reducible refine (r10_MayVec.calls a3_0 a3_1 a3_2 t4 _ A10.out).mono ?_);rintro e w13 ⟨rfl, hb⟩;have n0_ := Aside0.mk (blk_below (g := gb1) (o := .cells #[.int .i64 a3_0, .int .i64 a3_1, .int .i64 a3_2] 27 (0, 0)) (by (with_reducible repeat (first|refine blk_drewN ?_ _|refine blk_drew ?_|refine blk_alloc ?_ _));exact BK1.out) hb);have n1_ := Aside0.mk (blk_below (g := gb2) (o := .cells #[.slice none 0 0, .int .i64 0] 67 (0, 0)) (by (with_reducible repeat (first|refine blk_drewN ?_ _|refine blk_drew ?_|refine blk_alloc ?_ _));exact BK2.out) hb);have n2_ := Aside0.mk (below_step (by repeat (first|(with_reducible first|exact HB.out|apply below_alloc|apply pw_below_drewN|apply below_drew1|refine below_set ?_ GE1.out|refine below_set ?_ GE2.out)|exact HB.out)) hb);clear BK1;clear BK2;clear HB;have BK1 := n0_;have BK2 := n1_;have HB := n2_;clear n0_ n1_ n2_;(try clear hb);(try clear hb2);(try clear hk);(try clear hi)))
   go_meet
   case rel => exact ⟨_, (!t4), (by first|rfl|(simp;done)|(simp [*];done)), H', ⟨by first|omega|exact Nat.le_refl _⟩, ⟨by (with_reducible repeat (first|refine blk_drewN ?_ _|refine blk_drew ?_|refine blk_alloc ?_ _));exact BK1.out⟩, ⟨by (with_reducible repeat (first|refine blk_drewN ?_ _|refine blk_drew ?_|refine blk_alloc ?_ _));exact BK2.out⟩, ⟨by repeat (first|(with_reducible first|exact HB.out|apply below_alloc|apply pw_below_drewN|apply below_drew1|refine below_set ?_ GE1.out|refine below_set ?_ GE2.out)|exact HB.out)⟩⟩
  ·replace c9 := Bool.eq_false_iff.mpr c9
   subst c9
   have H1 : (r10_Create.j0 k l0 a1 a2 true a3_0 a3_1 a3_2) = some (r1, r2) := by rw [if_neg (show ¬ (false = true) by decide)] at H; exact H
   clear H
   have H := H1
   clear H1
   have H' := Aside0.mk H
   clear H
   go_wp2_with (first|((with_reducible refine gate_callee (f := 105) rfl ?_);refine goesL_ (some 13) rfl rfl Try.func105 (by kernel_rfl) rfl #[.string a1] rfl (by (try simp only [List.map_toArray, List.map_cons, List.map_nil]);first|done|rfl|(simp only [List.length_drop, List.length_take];rfl)) ?_;(with_reducible refine (r10_MayName.calls a1 false _ A8.out).mono ?_);rintro e w' ⟨rfl, ⟨nd, rfl⟩⟩;refine ⟨_, rfl, ?_⟩))
   go_meet
   case rel => exact ⟨_, (true), (by first|rfl|(simp;done)|(simp [*];done)), H', ⟨by first|omega|exact Nat.le_refl _⟩, ⟨by (with_reducible repeat (first|refine blk_drewN ?_ _|refine blk_drew ?_|refine blk_alloc ?_ _));exact BK1.out⟩, ⟨by (with_reducible repeat (first|refine blk_drewN ?_ _|refine blk_drew ?_|refine blk_alloc ?_ _));exact BK2.out⟩, ⟨by repeat (first|(with_reducible first|exact HB.out|apply below_alloc|apply pw_below_drewN|apply below_drew1|refine below_set ?_ GE1.out|refine below_set ?_ GE2.out)|exact HB.out)⟩⟩
 case rest =>
  clear HC5
  try clear c1
  try clear p2
  try clear c8
  try clear c9
  try clear c10
  try clear c11
  try clear hcz12_0
  try clear hcz12_1
  try clear hcz12_2
  try clear hfz12_0
  try clear hfz12_1
  try clear hfz12_2
  obtain ⟨kq, x11_4, rfl, HA, HJ4, BK1, BK2, HB⟩ := hcut
  cases kq with
  | zero => exact absurd HA.out (by simp [r10_Create.j0])
  | succ kj4 =>
   have H := HA.out
   clear HA
   simp only [r10_Create.j0] at H
   by_cases c14 : x11_4 = true
   ·subst c14
    have H1 : ((r10_no.f 1).bind fun bt5 => (some (bt5.1, bt5.2))) = some (r1, r2) := by rw [if_pos rfl] at H; exact H
    clear H
    have H := H1
    clear H1
    replace H := Option.bind_eq_some_iff.mp H
    obtain ⟨⟨t5, t8⟩, A150, H⟩ := H
    replace H : (some (t5, t8)) = some (r1, r2) := H
    have A15 := Aside0.mk A150
    clear A150
    simp only [Option.some.injEq, Prod.mk.injEq] at H
    obtain ⟨rfl, rfl⟩ := H
    go_wp2_with (first|((with_reducible refine gate_callee (f := 113) rfl ?_);refine goesL_ (some 20) rfl rfl Try.func113 (by kernel_rfl) rfl #[.int .i64 1] rfl (by (try simp only [List.map_toArray, List.map_cons, List.map_nil]);first|done|rfl|(simp only [List.length_drop, List.length_take];rfl)) ?_;(with_reducible refine (r10_no.calls 1 t5 t8 _ A15.out).mono ?_);rintro e w16 ⟨v6, rfl, ho0, hb⟩;refine ⟨_, rfl, ?_⟩;have n0_ := Aside0.mk (Kd.R_lower ho0 (below_size (by repeat (first|(with_reducible first|exact HB.out|apply below_alloc|apply pw_below_drewN|apply below_drew1|refine below_set ?_ GE1.out|refine below_set ?_ GE2.out)|exact HB.out))));have n1_ := Aside0.mk (blk_below (g := gb1) (o := .cells #[.int .i64 a3_0, .int .i64 a3_1, .int .i64 a3_2] 27 (0, 0)) (by (with_reducible repeat (first|refine blk_drewN ?_ _|refine blk_drew ?_|refine blk_alloc ?_ _));exact BK1.out) hb);have n2_ := Aside0.mk (blk_below (g := gb2) (o := .cells #[.slice none 0 0, .int .i64 0] 67 (0, 0)) (by (with_reducible repeat (first|refine blk_drewN ?_ _|refine blk_drew ?_|refine blk_alloc ?_ _));exact BK2.out) hb);have n3_ := Aside0.mk (below_step (by repeat (first|(with_reducible first|exact HB.out|apply below_alloc|apply pw_below_drewN|apply below_drew1|refine below_set ?_ GE1.out|refine below_set ?_ GE2.out)|exact HB.out)) hb);clear BK1;clear BK2;clear HB;have HO7 := n0_;have BK1 := n1_;have BK2 := n2_;have HB := n3_;clear n0_ n1_ n2_ n3_;(try clear hb);(try clear hb2);(try clear hk);(try clear hi);(try clear ho0);obtain ⟨Ao17, co17, eo17⟩ := Kd.R_slice HO7.out;subst eo17;have hnb18 := NB2_1.out;have hnc18 := NB1_2.out;have hcz19_0 : w16.cell? ⟨gb2, 0, none⟩ = some (.slice none 0 0) := (blk_cell BK2.out 0).trans rfl;have hcz19_1 : w16.cell? ⟨gb2, 1, none⟩ = some (.int .i64 0) := (blk_cell BK2.out 1).trans rfl;have hfz19_0 := blk_frozen BK2.out 0;have hfz19_1 := blk_frozen BK2.out 1))
    refine bodyPost_ret (results_cell_row rfl _ _ gb2 67 #[.slice Ao17 t5.length co17, .int .i64 t8] (0, 0) _ rfl (by (with_reducible repeat (first|refine blk_drewN ?_ _|refine blk_drew ?_|refine blk_alloc ?_ _));refine blk_put (cs := #[.slice Ao17 t5.length co17, .int .i64 0]) ?_ 1 _ rfl;(with_reducible repeat (first|refine blk_drewN ?_ _|refine blk_drew ?_|refine blk_alloc ?_ _));refine blk_put (cs := #[.slice none 0 0, .int .i64 0]) ?_ 0 _ rfl;(with_reducible repeat (first|refine blk_drewN ?_ _|refine blk_drew ?_|refine blk_alloc ?_ _));exact BK2.out) Try.underlying67 rfl (by kernel_rfl)) rfl ?_
    exact ⟨_, by first|rfl|(simp [errW_none, errW_some] <;> rfl)|(simp [*, errW_none, errW_some] <;> rfl), by (with_reducible repeat (first|apply Kd.R_alloc|apply Kd.R_drewN|apply Kd.R_drew));exact Kd.R_mono (Kd.R_far (p := ⟨gb2, 1, none⟩) (Kd.R_far (p := ⟨gb2, 0, none⟩) (Kd.R_types HO7.out BK2.out (by decide)) (fun _ hk => hk.2) (.slice Ao17 t5.length co17)) (fun _ hk => hk.2) (.int .i64 t8)) (fun _ hk => trivial), by repeat (first|(with_reducible first|exact HB.out|apply below_alloc|apply pw_below_drewN|apply below_drew1|refine below_set ?_ GE1.out|refine below_set ?_ GE2.out)|exact HB.out)⟩
   ·replace c14 := Bool.eq_false_iff.mpr c14
    subst c14
    have H1 : ((r10_Find.f kj4 l0 a1).bind fun t9 => (if t9 ≥ 0 then ((r10_no.f 3).bind fun bt10 => (some (bt10.1, bt10.2))) else (if a2.toList = ([] : List UInt8) then (r10_Create.j1 kj4 l0 a1 a2 false a3_0 a3_1 a3_2) else ((r10_Find.f kj4 l0 a2).bind fun t14 => (r10_Create.j1 kj4 l0 a1 a2 (decide (t14 < 0)) a3_0 a3_1 a3_2))))) = some (r1, r2) := by rw [if_neg (show ¬ (false = true) by decide)] at H; exact H
    clear H
    have H := H1
    clear H1
    replace H := Option.bind_eq_some_iff.mp H
    obtain ⟨t9, A200, H⟩ := H
    replace H : (if t9 ≥ 0 then ((r10_no.f 3).bind fun bt10 => (some (bt10.1, bt10.2))) else (if a2.toList = ([] : List UInt8) then (r10_Create.j1 kj4 l0 a1 a2 false a3_0 a3_1 a3_2) else ((r10_Find.f kj4 l0 a2).bind fun t14 => (r10_Create.j1 kj4 l0 a1 a2 (decide (t14 < 0)) a3_0 a3_1 a3_2)))) = some (r1, r2) := H
    have A20 := Aside0.mk A200
    clear A200
    by_cases c21 : t9 ≥ 0
    ·rw [if_pos c21] at H
     have c21b0 : decide (0 ≤ t9) = true := decide_eq_true c21
     clear c21
     replace H := Option.bind_eq_some_iff.mp H
     obtain ⟨⟨t10, t13⟩, A220, H⟩ := H
     replace H : (some (t10, t13)) = some (r1, r2) := H
     have A22 := Aside0.mk A220
     clear A220
     simp only [Option.some.injEq, Prod.mk.injEq] at H
     obtain ⟨rfl, rfl⟩ := H
     go_wp2_with (first|((with_reducible refine gate_callee (f := 50) rfl ?_);refine goesL_ (some 24) rfl rfl Try.func50 (by kernel_rfl) rfl #[.slice A0 l0.length c0, .string a1] rfl (by (try simp only [List.map_toArray, List.map_cons, List.map_nil]);first|done|rfl|(simp only [List.length_drop, List.length_take];rfl)) ?_;(with_reducible refine (r10_Find.calls kj4 _ _ l0 a1 t9 _ ?side1 ?side2 A20.out).mono ?_);(case side1 => repeat (first|exact (Kd.C_below HR0.out HB.out)|(with_reducible refine Kd.C_alloc ?_ _)|(with_reducible refine Kd.C_drewN ?_ _)|(with_reducible refine Kd.C_drew ?_)));(case side2 => exact HC0.out);rintro e w' ⟨rfl, ⟨nd, rfl⟩⟩;refine ⟨_, rfl, ?_⟩;(try (rw [drewN_self wc];generalize hq_ : World.drewN wc _ = wc;have n0_ : Aside0 (wc.heap[gb1]? = some (.cells #[.int .i64 a3_0, .int .i64 a3_1, .int .i64 a3_2] 27 (0, 0))) := ⟨by rw [← hq_];exact (by (with_reducible repeat (first|refine blk_drewN ?_ _|refine blk_drew ?_|refine blk_alloc ?_ _));exact BK1.out)⟩;have n1_ : Aside0 (wc.heap[gb2]? = some (.cells #[.slice none 0 0, .int .i64 0] 67 (0, 0))) := ⟨by rw [← hq_];exact (by (with_reducible repeat (first|refine blk_drewN ?_ _|refine blk_drew ?_|refine blk_alloc ?_ _));exact BK2.out)⟩;have n2_ : Aside0 (Below w.heap.size w wc) := ⟨by rw [← hq_];exact (by repeat (first|(with_reducible first|exact HB.out|apply below_alloc|apply pw_below_drewN|apply below_drew1|refine below_set ?_ GE1.out|refine below_set ?_ GE2.out)|exact HB.out))⟩;clear BK1 BK2 HB hq_;have BK1 := n0_;have BK2 := n1_;have HB := n2_;clear n0_ n1_ n2_)))|((with_reducible refine gate_callee (f := 113) rfl ?_);refine goesL_ (some 26) rfl rfl Try.func113 (by kernel_rfl) rfl #[.int .i64 3] rfl (by (try simp only [List.map_toArray, List.map_cons, List.map_nil]);first|done|rfl|(simp only [List.length_drop, List.length_take];rfl)) ?_;(with_reducible refine (r10_no.calls 3 t10 t13 _ A22.out).mono ?_);rintro e w23 ⟨v11, rfl, ho0, hb⟩;refine ⟨_, rfl, ?_⟩;have n0_ := Aside0.mk (Kd.R_lower ho0 (below_size (by repeat (first|(with_reducible first|exact HB.out|apply below_alloc|apply pw_below_drewN|apply below_drew1|refine below_set ?_ GE1.out|refine below_set ?_ GE2.out)|exact HB.out))));have n1_ := Aside0.mk (blk_below (g := gb1) (o := .cells #[.int .i64 a3_0, .int .i64 a3_1, .int .i64 a3_2] 27 (0, 0)) (by (with_reducible repeat (first|refine blk_drewN ?_ _|refine blk_drew ?_|refine blk_alloc ?_ _));exact BK1.out) hb);have n2_ := Aside0.mk (blk_below (g := gb2) (o := .cells #[.slice none 0 0, .int .i64 0] 67 (0, 0)) (by (with_reducible repeat (first|refine blk_drewN ?_ _|refine blk_drew ?_|refine blk_alloc ?_ _));exact BK2.out) hb);have n3_ := Aside0.mk (below_step (by repeat (first|(with_reducible first|exact HB.out|apply below_alloc|apply pw_below_drewN|apply below_drew1|refine below_set ?_ GE1.out|refine below_set ?_ GE2.out)|exact HB.out)) hb);clear BK1;clear BK2;clear HB;have HO12 := n0_;have BK1 := n1_;have BK2 := n2_;have HB := n3_;clear n0_ n1_ n2_ n3_;(try clear hb);(try clear hb2);(try clear hk);(try clear hi);(try clear ho0);obtain ⟨Ao24, co24, eo24⟩ := Kd.R_slice HO12.out;subst eo24;have hnb25 := NB2_1.out;have hnc25 := NB1_2.out;have hcz26_0 : w23.cell? ⟨gb2, 0, none⟩ = some (.slice none 0 0) := (blk_cell BK2.out 0).trans rfl;have hcz26_1 : w23.cell? ⟨gb2, 1, none⟩ = some (.int .i64 0) := (blk_cell BK2.out 1).trans rfl;have hfz26_0 := blk_frozen BK2.out 0;have hfz26_1 := blk_frozen BK2.out 1))
     refine bodyPost_ret (results_cell_row rfl _ _ gb2 67 #[.slice Ao24 t10.length co24, .int .i64 t13] (0, 0) _ rfl (by (with_reducible repeat (first|refine blk_drewN ?_ _|refine blk_drew ?_|refine blk_alloc ?_ _));refine blk_put (cs := #[.slice Ao24 t10.length co24, .int .i64 0]) ?_ 1 _ rfl;(with_reducible repeat (first|refine blk_drewN ?_ _|refine blk_drew ?_|refine blk_alloc ?_ _));refine blk_put (cs := #[.slice none 0 0, .int .i64 0]) ?_ 0 _ rfl;(with_reducible repeat (first|refine blk_drewN ?_ _|refine blk_drew ?_|refine blk_alloc ?_ _));exact BK2.out) Try.underlying67 rfl (by kernel_rfl)) rfl ?_
     exact ⟨_, by first|rfl|(simp [errW_none, errW_some] <;> rfl)|(simp [*, errW_none, errW_some] <;> rfl), by (with_reducible repeat (first|apply Kd.R_alloc|apply Kd.R_drewN|apply Kd.R_drew));exact Kd.R_mono (Kd.R_far (p := ⟨gb2, 1, none⟩) (Kd.R_far (p := ⟨gb2, 0, none⟩) (Kd.R_types HO12.out BK2.out (by decide)) (fun _ hk => hk.2) (.slice Ao24 t10.length co24)) (fun _ hk => hk.2) (.int .i64 t13)) (fun _ hk => trivial), by repeat (first|(with_reducible first|exact HB.out|apply below_alloc|apply pw_below_drewN|apply below_drew1|refine below_set ?_ GE1.out|refine below_set ?_ GE2.out)|exact HB.out)⟩
    ·rw [if_neg c21] at H
     have c21b0 : decide (0 ≤ t9) = false := decide_eq_false c21
     clear c21
     have HC27 := Aside0.mk H
     clear H
     go_upto_region 5 with (first|((with_reducible refine gate_callee (f := 50) rfl ?_);refine goesL_ (some 24) rfl rfl Try.func50 (by kernel_rfl) rfl #[.slice A0 l0.length c0, .string a1] rfl (by (try simp only [List.map_toArray, List.map_cons, List.map_nil]);first|done|rfl|(simp only [List.length_drop, List.length_take];rfl)) ?_;(with_reducible refine (r10_Find.calls kj4 _ _ l0 a1 t9 _ ?side1 ?side2 A20.out).mono ?_);(case side1 => repeat (first|exact (Kd.C_below HR0.out HB.out)|(with_reducible refine Kd.C_alloc ?_ _)|(with_reducible refine Kd.C_drewN ?_ _)|(with_reducible refine Kd.C_drew ?_)));(case side2 => exact HC0.out);rintro e w' ⟨rfl, ⟨nd, rfl⟩⟩;refine ⟨_, rfl, ?_⟩))
     (try simp only [Act.put, List.setIfInBounds_toArray, List.set_cons_zero, List.set_cons_succ])
     go_cut [27] (fun v27 wc => ∃ (kq : Nat) (x27_26 : Bool), v27 = .bool x27_26 ∧ Aside0 (r10_Create.j1 kq l0 a1 a2 x27_26 a3_0 a3_1 a3_2 = some (r1, r2)) ∧ Aside0 (kq ≤ kj4) ∧ Aside0 (wc.heap[gb1]? = some (.cells #[.int .i64 a3_0, .int .i64 a3_1, .int .i64 a3_2] 27 (0, 0))) ∧ Aside0 (wc.heap[gb2]? = some (.cells #[(.slice none 0 0), .int .i64 0] 67 (0, 0))) ∧ Aside0 (Below w.heap.size w wc))
     case first =>
      have H := HC27.out
      clear HC27
      by_cases c28 : a2.toList = ([] : List UInt8)
      ·rw [if_pos c28] at H
       have c28b0 : (a2.toList == ([] : List UInt8)) = true := beq_iff_eq.mpr c28
       have c28b1 : (a2.toList != ([] : List UInt8)) = false := bne_eq_false_iff_eq.mpr c28
       clear c28
       (first | rw [c28b0] | (simp only [i64_w, i32_w]; rw [c28b0]) | skip)
       have H' := Aside0.mk H
       clear H
       go_wp2
       go_meet
       case rel => exact ⟨_, (false), (by first|rfl|(simp;done)|(simp [*];done)), H', ⟨by have := HJ4.out;first|omega|exact Nat.le_refl _⟩, ⟨by (with_reducible repeat (first|refine blk_drewN ?_ _|refine blk_drew ?_|refine blk_alloc ?_ _));exact BK1.out⟩, ⟨by (with_reducible repeat (first|refine blk_drewN ?_ _|refine blk_drew ?_|refine blk_alloc ?_ _));exact BK2.out⟩, ⟨by repeat (first|(with_reducible first|exact HB.out|apply below_alloc|apply pw_below_drewN|apply below_drew1|refine below_set ?_ GE1.out|refine below_set ?_ GE2.out)|exact HB.out)⟩⟩
      ·rw [if_neg c28] at H
       have c28b0 : (a2.toList == ([] : List UInt8)) = false := beq_eq_false_iff_ne.mpr c28
       have c28b1 : (a2.toList != ([] : List UInt8)) = true := bne_iff_ne.mpr c28
       (first | rw [c28b0] | (simp only [i64_w, i32_w]; rw [c28b0]) | skip)
       replace H := Option.bind_eq_some_iff.mp H
       obtain ⟨t14, A290, H⟩ := H
       replace H : (r10_Create.j1 kj4 l0 a1 a2 (decide (t14 < 0)) a3_0 a3_1 a3_2) = some (r1, r2) := H
       have A29 := Aside0.mk A290
       clear A290
       have H' := Aside0.mk H
       clear H
       go_wp2_with (first|(go_at_call 50;(with_reducible refine (r10_Find.calls kj4 _ _ l0 a2 t14 _ ?side1 ?side2 A29.out).mono ?_);(case side1 => repeat (first|exact (Kd.C_below HR0.out HB.out)|(with_reducible refine Kd.C_alloc ?_ _)|(with_reducible refine Kd.C_drewN ?_ _)|(with_reducible refine Kd.C_drew ?_)));(case side2 => exact HC0.out);rintro e w' ⟨rfl, ⟨nd, rfl⟩⟩))
       go_meet
       case rel => exact ⟨_, (decide (t14 < 0)), (by first|rfl|(simp;done)|(simp [*];done)), H', ⟨by have := HJ4.out;first|omega|exact Nat.le_refl _⟩, ⟨by (with_reducible repeat (first|refine blk_drewN ?_ _|refine blk_drew ?_|refine blk_alloc ?_ _));exact BK1.out⟩, ⟨by (with_reducible repeat (first|refine blk_drewN ?_ _|refine blk_drew ?_|refine blk_alloc ?_ _));exact BK2.out⟩, ⟨by repeat (first|(with_reducible first|exact HB.out|apply below_alloc|apply pw_below_drewN|apply below_drew1|refine below_set ?_ GE1.out|refine below_set ?_ GE2.out)|exact HB.out)⟩⟩
     case rest =>
      clear HC27
      try clear c1
      try clear c2
      try clear p2
      try clear c5
      try clear c8
      try clear c9
      try clear c10
      try clear c11
      try clear c14
      try clear c18
      try clear c21
      try clear c21b0
      try clear c25
      try clear c28
      try clear c28b0
      try clear c28b1
      try clear hcz12_0
      try clear hcz12_1
      try clear hcz12_2
      try clear hcz19_0
      try clear hcz19_1
      try clear hcz26_0
      try clear hcz26_1
      try clear hfz12_0
      try clear hfz12_1
      try clear hfz12_2
      try clear hfz19_0
      try clear hfz19_1
      try clear hfz26_0
      try clear hfz26_1
      try clear p2
      obtain ⟨kq, x27_26, rfl, HA, HJ26, BK1, BK2, HB⟩ := hcut
      cases kq with
      | zero => exact absurd HA.out (by simp [r10_Create.j1])
      | succ kj26 =>
       have H := HA.out
       clear HA
       simp only [r10_Create.j1] at H
       by_cases c30 : x27_26 = true
       ·subst c30
        have H1 : ((r10_no.f 2).bind fun bt15 => (some (bt15.1, bt15.2))) = some (r1, r2) := by rw [if_pos rfl] at H; exact H
        clear H
        have H := H1
        clear H1
        replace H := Option.bind_eq_some_iff.mp H
        obtain ⟨⟨t15, t18⟩, A310, H⟩ := H
        replace H : (some (t15, t18)) = some (r1, r2) := H
        have A31 := Aside0.mk A310
        clear A310
        simp only [Option.some.injEq, Prod.mk.injEq] at H
        obtain ⟨rfl, rfl⟩ := H
        go_wp2_with (first|((with_reducible refine gate_callee (f := 113) rfl ?_);refine goesL_ (some 36) rfl rfl Try.func113 (by kernel_rfl) rfl #[.int .i64 2] rfl (by (try simp only [List.map_toArray, List.map_cons, List.map_nil]);first|done|rfl|(simp only [List.length_drop, List.length_take];rfl)) ?_;(with_reducible refine (r10_no.calls 2 t15 t18 _ A31.out).mono ?_);rintro e w32 ⟨v16, rfl, ho0, hb⟩;refine ⟨_, rfl, ?_⟩;have n0_ := Aside0.mk (Kd.R_lower ho0 (below_size (by repeat (first|(with_reducible first|exact HB.out|apply below_alloc|apply pw_below_drewN|apply below_drew1|refine below_set ?_ GE1.out|refine below_set ?_ GE2.out)|exact HB.out))));have n1_ := Aside0.mk (blk_below (g := gb1) (o := .cells #[.int .i64 a3_0, .int .i64 a3_1, .int .i64 a3_2] 27 (0, 0)) (by (with_reducible repeat (first|refine blk_drewN ?_ _|refine blk_drew ?_|refine blk_alloc ?_ _));exact BK1.out) hb);have n2_ := Aside0.mk (blk_below (g := gb2) (o := .cells #[.slice none 0 0, .int .i64 0] 67 (0, 0)) (by (with_reducible repeat (first|refine blk_drewN ?_ _|refine blk_drew ?_|refine blk_alloc ?_ _));exact BK2.out) hb);have n3_ := Aside0.mk (below_step (by repeat (first|(with_reducible first|exact HB.out|apply below_alloc|apply pw_below_drewN|apply below_drew1|refine below_set ?_ GE1.out|refine below_set ?_ GE2.out)|exact HB.out)) hb);clear BK1;clear BK2;clear HB;have HO17 := n0_;have BK1 := n1_;have BK2 := n2_;have HB := n3_;clear n0_ n1_ n2_ n3_;(try clear hb);(try clear hb2);(try clear hk);(try clear hi);(try clear ho0);obtain ⟨Ao33, co33, eo33⟩ := Kd.R_slice HO17.out;subst eo33;have hnb34 := NB2_1.out;have hnc34 := NB1_2.out;have hcz35_0 : w32.cell? ⟨gb2, 0, none⟩ = some (.slice none 0 0) := (blk_cell BK2.out 0).trans rfl;have hcz35_1 : w32.cell? ⟨gb2, 1, none⟩ = some (.int .i64 0) := (blk_cell BK2.out 1).trans rfl;have hfz35_0 := blk_frozen BK2.out 0;have hfz35_1 := blk_frozen BK2.out 1))
        refine bodyPost_ret (results_cell_row rfl _ _ gb2 67 #[.slice Ao33 t15.length co33, .int .i64 t18] (0, 0) _ rfl (by (with_reducible repeat (first|refine blk_drewN ?_ _|refine blk_drew ?_|refine blk_alloc ?_ _));refine blk_put (cs := #[.slice Ao33 t15.length co33, .int .i64 0]) ?_ 1 _ rfl;(with_reducible repeat (first|refine blk_drewN ?_ _|refine blk_drew ?_|refine blk_alloc ?_ _));refine blk_put (cs := #[.slice none 0 0, .int .i64 0]) ?_ 0 _ rfl;(with_reducible repeat (first|refine blk_drewN ?_ _|refine blk_drew ?_|refine blk_alloc ?_ _));exact BK2.out) Try.underlying67 rfl (by kernel_rfl)) rfl ?_
        exact ⟨_, by first|rfl|(simp [errW_none, errW_some] <;> rfl)|(simp [*, errW_none, errW_some] <;> rfl), by (with_reducible repeat (first|apply Kd.R_alloc|apply Kd.R_drewN|apply Kd.R_drew));exact Kd.R_mono (Kd.R_far (p := ⟨gb2, 1, none⟩) (Kd.R_far (p := ⟨gb2, 0, none⟩) (Kd.R_types HO17.out BK2.out (by decide)) (fun _ hk => hk.2) (.slice Ao33 t15.length co33)) (fun _ hk => hk.2) (.int .i64 t18)) (fun _ hk => trivial), by repeat (first|(with_reducible first|exact HB.out|apply below_alloc|apply pw_below_drewN|apply below_drew1|refine below_set ?_ GE1.out|refine below_set ?_ GE2.out)|exact HB.out)⟩
       ·replace c30 := Bool.eq_false_iff.mpr c30
        subst c30
        have H1 : (if (l0.length : Int) ≥ 120 then ((r10_no.f 4).bind fun bt19 => (some (bt19.1, bt19.2))) else (r10_Create.l0 kj26 l0 a1 a2 0 a3_0 a3_1 a3_2)) = some (r1, r2) := by rw [if_neg (show ¬ (false = true) by decide)] at H; exact H
        clear H
        have H := H1
        clear H1
        by_cases c36 : (l0.length : Int) ≥ 120
        ·rw [if_pos c36] at H
         have c36b0 : decide (120 ≤ (l0.length : Int)) = true := decide_eq_true c36
         have c36b1 : decide (120 ≤ l0.length) = true := decide_eq_true (by omega)
         clear c36
         replace H := Option.bind_eq_some_iff.mp H
         obtain ⟨⟨t19, t22⟩, A370, H⟩ := H
         replace H : (some (t19, t22)) = some (r1, r2) := H
         have A37 := Aside0.mk A370
         clear A370
         simp only [Option.some.injEq, Prod.mk.injEq] at H
         obtain ⟨rfl, rfl⟩ := H
         go_wp2_with (first|((with_reducible refine gate_callee (f := 113) rfl ?_);refine goesL_ (some 41) rfl rfl Try.func113 (by kernel_rfl) rfl #[.int .i64 4] rfl (by (try simp only [List.map_toArray, List.map_cons, List.map_nil]);first|done|rfl|(simp only [List.length_drop, List.length_take];rfl)) ?_;(with_reducible refine (r10_no.calls 4 t19 t22 _ A37.out).mono ?_);rintro e w38 ⟨v20, rfl, ho0, hb⟩;refine ⟨_, rfl, ?_⟩;have n0_ := Aside0.mk (Kd.R_lower ho0 (below_size (by repeat (first|(with_reducible first|exact HB.out|apply below_alloc|apply pw_below_drewN|apply below_drew1|refine below_set ?_ GE1.out|refine below_set ?_ GE2.out)|exact HB.out))));have n1_ := Aside0.mk (blk_below (g := gb1) (o := .cells #[.int .i64 a3_0, .int .i64 a3_1, .int .i64 a3_2] 27 (0, 0)) (by (with_reducible repeat (first|refine blk_drewN ?_ _|refine blk_drew ?_|refine blk_alloc ?_ _));exact BK1.out) hb);have n2_ := Aside0.mk (blk_below (g := gb2) (o := .cells #[.slice none 0 0, .int .i64 0] 67 (0, 0)) (by (with_reducible repeat (first|refine blk_drewN ?_ _|refine blk_drew ?_|refine blk_alloc ?_ _));exact BK2.out) hb);have n3_ := Aside0.mk (below_step (by repeat (first|(with_reducible first|exact HB.out|apply below_alloc|apply pw_below_drewN|apply below_drew1|refine below_set ?_ GE1.out|refine below_set ?_ GE2.out)|exact HB.out)) hb);clear BK1;clear BK2;clear HB;have HO21 := n0_;have BK1 := n1_;have BK2 := n2_;have HB := n3_;clear n0_ n1_ n2_ n3_;(try clear hb);(try clear hb2);(try clear hk);(try clear hi);(try clear ho0);obtain ⟨Ao39, co39, eo39⟩ := Kd.R_slice HO21.out;subst eo39;have hnb40 := NB2_1.out;have hnc40 := NB1_2.out;have hcz41_0 : w38.cell? ⟨gb2, 0, none⟩ = some (.slice none 0 0) := (blk_cell BK2.out 0).trans rfl;have hcz41_1 : w38.cell? ⟨gb2, 1, none⟩ = some (.int .i64 0) := (blk_cell BK2.out 1).trans rfl;have hfz41_0 := blk_frozen BK2.out 0;have hfz41_1 := blk_frozen BK2.out 1))
         refine bodyPost_ret (results_cell_row rfl _ _ gb2 67 #[.slice Ao39 t19.length co39, .int .i64 t22] (0, 0) _ rfl (by (with_reducible repeat (first|refine blk_drewN ?_ _|refine blk_drew ?_|refine blk_alloc ?_ _));refine blk_put (cs := #[.slice Ao39 t19.length co39, .int .i64 0]) ?_ 1 _ rfl;(with_reducible repeat (first|refine blk_drewN ?_ _|refine blk_drew ?_|refine blk_alloc ?_ _));refine blk_put (cs := #[.slice none 0 0, .int .i64 0]) ?_ 0 _ rfl;(with_reducible repeat (first|refine blk_drewN ?_ _|refine blk_drew ?_|refine blk_alloc ?_ _));exact BK2.out) Try.underlying67 rfl (by kernel_rfl)) rfl ?_
         exact ⟨_, by first|rfl|(simp [errW_none, errW_some] <;> rfl)|(simp [*, errW_none, errW_some] <;> rfl), by (with_reducible repeat (first|apply Kd.R_alloc|apply Kd.R_drewN|apply Kd.R_drew));exact Kd.R_mono (Kd.R_far (p := ⟨gb2, 1, none⟩) (Kd.R_far (p := ⟨gb2, 0, none⟩) (Kd.R_types HO21.out BK2.out (by decide)) (fun _ hk => hk.2) (.slice Ao39 t19.length co39)) (fun _ hk => hk.2) (.int .i64 t22)) (fun _ hk => trivial), by repeat (first|(with_reducible first|exact HB.out|apply below_alloc|apply pw_below_drewN|apply below_drew1|refine below_set ?_ GE1.out|refine below_set ?_ GE2.out)|exact HB.out)⟩
        ·rw [if_neg c36] at H
         have c36b0 : decide (120 ≤ (l0.length : Int)) = false := decide_eq_false c36
         have c36b1 : decide (120 ≤ l0.length) = false := decide_eq_false (by omega)
         clear c36
         have H' := Aside0.mk H
         clear H
         go_wp2
         go_loopg [9] kj26 (fun kq v9 w' => ∃ (x9_3 : Int), v9 = .int .i64 x9_3 ∧ Aside0 (r10_Create.l0 kq l0 a1 a2 x9_3 a3_0 a3_1 a3_2 = some (r1, r2)) ∧ Aside0 (kq ≤ kj26) ∧ Aside0 (w'.heap[gb1]? = some (.cells #[.int .i64 a3_0, .int .i64 a3_1, .int .i64 a3_2] 27 (0, 0))) ∧ Aside0 (w'.heap[gb2]? = some (.cells #[(.slice none 0 0), .int .i64 0] 67 (0, 0))) ∧ Aside0 (Below w.heap.size w w'))
         case atStart => exact ⟨(0), (by first|rfl|(simp;done)|(simp [*];done)), H', ⟨Nat.le_refl _⟩, ⟨by (with_reducible repeat (first|refine blk_drewN ?_ _|refine blk_drew ?_|refine blk_alloc ?_ _));exact BK1.out⟩, ⟨by (with_reducible repeat (first|refine blk_drewN ?_ _|refine blk_drew ?_|refine blk_alloc ?_ _));exact BK2.out⟩, ⟨by repeat (first|(with_reducible first|exact HB.out|apply below_alloc|apply pw_below_drewN|apply below_drew1|refine below_set ?_ GE1.out|refine below_set ?_ GE2.out)|exact HB.out)⟩⟩
         case round =>
          clear H'
          try clear c1
          try clear c2
          try clear p2
          try clear c3
          try clear c4
          try clear c5
          try clear c8
          try clear c9
          try clear c10
          try clear c11
          try clear c14
          try clear c18
          try clear c21
          try clear c21b0
          try clear c25
          try clear c28
          try clear c28b0
          try clear c28b1
          try clear c30
          try clear c34
          try clear c36
          try clear c36b0
          try clear c36b1
          try clear c40
          try clear hcz12_0
          try clear hcz12_1
          try clear hcz12_2
          try clear hcz19_0
          try clear hcz19_1
          try clear hcz26_0
          try clear hcz26_1
          try clear hcz35_0
          try clear hcz35_1
          try clear hcz41_0
          try clear hcz41_1
          try clear hfz12_0
          try clear hfz12_1
          try clear hfz12_2
          try clear hfz19_0
          try clear hfz19_1
          try clear hfz26_0
          try clear hfz26_1
          try clear hfz35_0
          try clear hfz35_1
          try clear hfz41_0
          try clear hfz41_1
          try clear p2
          obtain ⟨x9_3, rfl, HA, HK3, BK1, BK2, HB⟩ := hrel
          cases gk with
          | zero => exact absurd HA.out (by simp [r10_Create.l0])
          | succ k3 =>
           have H := HA.out
           clear HA
           simp only [r10_Create.l0] at H
           by_cases c42 : x9_3 < (l0.length : Int)
           ·rw [if_pos c42] at H
            have c42b0 : decide (x9_3 < (l0.length : Int)) = true := decide_eq_true c42
            clear c42
            by_cases c43 : 0 ≤ x9_3
            ·rw [if_pos c43] at H
             have c43b0 : decide (0 ≤ x9_3) = true := decide_eq_true c43
             clear c43
             by_cases c44 : (Op.bytesLess (((rd_T31 l0 x9_3).f0).toList) a1.toList) = true
             ·rw [if_pos c44] at H
              have c44b0 : (Op.bytesLess (((rd_T31 l0 x9_3).f0).toList) a1.toList) = true := c44
              clear c44
              have H' := Aside0.mk H
              clear H
              have p23 : 0 ≤ (x9_3 : Int) := of_decide_eq_true (by first|(with_reducible assumption)|assumption)
              have q23 : x9_3 < (l0.length : Int) := of_decide_eq_true (by first|(with_reducible assumption)|assumption)
              obtain ⟨ad23, e23, hx23_0, hx23_1, hx23_2, hx23_3, hx23_4, hx23_5, hx23_6, hx23_7, hx23_8, hx23_9, hx23_10, hx23_11⟩ := at_T31 HR0.out x9_3 p23 q23
              cases e23
              replace hx23_0 := (HB.out.cell (World.block_lt_of_cell? w _ hx23_0)).trans hx23_0
              replace hx23_1 := (HB.out.cell (World.block_lt_of_cell? w _ hx23_1)).trans hx23_1
              replace hx23_2 := (HB.out.cell (World.block_lt_of_cell? w _ hx23_2)).trans hx23_2
              replace hx23_3 := (HB.out.cell (World.block_lt_of_cell? w _ hx23_3)).trans hx23_3
              replace hx23_4 := (HB.out.cell (World.block_lt_of_cell? w _ hx23_4)).trans hx23_4
              replace hx23_5 := (HB.out.cell (World.block_lt_of_cell? w _ hx23_5)).trans hx23_5
              replace hx23_6 := (HB.out.cell (World.block_lt_of_cell? w _ hx23_6)).trans hx23_6
              replace hx23_7 := (HB.out.cell (World.block_lt_of_cell? w _ hx23_7)).trans hx23_7
              replace hx23_8 := (HB.out.cell (World.block_lt_of_cell? w _ hx23_8)).trans hx23_8
              replace hx23_9 := (HB.out.cell (World.block_lt_of_cell? w _ hx23_9)).trans hx23_9
              replace hx23_10 := (HB.out.cell (World.block_lt_of_cell? w _ hx23_10)).trans hx23_10
              replace hx23_11 := (HB.out.cell (World.block_lt_of_cell? w _ hx23_11)).trans hx23_11
              replace p23 := eq_true p23
              replace q23 := eq_true q23
              go_wp2
              go_roundg k3
              case measure => have := HJ4.out; have := HJ26.out; have := HK3.out; omega
              case rel => exact ⟨(wrap64 (x9_3 + 1)), (by first|rfl|(simp;done)|(simp [*];done)), H', ⟨by have := HJ4.out;have := HJ26.out;have := HK3.out;omega⟩, ⟨by (with_reducible repeat (first|refine blk_drewN ?_ _|refine blk_drew ?_|refine blk_alloc ?_ _));exact BK1.out⟩, ⟨by (with_reducible repeat (first|refine blk_drewN ?_ _|refine blk_drew ?_|refine blk_alloc ?_ _));exact BK2.out⟩, ⟨by repeat (first|(with_reducible first|exact HB.out|apply below_alloc|apply pw_below_drewN|apply below_drew1|refine below_set ?_ GE1.out|refine below_set ?_ GE2.out)|exact HB.out)⟩⟩
             ·rw [if_neg c44] at H
              have c44b0 : (Op.bytesLess (((rd_T31 l0 x9_3).f0).toList) a1.toList) = false := by simpa using c44
              clear c44
              have c45b0 := eq_true (of_decide_eq_true (by first|(with_reducible assumption)|assumption) : 0 ≤ x9_3)
              by_cases c46 : x9_3 ≤ (l0.length : Int)
              ·rw [if_pos c46] at H
               have c46b0 := eq_true c46
               have c46b1 : decide (x9_3 ≤ (l0.length : Int)) = true := decide_eq_true c46
               clear c46
               obtain ⟨y24, hy24⟩ : ∃ y_ : List (S31), y_ = (l0.take (x9_3 : Int).toNat) := ⟨_, rfl⟩
               replace H : ((r10_copied.f y24).bind fun t28 => (if t28.length < 1256584717458 then ((some (t28 ++ [(⟨a1, a2, (⟨a3_0, a3_1, a3_2⟩ : S27), (⟨0, 0, 0⟩ : S27), (⟨0, 0, 0⟩ : S27), 1⟩ : S31)] : List (S31))).bind fun y31 => ((some (l0.drop (x9_3 : Int).toNat : List (S31))).bind fun y34 => (if y31.length + y34.length < 1256584717458 then (some ((y31 ++ y34), 0)) else (none)))) else (none))) = some (r1, r2) := by first|(rw [hy24];with_reducible exact H)|(have H2_ := (Option.bind_some _ _).symm.trans H;rw [hy24];with_reducible exact H2_)|(have H2_ := (Option.bind_some _ _).symm.trans H;with_reducible exact H2_)|with_reducible exact H|(rw [hy24];exact H)|exact H
               have Ny24 := Aside0.mk hy24
               clear hy24
               replace H := Option.bind_eq_some_iff.mp H
               obtain ⟨t28, A470, H⟩ := H
               replace H : (if t28.length < 1256584717458 then ((some (t28 ++ [(⟨a1, a2, (⟨a3_0, a3_1, a3_2⟩ : S27), (⟨0, 0, 0⟩ : S27), (⟨0, 0, 0⟩ : S27), 1⟩ : S31)] : List (S31))).bind fun y31 => ((some (l0.drop (x9_3 : Int).toNat : List (S31))).bind fun y34 => (if y31.length + y34.length < 1256584717458 then (some ((y31 ++ y34), 0)) else (none)))) else (none)) = some (r1, r2) := H
               have A47 := Aside0.mk A470
               clear A470
               by_cases c48 : t28.length < 1256584717458
               ·rw [if_pos c48] at H
                have LMc48 := Aside0.mk c48
                clear c48
                obtain ⟨y31, hy31⟩ : ∃ y_ : List (S31), y_ = (t28 ++ [(⟨a1, a2, (⟨a3_0, a3_1, a3_2⟩ : S27), (⟨0, 0, 0⟩ : S27), (⟨0, 0, 0⟩ : S27), 1⟩ : S31)]) := ⟨_, rfl⟩
                replace H : ((some (l0.drop (x9_3 : Int).toNat : List (S31))).bind fun y34 => (if y31.length + y34.length < 1256584717458 then (some ((y31 ++ y34), 0)) else (none))) = some (r1, r2) := by first|(rw [hy31];with_reducible exact H)|(have H2_ := (Option.bind_some _ _).symm.trans H;rw [hy31];with_reducible exact H2_)|(have H2_ := (Option.bind_some _ _).symm.trans H;with_reducible exact H2_)|with_reducible exact H|(rw [hy31];exact H)|exact H
                have Ny31 := Aside0.mk hy31
                clear hy31
                have c49b0 := eq_true (of_decide_eq_true (by first|(with_reducible assumption)|assumption) : 0 ≤ x9_3)
                have c50b0 := eq_true (of_decide_eq_true (by first|(with_reducible assumption)|assumption) : x9_3 ≤ (l0.length : Int))
                obtain ⟨y34, hy34⟩ : ∃ y_ : List (S31), y_ = (l0.drop (x9_3 : Int).toNat) := ⟨_, rfl⟩
                replace H : (if y31.length + y34.length < 1256584717458 then (some ((y31 ++ y34), 0)) else (none)) = some (r1, r2) := by first|(rw [hy34];with_reducible exact H)|(have H2_ := (Option.bind_some _ _).symm.trans H;rw [hy34];with_reducible exact H2_)|(have H2_ := (Option.bind_some _ _).symm.trans H;with_reducible exact H2_)|with_reducible exact H|(rw [hy34];exact H)|exact H
                have Ny34 := Aside0.mk hy34
                clear hy34
                by_cases c51 : y31.length + y34.length < 1256584717458
                ·rw [if_pos c51] at H
                 have LMc51 := Aside0.mk c51
                 clear c51
                 obtain ⟨y38, hy38⟩ : ∃ y_ : List (S31), y_ = (y31 ++ y34) := ⟨_, rfl⟩
                 replace H : (some (y38, 0)) = some (r1, r2) := by first|(rw [hy38];with_reducible exact H)|(have H2_ := (Option.bind_some _ _).symm.trans H;rw [hy38];with_reducible exact H2_)|(have H2_ := (Option.bind_some _ _).symm.trans H;with_reducible exact H2_)|with_reducible exact H|(rw [hy38];exact H)|exact H
                 have Ny38 := Aside0.mk hy38
                 clear hy38
                 simp only [Option.some.injEq, Prod.mk.injEq] at H
                 obtain ⟨rfl, rfl⟩ := H
                 have p23 : 0 ≤ (x9_3 : Int) := of_decide_eq_true (by first|(with_reducible assumption)|assumption)
                 have q23 : x9_3 < (l0.length : Int) := of_decide_eq_true (by first|(with_reducible assumption)|assumption)
                 obtain ⟨ad23, e23, hx23_0, hx23_1, hx23_2, hx23_3, hx23_4, hx23_5, hx23_6, hx23_7, hx23_8, hx23_9, hx23_10, hx23_11⟩ := at_T31 HR0.out x9_3 p23 q23
                 cases e23
                 replace hx23_0 := (HB.out.cell (World.block_lt_of_cell? w _ hx23_0)).trans hx23_0
                 replace hx23_1 := (HB.out.cell (World.block_lt_of_cell? w _ hx23_1)).trans hx23_1
                 replace hx23_2 := (HB.out.cell (World.block_lt_of_cell? w _ hx23_2)).trans hx23_2
                 replace hx23_3 := (HB.out.cell (World.block_lt_of_cell? w _ hx23_3)).trans hx23_3
                 replace hx23_4 := (HB.out.cell (World.block_lt_of_cell? w _ hx23_4)).trans hx23_4
                 replace hx23_5 := (HB.out.cell (World.block_lt_of_cell? w _ hx23_5)).trans hx23_5
                 replace hx23_6 := (HB.out.cell (World.block_lt_of_cell? w _ hx23_6)).trans hx23_6
                 replace hx23_7 := (HB.out.cell (World.block_lt_of_cell? w _ hx23_7)).trans hx23_7
                 replace hx23_8 := (HB.out.cell (World.block_lt_of_cell? w _ hx23_8)).trans hx23_8
                 replace hx23_9 := (HB.out.cell (World.block_lt_of_cell? w _ hx23_9)).trans hx23_9
                 replace hx23_10 := (HB.out.cell (World.block_lt_of_cell? w _ hx23_10)).trans hx23_10
                 replace hx23_11 := (HB.out.cell (World.block_lt_of_cell? w _ hx23_11)).trans hx23_11
                 replace p23 := eq_true p23
                 replace q23 := eq_true q23
                 have q52 : (x9_3 : Int) ≤ ((l0.length : Int) : Int) := of_decide_eq_true (by first|(with_reducible assumption)|assumption)
                 obtain ⟨i052, hi052, _, hsz52, _⟩ := info_parts info31
                 have hroom52 : l0.length ≤ c0 := HC0.out
                 have hC52 : Kd.C k31 _ (some ad23) l0.length l0 := HR0.out
                 have hcut52 := cut_to (P := Try.prog) 24 31 .i64 Try.underlying24 hi052 (some ad23) l0.length c0 x9_3 (of_decide_eq_true (by first|(with_reducible assumption)|assumption)) q52 hroom52
                 have hr52 := Kd.C_take (m := (x9_3 : Int).toNat) hC52 (by omega)
                 have hy52 : y24.length = (x9_3 : Int).toNat := (by rw [Ny24.out, List.length_take]; omega)
                 rw [← Ny24.out] at hr52
                 rw [← hy52] at hcut52
                 have HR27 := Aside0.mk hr52
                 have HC27 := Aside0.mk (show y24.length ≤ c0 from by omega)
                 clear hr52 hC52 hroom52 hi052 hsz52
                 have KY52 := Aside0.mk hy52
                 clear hy52
                 replace q52 := eq_true q52
                 go_wp2_with (first|((with_reducible refine gate_callee (f := 124) rfl ?_);refine goesL_ (some 60) rfl rfl Try.func124 (by kernel_rfl) rfl #[.slice (some ad23) y24.length c0] rfl (by (try simp only [List.map_toArray, List.map_cons, List.map_nil]);first|done|rfl|(simp only [List.length_drop, List.length_take];rfl)) ?_;(with_reducible refine (r10_copied.calls _ _ y24 t28 _ ?side1 ?side2 A47.out).mono ?_);(case side1 => repeat (first|exact (Kd.C_below HR27.out HB.out)|(with_reducible refine Kd.C_alloc ?_ _)|(with_reducible refine Kd.C_drewN ?_ _)|(with_reducible refine Kd.C_drew ?_)));(case side2 => exact HC27.out);rintro e w53 ⟨v29, rfl, ho0, hb⟩;refine ⟨_, rfl, ?_⟩;have n0_ := Aside0.mk (Kd.R_lower ho0 (below_size (by repeat (first|(with_reducible first|exact HB.out|apply below_alloc|apply pw_below_drewN|apply below_drew1|refine below_set ?_ GE1.out|refine below_set ?_ GE2.out)|exact HB.out))));have n1_ := Aside0.mk (blk_below (g := gb1) (o := .cells #[.int .i64 a3_0, .int .i64 a3_1, .int .i64 a3_2] 27 (0, 0)) (by (with_reducible repeat (first|refine blk_drewN ?_ _|refine blk_drew ?_|refine blk_alloc ?_ _));exact BK1.out) hb);have n2_ := Aside0.mk (blk_below (g := gb2) (o := .cells #[.slice none 0 0, .int .i64 0] 67 (0, 0)) (by (with_reducible repeat (first|refine blk_drewN ?_ _|refine blk_drew ?_|refine blk_alloc ?_ _));exact BK2.out) hb);have n3_ := Aside0.mk (below_step (by repeat (first|(with_reducible first|exact HB.out|apply below_alloc|apply pw_below_drewN|apply below_drew1|refine below_set ?_ GE1.out|refine below_set ?_ GE2.out)|exact HB.out)) hb);clear BK1;clear BK2;clear HB;have HO30 := n0_;have BK1 := n1_;have BK2 := n2_;have HB := n3_;clear n0_ n1_ n2_ n3_;(try clear hb);(try clear hb2);(try clear hk);(try clear hi);(try clear ho0);have hnb54 := NB1_2.out;have hnc54 := NB2_1.out;have hcz55_0 : w53.cell? ⟨gb1, 0, none⟩ = some (.int .i64 a3_0) := (blk_cell BK1.out 0).trans rfl;have hcz55_1 : w53.cell? ⟨gb1, 1, none⟩ = some (.int .i64 a3_1) := (blk_cell BK1.out 1).trans rfl;have hcz55_2 : w53.cell? ⟨gb1, 2, none⟩ = some (.int .i64 a3_2) := (blk_cell BK1.out 2).trans rfl;have hfz55_0 := blk_frozen BK1.out 0;have hfz55_1 := blk_frozen BK1.out 1;have hfz55_2 := blk_frozen BK1.out 2)|((with_reducible refine gate_builtin (b := .append) (xs := #[.tmp 61, .tmp 66]) rfl ?_);at_builtin;refine Kd.R_append k31 (w0 := w) w.heap.size rfl (.tmp 61) (.tmp 66) 24 31 (.agg #[(.string ⟨#[]⟩), (.string ⟨#[]⟩), (.int .i64 0), (.int .i64 0), (.int .i64 0), (.int .i64 0), (.int .i64 0), (.int .i64 0), (.int .i64 0), (.int .i64 0), (.int .i64 0), (.int .i64 0)]) 112 rfl Try.underlying24 info31 rfl (by decide) (by omega) v29 t28 (⟨a1, a2, (⟨a3_0, a3_1, a3_2⟩ : S27), (⟨0, 0, 0⟩ : S27), (⟨0, 0, 0⟩ : S27), 1⟩ : S31) [.string a1, .string a2, .int .i64 a3_0, .int .i64 a3_1, .int .i64 a3_2, .int .i64 0, .int .i64 0, .int .i64 0, .int .i64 0, .int .i64 0, .int .i64 0, .int .i64 1] (fun _ => True) (fun _ => False) rfl rfl ?aP (fun _ hk => hk.elim) ?aF ?aO ?aB ?aS ?aL ?_;(case aP => exact k31_mkM _ _ _ (⟨a1, a2, (⟨a3_0, a3_1, a3_2⟩ : S27), (⟨0, 0, 0⟩ : S27), (⟨0, 0, 0⟩ : S27), 1⟩ : S31));(case aB => exact (by repeat (first|(with_reducible first|exact HB.out|apply below_alloc|apply pw_below_drewN|apply below_drew1|refine below_set ?_ GE1.out|refine below_set ?_ GE2.out)|exact HB.out)));(case aF => exact (fun _ _ => trivial));(case aO => exact (by (with_reducible repeat (first|apply Kd.R_alloc|apply Kd.R_drewN|apply Kd.R_drew));exact HO30.out));(case aS => exact (below_size (by repeat (first|(with_reducible first|exact HB.out|apply below_alloc|apply pw_below_drewN|apply below_drew1|refine below_set ?_ GE1.out|refine below_set ?_ GE2.out)|exact HB.out))));(case aL => have := LMc48.out;omega);intro v32 w56 ho hb hg hat;rw [← Ny31.out] at ho;have n0_ := Aside0.mk (blk_grown (g := gb1) (o := .cells #[.int .i64 a3_0, .int .i64 a3_1, .int .i64 a3_2] 27 (0, 0)) (by (with_reducible repeat (first|refine blk_drewN ?_ _|refine blk_drew ?_|refine blk_alloc ?_ _));exact BK1.out) hg (Kd.R_ne HO30.out BK1.out (by decide)));have n1_ := Aside0.mk (blk_grown (g := gb2) (o := .cells #[.slice none 0 0, .int .i64 0] 67 (0, 0)) (by (with_reducible repeat (first|refine blk_drewN ?_ _|refine blk_drew ?_|refine blk_alloc ?_ _));exact BK2.out) hg (Kd.R_ne HO30.out BK2.out (by decide)));have n2_ := Aside0.mk (hb);have n3_ := Aside0.mk (ho);clear BK1;clear BK2;clear HB;clear HO30;have BK1 := n0_;have BK2 := n1_;have HB := n2_;have HO33 := n3_;clear n0_ n1_ n2_ n3_;clear ho hb hg hat;have q57 : (x9_3 : Int) ≤ ((l0.length : Int) : Int) := of_decide_eq_true (by first|(with_reducible assumption)|assumption);obtain ⟨i057, hi057, _, hsz57, _⟩ := info_parts info31;have hroom57 : l0.length ≤ c0 := HC0.out;have hC57 : Kd.C k31 _ (some ad23) l0.length l0 := HR0.out;have q057 : (0 : Int) ≤ (x9_3 : Int) := of_decide_eq_true (by first|(with_reducible assumption)|assumption);have hcut57 := cut_from (P := Try.prog) 24 31 .i64 Try.underlying24 hi057 12 hsz57 (some ad23) l0.length c0 x9_3 q057 q57;have hr57 := Kd.C_drop (m := (x9_3 : Int).toNat) (c := c0) hC57 (by omega) hroom57;obtain ⟨A57, hA57⟩ : ∃ A1, A1 = (if c0 = (x9_3 : Int).toNat then (some ad23) else ((some ad23) : Option Addr).map (·.add ((x9_3 : Int).toNat * 12))) := ⟨_, rfl⟩;obtain ⟨c57, hc57⟩ : ∃ c1, c1 = c0 - (x9_3 : Int).toNat := ⟨_, rfl⟩;have hy57 : y34.length = l0.length - (x9_3 : Int).toNat := (by rw [Ny34.out, List.length_drop] <;> omega);rw [show (l0).drop (x9_3 : Int).toNat = y34 from Ny34.out.symm] at hr57;replace hr57 : Kd.C k31 _ A57 y34.length y34 := (by rw [hA57];exact hr57);rw [← hy57, ← hA57, ← hc57] at hcut57;have HR37 := Aside0.mk hr57;have HC37 := Aside0.mk (show y34.length ≤ c57 from by rw [hy57, hc57];exact Nat.sub_le_sub_right hroom57 _);clear hr57 hC57 hroom57 hi057 hsz57 hc57;have KY57 := Aside0.mk hy57;have KA57 := Aside0.mk hA57;clear hy57 hA57;replace q57 := eq_true q57)|((with_reducible refine gate_builtin (b := .append) (xs := #[.tmp 68, .tmp 71]) rfl ?_);at_builtin;refine Kd.R_append_rows k31 (w0 := w) w.heap.size rfl (.tmp 68) (.tmp 71) 24 31 (.agg #[(.string ⟨#[]⟩), (.string ⟨#[]⟩), (.int .i64 0), (.int .i64 0), (.int .i64 0), (.int .i64 0), (.int .i64 0), (.int .i64 0), (.int .i64 0), (.int .i64 0), (.int .i64 0), (.int .i64 0)]) 112 rfl Try.underlying24 info31 rfl (by decide) (by omega) v32 y31 y34 _ _ _ (fun _ => True) (fun _ => False) rfl rfl ?aO ?aR (fun _ _ h => h) (fun _ h => h.elim) ?aF ?aB ?aS ?aL ?_;(case aR => repeat (first|exact (Kd.C_below HR37.out HB.out)|(with_reducible refine Kd.C_alloc ?_ _)|(with_reducible refine Kd.C_drewN ?_ _)|(with_reducible refine Kd.C_drew ?_)));(case aB => exact (by repeat (first|(with_reducible first|exact HB.out|apply below_alloc|apply pw_below_drewN|apply below_drew1|refine below_set ?_ GE1.out|refine below_set ?_ GE2.out)|exact HB.out)));(case aF => exact (fun _ _ => trivial));(case aO => exact (by (with_reducible repeat (first|apply Kd.R_alloc|apply Kd.R_drewN|apply Kd.R_drew));exact HO33.out));(case aS => exact (below_size (by repeat (first|(with_reducible first|exact HB.out|apply below_alloc|apply pw_below_drewN|apply below_drew1|refine below_set ?_ GE1.out|refine below_set ?_ GE2.out)|exact HB.out))));(case aL => have := LMc51.out;omega);intro v39 w58 ho hb hg hat;rw [← Ny38.out] at ho;have n0_ := Aside0.mk (blk_grown (g := gb1) (o := .cells #[.int .i64 a3_0, .int .i64 a3_1, .int .i64 a3_2] 27 (0, 0)) (by (with_reducible repeat (first|refine blk_drewN ?_ _|refine blk_drew ?_|refine blk_alloc ?_ _));exact BK1.out) hg (Kd.R_ne HO33.out BK1.out (by decide)));have n1_ := Aside0.mk (blk_grown (g := gb2) (o := .cells #[.slice none 0 0, .int .i64 0] 67 (0, 0)) (by (with_reducible repeat (first|refine blk_drewN ?_ _|refine blk_drew ?_|refine blk_alloc ?_ _));exact BK2.out) hg (Kd.R_ne HO33.out BK2.out (by decide)));have n2_ := Aside0.mk (hb);have n3_ := Aside0.mk (ho);clear BK1;clear BK2;clear HB;clear HO33;have BK1 := n0_;have BK2 := n1_;have HB := n2_;have HO40 := n3_;clear n0_ n1_ n2_ n3_;clear ho hb hg hat;obtain ⟨Ao59, co59, eo59⟩ := Kd.R_slice HO40.out;subst eo59;have hcz60_0 : w58.cell? ⟨gb2, 0, none⟩ = some (.slice none 0 0) := (blk_cell BK2.out 0).trans rfl;have hcz60_1 : w58.cell? ⟨gb2, 1, none⟩ = some (.int .i64 0) := (blk_cell BK2.out 1).trans rfl;have hfz60_0 := blk_frozen BK2.out 0;have hfz60_1 := blk_frozen BK2.out 1))
                 refine bodyPost_ret (results_cell_row rfl _ _ gb2 67 #[.slice Ao59 y38.length co59, .int .i64 0] (0, 0) _ rfl (by (with_reducible repeat (first|refine blk_drewN ?_ _|refine blk_drew ?_|refine blk_alloc ?_ _));refine blk_put (cs := #[.slice Ao59 y38.length co59, .int .i64 0]) ?_ 1 _ rfl;(with_reducible repeat (first|refine blk_drewN ?_ _|refine blk_drew ?_|refine blk_alloc ?_ _));refine blk_put (cs := #[.slice none 0 0, .int .i64 0]) ?_ 0 _ rfl;(with_reducible repeat (first|refine blk_drewN ?_ _|refine blk_drew ?_|refine blk_alloc ?_ _));exact BK2.out) Try.underlying67 rfl (by kernel_rfl)) rfl ?_
                 exact ⟨_, by first|rfl|(simp [errW_none, errW_some] <;> rfl)|(simp [*, errW_none, errW_some] <;> rfl), by (with_reducible repeat (first|apply Kd.R_alloc|apply Kd.R_drewN|apply Kd.R_drew));exact Kd.R_mono (Kd.R_far (p := ⟨gb2, 1, none⟩) (Kd.R_far (p := ⟨gb2, 0, none⟩) (Kd.R_types HO40.out BK2.out (by decide)) (fun _ hk => hk.2) (.slice Ao59 y38.length co59)) (fun _ hk => hk.2) (.int .i64 0)) (fun _ hk => trivial), by repeat (first|(with_reducible first|exact HB.out|apply below_alloc|apply pw_below_drewN|apply below_drew1|refine below_set ?_ GE1.out|refine below_set ?_ GE2.out)|exact HB.out)⟩
                ·rw [if_neg c51] at H
                 exact absurd H (by simp)
               ·rw [if_neg c48] at H
                exact absurd H (by simp)
              ·rw [if_neg c46] at H
               exact absurd H (by simp)
            ·rw [if_neg c43] at H
             exact absurd H (by simp)
           ·rw [if_neg c42] at H
            have c42b0 : decide (x9_3 < (l0.length : Int)) = false := decide_eq_false c42
            clear c42
            by_cases c61 : 0 ≤ x9_3
            ·rw [if_pos c61] at H
             have c61b0 := eq_true c61
             have c61b1 : decide (0 ≤ x9_3) = true := decide_eq_true c61
             clear c61
             by_cases c62 : x9_3 ≤ (l0.length : Int)
             ·rw [if_pos c62] at H
              have c62b0 := eq_true c62
              have c62b1 : decide (x9_3 ≤ (l0.length : Int)) = true := decide_eq_true c62
              clear c62
              obtain ⟨y41, hy41⟩ : ∃ y_ : List (S31), y_ = (l0.take (x9_3 : Int).toNat) := ⟨_, rfl⟩
              replace H : ((r10_copied.f y41).bind fun t45 => (if t45.length < 1256584717458 then ((some (t45 ++ [(⟨a1, a2, (⟨a3_0, a3_1, a3_2⟩ : S27), (⟨0, 0, 0⟩ : S27), (⟨0, 0, 0⟩ : S27), 1⟩ : S31)] : List (S31))).bind fun y48 => ((some (l0.drop (x9_3 : Int).toNat : List (S31))).bind fun y51 => (if y48.length + y51.length < 1256584717458 then (some ((y48 ++ y51), 0)) else (none)))) else (none))) = some (r1, r2) := by first|(rw [hy41];with_reducible exact H)|(have H2_ := (Option.bind_some _ _).symm.trans H;rw [hy41];with_reducible exact H2_)|(have H2_ := (Option.bind_some _ _).symm.trans H;with_reducible exact H2_)|with_reducible exact H|(rw [hy41];exact H)|exact H
              have Ny41 := Aside0.mk hy41
              clear hy41
              replace H := Option.bind_eq_some_iff.mp H
              obtain ⟨t45, A630, H⟩ := H
              replace H : (if t45.length < 1256584717458 then ((some (t45 ++ [(⟨a1, a2, (⟨a3_0, a3_1, a3_2⟩ : S27), (⟨0, 0, 0⟩ : S27), (⟨0, 0, 0⟩ : S27), 1⟩ : S31)] : List (S31))).bind fun y48 => ((some (l0.drop (x9_3 : Int).toNat : List (S31))).bind fun y51 => (if y48.length + y51.length < 1256584717458 then (some ((y48 ++ y51), 0)) else (none)))) else (none)) = some (r1, r2) := H
              have A63 := Aside0.mk A630
              clear A630
              by_cases c64 : t45.length < 1256584717458
              ·rw [if_pos c64] at H
               have LMc64 := Aside0.mk c64
               clear c64
               obtain ⟨y48, hy48⟩ : ∃ y_ : List (S31), y_ = (t45 ++ [(⟨a1, a2, (⟨a3_0, a3_1, a3_2⟩ : S27), (⟨0, 0, 0⟩ : S27), (⟨0, 0, 0⟩ : S27), 1⟩ : S31)]) := ⟨_, rfl⟩
               replace H : ((some (l0.drop (x9_3 : Int).toNat : List (S31))).bind fun y51 => (if y48.length + y51.length < 1256584717458 then (some ((y48 ++ y51), 0)) else (none))) = some (r1, r2) := by first|(rw [hy48];with_reducible exact H)|(have H2_ := (Option.bind_some _ _).symm.trans H;rw [hy48];with_reducible exact H2_)|(have H2_ := (Option.bind_some _ _).symm.trans H;with_reducible exact H2_)|with_reducible exact H|(rw [hy48];exact H)|exact H
               have Ny48 := Aside0.mk hy48
               clear hy48
               have c65b0 := eq_true (of_decide_eq_true (by first|(with_reducible assumption)|assumption) : 0 ≤ x9_3)
               have c66b0 := eq_true (of_decide_eq_true (by first|(with_reducible assumption)|assumption) : x9_3 ≤ (l0.length : Int))
               obtain ⟨y51, hy51⟩ : ∃ y_ : List (S31), y_ = (l0.drop (x9_3 : Int).toNat) := ⟨_, rfl⟩
               replace H : (if y48.length + y51.length < 1256584717458 then (some ((y48 ++ y51), 0)) else (none)) = some (r1, r2) := by first|(rw [hy51];with_reducible exact H)|(have H2_ := (Option.bind_some _ _).symm.trans H;rw [hy51];with_reducible exact H2_)|(have H2_ := (Option.bind_some _ _).symm.trans H;with_reducible exact H2_)|with_reducible exact H|(rw [hy51];exact H)|exact H
               have Ny51 := Aside0.mk hy51
               clear hy51
               by_cases c67 : y48.length + y51.length < 1256584717458
               ·rw [if_pos c67] at H
                have LMc67 := Aside0.mk c67
                clear c67
                obtain ⟨y55, hy55⟩ : ∃ y_ : List (S31), y_ = (y48 ++ y51) := ⟨_, rfl⟩
                replace H : (some (y55, 0)) = some (r1, r2) := by first|(rw [hy55];with_reducible exact H)|(have H2_ := (Option.bind_some _ _).symm.trans H;rw [hy55];with_reducible exact H2_)|(have H2_ := (Option.bind_some _ _).symm.trans H;with_reducible exact H2_)|with_reducible exact H|(rw [hy55];exact H)|exact H
                have Ny55 := Aside0.mk hy55
                clear hy55
                simp only [Option.some.injEq, Prod.mk.injEq] at H
                obtain ⟨rfl, rfl⟩ := H
                have q68 : (x9_3 : Int) ≤ ((l0.length : Int) : Int) := of_decide_eq_true (by first|(with_reducible assumption)|assumption)
                obtain ⟨i068, hi068, _, hsz68, _⟩ := info_parts info31
                have hroom68 : l0.length ≤ c0 := HC0.out
                have hC68 : Kd.C k31 _ A0 l0.length l0 := HR0.out
                have hcut68 := cut_to (P := Try.prog) 24 31 .i64 Try.underlying24 hi068 A0 l0.length c0 x9_3 (of_decide_eq_true (by first|(with_reducible assumption)|assumption)) q68 hroom68
                have hr68 := Kd.C_take (m := (x9_3 : Int).toNat) hC68 (by omega)
                have hy68 : y41.length = (x9_3 : Int).toNat := (by rw [Ny41.out, List.length_take]; omega)
                rw [← Ny41.out] at hr68
                rw [← hy68] at hcut68
                have HR44 := Aside0.mk hr68
                have HC44 := Aside0.mk (show y41.length ≤ c0 from by omega)
                clear hr68 hC68 hroom68 hi068 hsz68
                have KY68 := Aside0.mk hy68
                clear hy68
                replace q68 := eq_true q68
                go_wp2_with (first|((with_reducible refine gate_callee (f := 124) rfl ?_);refine goesL_ (some 60) rfl rfl Try.func124 (by kernel_rfl) rfl #[.slice A0 y41.length c0] rfl (by (try simp only [List.map_toArray, List.map_cons, List.map_nil]);first|done|rfl|(simp only [List.length_drop, List.length_take];rfl)) ?_;(with_reducible refine (r10_copied.calls _ _ y41 t45 _ ?side1 ?side2 A63.out).mono ?_);(case side1 => repeat (first|exact (Kd.C_below HR44.out HB.out)|(with_reducible refine Kd.C_alloc ?_ _)|(with_reducible refine Kd.C_drewN ?_ _)|(with_reducible refine Kd.C_drew ?_)));(case side2 => exact HC44.out);rintro e w69 ⟨v46, rfl, ho0, hb⟩;refine ⟨_, rfl, ?_⟩;have n0_ := Aside0.mk (Kd.R_lower ho0 (below_size (by repeat (first|(with_reducible first|exact HB.out|apply below_alloc|apply pw_below_drewN|apply below_drew1|refine below_set ?_ GE1.out|refine below_set ?_ GE2.out)|exact HB.out))));have n1_ := Aside0.mk (blk_below (g := gb1) (o := .cells #[.int .i64 a3_0, .int .i64 a3_1, .int .i64 a3_2] 27 (0, 0)) (by (with_reducible repeat (first|refine blk_drewN ?_ _|refine blk_drew ?_|refine blk_alloc ?_ _));exact BK1.out) hb);have n2_ := Aside0.mk (blk_below (g := gb2) (o := .cells #[.slice none 0 0, .int .i64 0] 67 (0, 0)) (by (with_reducible repeat (first|refine blk_drewN ?_ _|refine blk_drew ?_|refine blk_alloc ?_ _));exact BK2.out) hb);have n3_ := Aside0.mk (below_step (by repeat (first|(with_reducible first|exact HB.out|apply below_alloc|apply pw_below_drewN|apply below_drew1|refine below_set ?_ GE1.out|refine below_set ?_ GE2.out)|exact HB.out)) hb);clear BK1;clear BK2;clear HB;have HO47 := n0_;have BK1 := n1_;have BK2 := n2_;have HB := n3_;clear n0_ n1_ n2_ n3_;(try clear hb);(try clear hb2);(try clear hk);(try clear hi);(try clear ho0);have hnb70 := NB1_2.out;have hnc70 := NB2_1.out;have hcz71_0 : w69.cell? ⟨gb1, 0, none⟩ = some (.int .i64 a3_0) := (blk_cell BK1.out 0).trans rfl;have hcz71_1 : w69.cell? ⟨gb1, 1, none⟩ = some (.int .i64 a3_1) := (blk_cell BK1.out 1).trans rfl;have hcz71_2 : w69.cell? ⟨gb1, 2, none⟩ = some (.int .i64 a3_2) := (blk_cell BK1.out 2).trans rfl;have hfz71_0 := blk_frozen BK1.out 0;have hfz71_1 := blk_frozen BK1.out 1;have hfz71_2 := blk_frozen BK1.out 2)|((with_reducible refine gate_builtin (b := .append) (xs := #[.tmp 61, .tmp 66]) rfl ?_);at_builtin;refine Kd.R_append k31 (w0 := w) w.heap.size rfl (.tmp 61) (.tmp 66) 24 31 (.agg #[(.string ⟨#[]⟩), (.string ⟨#[]⟩), (.int .i64 0), (.int .i64 0), (.int .i64 0), (.int .i64 0), (.int .i64 0), (.int .i64 0), (.int .i64 0), (.int .i64 0), (.int .i64 0), (.int .i64 0)]) 112 rfl Try.underlying24 info31 rfl (by decide) (by omega) v46 t45 (⟨a1, a2, (⟨a3_0, a3_1, a3_2⟩ : S27), (⟨0, 0, 0⟩ : S27), (⟨0, 0, 0⟩ : S27), 1⟩ : S31) [.string a1, .string a2, .int .i64 a3_0, .int .i64 a3_1, .int .i64 a3_2, .int .i64 0, .int .i64 0, .int .i64 0, .int .i64 0, .int .i64 0, .int .i64 0, .int .i64 1] (fun _ => True) (fun _ => False) rfl rfl ?aP (fun _ hk => hk.elim) ?aF ?aO ?aB ?aS ?aL ?_;(case aP => exact k31_mkM _ _ _ (⟨a1, a2, (⟨a3_0, a3_1, a3_2⟩ : S27), (⟨0, 0, 0⟩ : S27), (⟨0, 0, 0⟩ : S27), 1⟩ : S31));(case aB => exact (by repeat (first|(with_reducible first|exact HB.out|apply below_alloc|apply pw_below_drewN|apply below_drew1|refine below_set ?_ GE1.out|refine below_set ?_ GE2.out)|exact HB.out)));(case aF => exact (fun _ _ => trivial));(case aO => exact (by (with_reducible repeat (first|apply Kd.R_alloc|apply Kd.R_drewN|apply Kd.R_drew));exact HO47.out));(case aS => exact (below_size (by repeat (first|(with_reducible first|exact HB.out|apply below_alloc|apply pw_below_drewN|apply below_drew1|refine below_set ?_ GE1.out|refine below_set ?_ GE2.out)|exact HB.out))));(case aL => have := LMc64.out;omega);intro v49 w72 ho hb hg hat;rw [← Ny48.out] at ho;have n0_ := Aside0.mk (blk_grown (g := gb1) (o := .cells #[.int .i64 a3_0, .int .i64 a3_1, .int .i64 a3_2] 27 (0, 0)) (by (with_reducible repeat (first|refine blk_drewN ?_ _|refine blk_drew ?_|refine blk_alloc ?_ _));exact BK1.out) hg (Kd.R_ne HO47.out BK1.out (by decide)));have n1_ := Aside0.mk (blk_grown (g := gb2) (o := .cells #[.slice none 0 0, .int .i64 0] 67 (0, 0)) (by (with_reducible repeat (first|refine blk_drewN ?_ _|refine blk_drew ?_|refine blk_alloc ?_ _));exact BK2.out) hg (Kd.R_ne HO47.out BK2.out (by decide)));have n2_ := Aside0.mk (hb);have n3_ := Aside0.mk (ho);clear BK1;clear BK2;clear HB;clear HO47;have BK1 := n0_;have BK2 := n1_;have HB := n2_;have HO50 := n3_;clear n0_ n1_ n2_ n3_;clear ho hb hg hat;have q73 : (x9_3 : Int) ≤ ((l0.length : Int) : Int) := of_decide_eq_true (by first|(with_reducible assumption)|assumption);obtain ⟨i073, hi073, _, hsz73, _⟩ := info_parts info31;have hroom73 : l0.length ≤ c0 := HC0.out;have hC73 : Kd.C k31 _ A0 l0.length l0 := HR0.out;have q073 : (0 : Int) ≤ (x9_3 : Int) := of_decide_eq_true (by first|(with_reducible assumption)|assumption);have hcut73 := cut_from (P := Try.prog) 24 31 .i64 Try.underlying24 hi073 12 hsz73 A0 l0.length c0 x9_3 q073 q73;have hr73 := Kd.C_drop (m := (x9_3 : Int).toNat) (c := c0) hC73 (by omega) hroom73;obtain ⟨A73, hA73⟩ : ∃ A1, A1 = (if c0 = (x9_3 : Int).toNat then A0 else (A0 : Option Addr).map (·.add ((x9_3 : Int).toNat * 12))) := ⟨_, rfl⟩;obtain ⟨c73, hc73⟩ : ∃ c1, c1 = c0 - (x9_3 : Int).toNat := ⟨_, rfl⟩;have hy73 : y51.length = l0.length - (x9_3 : Int).toNat := (by rw [Ny51.out, List.length_drop] <;> omega);rw [show (l0).drop (x9_3 : Int).toNat = y51 from Ny51.out.symm] at hr73;replace hr73 : Kd.C k31 _ A73 y51.length y51 := (by rw [hA73];exact hr73);rw [← hy73, ← hA73, ← hc73] at hcut73;have HR54 := Aside0.mk hr73;have HC54 := Aside0.mk (show y51.length ≤ c73 from by rw [hy73, hc73];exact Nat.sub_le_sub_right hroom73 _);clear hr73 hC73 hroom73 hi073 hsz73 hc73;have KY73 := Aside0.mk hy73;have KA73 := Aside0.mk hA73;clear hy73 hA73;replace q73 := eq_true q73)|((with_reducible refine gate_builtin (b := .append) (xs := #[.tmp 68, .tmp 71]) rfl ?_);at_builtin;refine Kd.R_append_rows k31 (w0 := w) w.heap.size rfl (.tmp 68) (.tmp 71) 24 31 (.agg #[(.string ⟨#[]⟩), (.string ⟨#[]⟩), (.int .i64 0), (.int .i64 0), (.int .i64 0), (.int .i64 0), (.int .i64 0), (.int .i64 0), (.int .i64 0), (.int .i64 0), (.int .i64 0), (.int .i64 0)]) 112 rfl Try.underlying24 info31 rfl (by decide) (by omega) v49 y48 y51 _ _ _ (fun _ => True) (fun _ => False) rfl rfl ?aO ?aR (fun _ _ h => h) (fun _ h => h.elim) ?aF ?aB ?aS ?aL ?_;(case aR => repeat (first|exact (Kd.C_below HR54.out HB.out)|(with_reducible refine Kd.C_alloc ?_ _)|(with_reducible refine Kd.C_drewN ?_ _)|(with_reducible refine Kd.C_drew ?_)));(case aB => exact (by repeat (first|(with_reducible first|exact HB.out|apply below_alloc|apply pw_below_drewN|apply below_drew1|refine below_set ?_ GE1.out|refine below_set ?_ GE2.out)|exact HB.out)));(case aF => exact (fun _ _ => trivial));(case aO => exact (by (with_reducible repeat (first|apply Kd.R_alloc|apply Kd.R_drewN|apply Kd.R_drew));exact HO50.out));(case aS => exact (below_size (by repeat (first|(with_reducible first|exact HB.out|apply below_alloc|apply pw_below_drewN|apply below_drew1|refine below_set ?_ GE1.out|refine below_set ?_ GE2.out)|exact HB.out))));(case aL => have := LMc67.out;omega);intro v56 w74 ho hb hg hat;rw [← Ny55.out] at ho;have n0_ := Aside0.mk (blk_grown (g := gb1) (o := .cells #[.int .i64 a3_0, .int .i64 a3_1, .int .i64 a3_2] 27 (0, 0)) (by (with_reducible repeat (first|refine blk_drewN ?_ _|refine blk_drew ?_|refine blk_alloc ?_ _));exact BK1.out) hg (Kd.R_ne HO50.out BK1.out (by decide)));have n1_ := Aside0.mk (blk_grown (g := gb2) (o := .cells #[.slice none 0 0, .int .i64 0] 67 (0, 0)) (by (with_reducible repeat (first|refine blk_drewN ?_ _|refine blk_drew ?_|refine blk_alloc ?_ _));exact BK2.out) hg (Kd.R_ne HO50.out BK2.out (by decide)));have n2_ := Aside0.mk (hb);have n3_ := Aside0.mk (ho);clear BK1;clear BK2;clear HB;clear HO50;have BK1 := n0_;have BK2 := n1_;have HB := n2_;have HO57 := n3_;clear n0_ n1_ n2_ n3_;clear ho hb hg hat;obtain ⟨Ao75, co75, eo75⟩ := Kd.R_slice HO57.out;subst eo75;have hcz76_0 : w74.cell? ⟨gb2, 0, none⟩ = some (.slice none 0 0) := (blk_cell BK2.out 0).trans rfl;have hcz76_1 : w74.cell? ⟨gb2, 1, none⟩ = some (.int .i64 0) := (blk_cell BK2.out 1).trans rfl;have hfz76_0 := blk_frozen BK2.out 0;have hfz76_1 := blk_frozen BK2.out 1))
                refine bodyPost_ret (results_cell_row rfl _ _ gb2 67 #[.slice Ao75 y55.length co75, .int .i64 0] (0, 0) _ rfl (by (with_reducible repeat (first|refine blk_drewN ?_ _|refine blk_drew ?_|refine blk_alloc ?_ _));refine blk_put (cs := #[.slice Ao75 y55.length co75, .int .i64 0]) ?_ 1 _ rfl;(with_reducible repeat (first|refine blk_drewN ?_ _|refine blk_drew ?_|refine blk_alloc ?_ _));refine blk_put (cs := #[.slice none 0 0, .int .i64 0]) ?_ 0 _ rfl;(with_reducible repeat (first|refine blk_drewN ?_ _|refine blk_drew ?_|refine blk_alloc ?_ _));exact BK2.out) Try.underlying67 rfl (by kernel_rfl)) rfl ?_
                exact ⟨_, by first|rfl|(simp [errW_none, errW_some] <;> rfl)|(simp [*, errW_none, errW_some] <;> rfl), by (with_reducible repeat (first|apply Kd.R_alloc|apply Kd.R_drewN|apply Kd.R_drew));exact Kd.R_mono (Kd.R_far (p := ⟨gb2, 1, none⟩) (Kd.R_far (p := ⟨gb2, 0, none⟩) (Kd.R_types HO57.out BK2.out (by decide)) (fun _ hk => hk.2) (.slice Ao75 y55.length co75)) (fun _ hk => hk.2) (.int .i64 0)) (fun _ hk => trivial), by repeat (first|(with_reducible first|exact HB.out|apply below_alloc|apply pw_below_drewN|apply below_drew1|refine below_set ?_ GE1.out|refine below_set ?_ GE2.out)|exact HB.out)⟩
               ·rw [if_neg c67] at H
                exact absurd H (by simp)
              ·rw [if_neg c64] at H
               exact absurd H (by simp)
             ·rw [if_neg c62] at H
              exact absurd H (by simp)
            ·rw [if_neg c61] at H
             exact absurd H (by simp)
end Go.Proofs.Ytcgefpklljclgaa.Print

namespace Go.Proofs.Ytcgefpklljclgaa.Print
open Go.RowKit Go.Proofs.YtcgefpklljclgaaW.PrintWords Go.Proofs.YtcgefpklljclgaaW.PrintLast Go.Proofs.YtcgefpklljclgaaW.PrintMore
attribute [local go_sem] max2_int min2_int max_two min_two max_three min_three max_four min_four   -- for this text's walks alone
set_option linter.unusedVariables false
set_option linter.unusedSimpArgs false
/-! ### vec_Most: function 157 -/
def vec_Most.f  : Option (Int × Int × Int) := some (1099511627776, 1099511627776, 1099511627776)
set_option maxHeartbeats 8000000 in
set_option maxRecDepth 100000 in
theorem vec_Most.calls  (r1 : Int) (r2 : Int) (r3 : Int) (w : World) (h : vec_Most.f  = some (r1, r2, r3)) :
  Calls Try.prog 157 #[] w fun e w' => e = .returned (.agg #[.int .i64 r1, .int .i64 r2, .int .i64 r3]) ∧ Below w.heap.size w w' := by
 have hu27 := Try.underlying27
 have HB := Aside0.mk (Below.refl w.heap.size w)
 have H : (some (1099511627776, 1099511627776, 1099511627776)) = some (r1, r2, r3) := h
 clear h
 simp only [Option.some.injEq, Prod.mk.injEq] at H
 obtain ⟨rfl, rfl, rfl⟩ := H
 go_enter Try.func157, Try.ntmps157
 go_wp2_with (first|((with_reducible refine gate_dst (N := 0) rfl ?_);refine box_event ?hg (N := 0) ?hd (cs := #[.int .i64 0, .int .i64 0, .int .i64 0]) (t := 27) ?hr ?_;(case hd => rfl);(case hg => rfl);(case hr => first|(go_simp;done)|(go_simp;rfl));intro gb1 hg w1 hbox hb;have n0_ := Aside0.mk (below_step (by repeat (first|(with_reducible first|exact HB.out|apply below_alloc|apply pw_below_drewN|apply below_drew1)|exact HB.out)) hb);have n1_ := Aside0.mk (hbox);have n2_ := Aside0.mk ((by rw [hg];exact (below_size (by repeat (first|(with_reducible first|exact HB.out|apply below_alloc|apply pw_below_drewN|apply below_drew1)|exact HB.out))) : w.heap.size ≤ gb1));have n3_ := Aside0.mk ((by rw [hg];exact (below_size (by repeat (first|(with_reducible first|exact HB.out|apply below_alloc|apply pw_below_drewN|apply below_drew1)|exact HB.out))) : w.heap.size ≤ gb1));clear HB;have HB := n0_;have BK1 := n1_;have GW1 := n2_;have GE1 := n3_;clear n0_ n1_ n2_ n3_;clear hb hbox hg;have hcz2_0 : w1.cell? ⟨gb1, 0, none⟩ = some (.int .i64 0) := (blk_cell BK1.out 0).trans rfl;have hcz2_1 : w1.cell? ⟨gb1, 1, none⟩ = some (.int .i64 0) := (blk_cell BK1.out 1).trans rfl;have hcz2_2 : w1.cell? ⟨gb1, 2, none⟩ = some (.int .i64 0) := (blk_cell BK1.out 2).trans rfl;have hfz2_0 := blk_frozen BK1.out 0;have hfz2_1 := blk_frozen BK1.out 1;have hfz2_2 := blk_frozen BK1.out 2))
 refine bodyPost_ret (results_cell_row rfl _ _ gb1 27 #[.int .i64 1099511627776, .int .i64 1099511627776, .int .i64 1099511627776] (0, 0) _ rfl (by (with_reducible repeat (first|refine blk_drewN ?_ _|refine blk_drew ?_|refine blk_alloc ?_ _));refine blk_put (cs := #[.int .i64 1099511627776, .int .i64 1099511627776, .int .i64 0]) ?_ 2 _ rfl;(with_reducible repeat (first|refine blk_drewN ?_ _|refine blk_drew ?_|refine blk_alloc ?_ _));refine blk_put (cs := #[.int .i64 1099511627776, .int .i64 0, .int .i64 0]) ?_ 1 _ rfl;(with_reducible repeat (first|refine blk_drewN ?_ _|refine blk_drew ?_|refine blk_alloc ?_ _));refine blk_put (cs := #[.int .i64 0, .int .i64 0, .int .i64 0]) ?_ 0 _ rfl;(with_reducible repeat (first|refine blk_drewN ?_ _|refine blk_drew ?_|refine blk_alloc ?_ _));exact BK1.out) Try.underlying27 rfl (by kernel_rfl)) rfl ?_
 exact ⟨by first|rfl|(simp [errW_none, errW_some] <;> rfl)|(simp [*, errW_none, errW_some] <;> rfl), by repeat (first|(with_reducible first|exact HB.out|apply below_alloc|apply pw_below_drewN|apply below_drew1|refine below_set ?_ GE1.out)|exact HB.out)⟩
end Go.Proofs.Ytcgefpklljclgaa.Print

namespace Go.Proofs.Ytcgefpklljclgaa.Print
open Go.RowKit Go.Proofs.YtcgefpklljclgaaW.PrintWords Go.Proofs.YtcgefpklljclgaaW.PrintLast Go.Proofs.YtcgefpklljclgaaW.PrintMore
attribute [local go_sem] max2_int min2_int max_two min_two max_three min_three max_four min_four   -- for this text's walks alone
set_option linter.unusedVariables false
set_option linter.unusedSimpArgs false
/-! ### vec_Le: function 118 -/
def vec_Le.f (a0_0 : Int) (a0_1 : Int) (a0_2 : Int) (a1_0 : Int) (a1_1 : Int) (a1_2 : Int) : Option (Bool) := if a0_0 ≤ a1_0 then (if a0_1 ≤ a1_1 then (some (decide (a0_2 ≤ a1_2))) else (some false)) else (some false)
set_option maxHeartbeats 8000000 in
set_option maxRecDepth 100000 in
theorem vec_Le.calls (a0_0 : Int) (a0_1 : Int) (a0_2 : Int) (a1_0 : Int) (a1_1 : Int) (a1_2 : Int) (r : Bool) (w : World) (h : vec_Le.f a0_0 a0_1 a0_2 a1_0 a1_1 a1_2 = some r) :
  Calls Try.prog 118 #[.agg #[.int .i64 a0_0, .int .i64 a0_1, .int .i64 a0_2], .agg #[.int .i64 a1_0, .int .i64 a1_1, .int .i64 a1_2]] w fun e w' => e = .returned (.bool r) ∧ Below w.heap.size w w' := by
 have hu27 := Try.underlying27
 have HB := Aside0.mk (Below.refl w.heap.size w)
 have H : (if a0_0 ≤ a1_0 then (if a0_1 ≤ a1_1 then (some (decide (a0_2 ≤ a1_2))) else (some false)) else (some false)) = some r := h
 clear h
 by_cases c3 : a0_0 ≤ a1_0
 ·rw [if_pos c3] at H
  have c3b0 : decide (a0_0 ≤ a1_0) = true := decide_eq_true c3
  clear c3
  by_cases c4 : a0_1 ≤ a1_1
  ·rw [if_pos c4] at H
   have c4b0 : decide (a0_1 ≤ a1_1) = true := decide_eq_true c4
   clear c4
   obtain rfl := Option.some.inj H
   go_enter Try.func118, Try.ntmps118
   go_wp2_with (first|((with_reducible refine gate_dst (N := 2) rfl ?_);refine box_event ?hg (N := 2) ?hd (cs := #[.int .i64 a0_0, .int .i64 a0_1, .int .i64 a0_2]) (t := 27) ?hr ?_;(case hd => rfl);(case hg => rfl);(case hr => first|(go_simp;done)|(go_simp;rfl));intro gb1 hg w5 hbox hb;have n0_ := Aside0.mk (below_step (by repeat (first|(with_reducible first|exact HB.out|apply below_alloc|apply pw_below_drewN|apply below_drew1)|exact HB.out)) hb);have n1_ := Aside0.mk (hbox);have n2_ := Aside0.mk ((by rw [hg];exact (below_size (by repeat (first|(with_reducible first|exact HB.out|apply below_alloc|apply pw_below_drewN|apply below_drew1)|exact HB.out))) : w.heap.size ≤ gb1));have n3_ := Aside0.mk ((by rw [hg];exact (below_size (by repeat (first|(with_reducible first|exact HB.out|apply below_alloc|apply pw_below_drewN|apply below_drew1)|exact HB.out))) : w.heap.size ≤ gb1));clear HB;have HB := n0_;have BK1 := n1_;have GW1 := n2_;have GE1 := n3_;clear n0_ n1_ n2_ n3_;clear hb hbox hg)|((with_reducible refine gate_dst (N := 3) rfl ?_);refine box_event ?hg (N := 3) ?hd (cs := #[.int .i64 a1_0, .int .i64 a1_1, .int .i64 a1_2]) (t := 27) ?hr ?_;(case hd => rfl);(case hg => rfl);(case hr => first|(go_simp;done)|(go_simp;rfl));intro gb2 hg w6 hbox hb;have n0_ := Aside0.mk (blk_below (g := gb1) (o := .cells #[.int .i64 a0_0, .int .i64 a0_1, .int .i64 a0_2] 27 (0, 0)) (by (with_reducible repeat (first|refine blk_drewN ?_ _|refine blk_drew ?_|refine blk_alloc ?_ _));exact BK1.out) hb);have n1_ := Aside0.mk (below_step (by repeat (first|(with_reducible first|exact HB.out|apply below_alloc|apply pw_below_drewN|apply below_drew1|refine below_set ?_ GE1.out)|exact HB.out)) hb);have n2_ := Aside0.mk (hbox);have n3_ := Aside0.mk ((by rw [hg];exact (below_size (by repeat (first|(with_reducible first|exact HB.out|apply below_alloc|apply pw_below_drewN|apply below_drew1|refine below_set ?_ GE1.out)|exact HB.out))) : w.heap.size ≤ gb2));have n4_ := Aside0.mk ((by rw [hg];exact (below_size (by repeat (first|(with_reducible first|exact HB.out|apply below_alloc|apply pw_below_drewN|apply below_drew1|refine below_set ?_ GE1.out)|exact HB.out))) : w.heap.size ≤ gb2));have n5_ := Aside0.mk ((by rw [hg];exact Nat.ne_of_lt (blk_lt (g := gb1) (o := .cells #[.int .i64 a0_0, .int .i64 a0_1, .int .i64 a0_2] 27 (0, 0)) (by (with_reducible repeat (first|refine blk_drewN ?_ _|refine blk_drew ?_|refine blk_alloc ?_ _));exact BK1.out)) : gb1 ≠ gb2));have n6_ := Aside0.mk ((by rw [hg];exact Nat.ne_of_gt (blk_lt (g := gb1) (o := .cells #[.int .i64 a0_0, .int .i64 a0_1, .int .i64 a0_2] 27 (0, 0)) (by (with_reducible repeat (first|refine blk_drewN ?_ _|refine blk_drew ?_|refine blk_alloc ?_ _));exact BK1.out)) : gb2 ≠ gb1));clear BK1;clear HB;have BK1 := n0_;have HB := n1_;have BK2 := n2_;have GW2 := n3_;have GE2 := n4_;have NB1_2 := n5_;have NB2_1 := n6_;clear n0_ n1_ n2_ n3_ n4_ n5_ n6_;clear hb hbox hg;have hnb7 := NB1_2.out;have hnc7 := NB2_1.out;have hcz8_0 : w6.cell? ⟨gb1, 0, none⟩ = some (.int .i64 a0_0) := (blk_cell BK1.out 0).trans rfl;have hcz8_1 : w6.cell? ⟨gb1, 1, none⟩ = some (.int .i64 a0_1) := (blk_cell BK1.out 1).trans rfl;have hcz8_2 : w6.cell? ⟨gb1, 2, none⟩ = some (.int .i64 a0_2) := (blk_cell BK1.out 2).trans rfl;have hfz8_0 := blk_frozen BK1.out 0;have hfz8_1 := blk_frozen BK1.out 1;have hfz8_2 := blk_frozen BK1.out 2;have hcz9_0 : w6.cell? ⟨gb2, 0, none⟩ = some (.int .i64 a1_0) := (blk_cell BK2.out 0).trans rfl;have hcz9_1 : w6.cell? ⟨gb2, 1, none⟩ = some (.int .i64 a1_1) := (blk_cell BK2.out 1).trans rfl;have hcz9_2 : w6.cell? ⟨gb2, 2, none⟩ = some (.int .i64 a1_2) := (blk_cell BK2.out 2).trans rfl;have hfz9_0 := blk_frozen BK2.out 0;have hfz9_1 := blk_frozen BK2.out 1;have hfz9_2 := blk_frozen BK2.out 2))
   go_ret
   exact ⟨by first|rfl|(simp [errW_none, errW_some] <;> rfl)|(simp [*, errW_none, errW_some] <;> rfl), by repeat (first|(with_reducible first|exact HB.out|apply below_alloc|apply pw_below_drewN|apply below_drew1|refine below_set ?_ GE1.out|refine below_set ?_ GE2.out)|exact HB.out)⟩
  ·rw [if_neg c4] at H
   have c4b0 : decide (a0_1 ≤ a1_1) = false := decide_eq_false c4
   clear c4
   obtain rfl := Option.some.inj H
   go_enter Try.func118, Try.ntmps118
   go_wp2_with (first|((with_reducible refine gate_dst (N := 2) rfl ?_);refine box_event ?hg (N := 2) ?hd (cs := #[.int .i64 a0_0, .int .i64 a0_1, .int .i64 a0_2]) (t := 27) ?hr ?_;(case hd => rfl);(case hg => rfl);(case hr => first|(go_simp;done)|(go_simp;rfl));intro gb1 hg w10 hbox hb;have n0_ := Aside0.mk (below_step (by repeat (first|(with_reducible first|exact HB.out|apply below_alloc|apply pw_below_drewN|apply below_drew1)|exact HB.out)) hb);have n1_ := Aside0.mk (hbox);have n2_ := Aside0.mk ((by rw [hg];exact (below_size (by repeat (first|(with_reducible first|exact HB.out|apply below_alloc|apply pw_below_drewN|apply below_drew1)|exact HB.out))) : w.heap.size ≤ gb1));have n3_ := Aside0.mk ((by rw [hg];exact (below_size (by repeat (first|(with_reducible first|exact HB.out|apply below_alloc|apply pw_below_drewN|apply below_drew1)|exact HB.out))) : w.heap.size ≤ gb1));clear HB;have HB := n0_;have BK1 := n1_;have GW1 := n2_;have GE1 := n3_;clear n0_ n1_ n2_ n3_;clear hb hbox hg)|((with_reducible refine gate_dst (N := 3) rfl ?_);refine box_event ?hg (N := 3) ?hd (cs := #[.int .i64 a1_0, .int .i64 a1_1, .int .i64 a1_2]) (t := 27) ?hr ?_;(case hd => rfl);(case hg => rfl);(case hr => first|(go_simp;done)|(go_simp;rfl));intro gb2 hg w11 hbox hb;have n0_ := Aside0.mk (blk_below (g := gb1) (o := .cells #[.int .i64 a0_0, .int .i64 a0_1, .int .i64 a0_2] 27 (0, 0)) (by (with_reducible repeat (first|refine blk_drewN ?_ _|refine blk_drew ?_|refine blk_alloc ?_ _));exact BK1.out) hb);have n1_ := Aside0.mk (below_step (by repeat (first|(with_reducible first|exact HB.out|apply below_alloc|apply pw_below_drewN|apply below_drew1|refine below_set ?_ GE1.out)|exact HB.out)) hb);have n2_ := Aside0.mk (hbox);have n3_ := Aside0.mk ((by rw [hg];exact (below_size (by repeat (first|(with_reducible first|exact HB.out|apply below_alloc|apply pw_below_drewN|apply below_drew1|refine below_set ?_ GE1.out)|exact HB.out))) : w.heap.size ≤ gb2));have n4_ := Aside0.mk ((by rw [hg];exact (below_size (by repeat (first|(with_reducible first|exact HB.out|apply below_alloc|apply pw_below_drewN|apply below_drew1|refine below_set ?_ GE1.out)|exact HB.out))) : w.heap.size ≤ gb2));have n5_ := Aside0.mk ((by rw [hg];exact Nat.ne_of_lt (blk_lt (g := gb1) (o := .cells #[.int .i64 a0_0, .int .i64 a0_1, .int .i64 a0_2] 27 (0, 0)) (by (with_reducible repeat (first|refine blk_drewN ?_ _|refine blk_drew ?_|refine blk_alloc ?_ _));exact BK1.out)) : gb1 ≠ gb2));have n6_ := Aside0.mk ((by rw [hg];exact Nat.ne_of_gt (blk_lt (g := gb1) (o := .cells #[.int .i64 a0_0, .int .i64 a0_1, .int .i64 a0_2] 27 (0, 0)) (by (with_reducible repeat (first|refine blk_drewN ?_ _|refine blk_drew ?_|refine blk_alloc ?_ _));exact BK1.out)) : gb2 ≠ gb1));clear BK1;clear HB;have BK1 := n0_;have HB := n1_;have BK2 := n2_;have GW2 := n3_;have GE2 := n4_;have NB1_2 := n5_;have NB2_1 := n6_;clear n0_ n1_ n2_ n3_ n4_ n5_ n6_;clear hb hbox hg;have hnb12 := NB1_2.out;have hnc12 := NB2_1.out;have hcz13_0 : w11.cell? ⟨gb1, 0, none⟩ = some (.int .i64 a0_0) := (blk_cell BK1.out 0).trans rfl;have hcz13_1 : w11.cell? ⟨gb1, 1, none⟩ = some (.int .i64 a0_1) := (blk_cell BK1.out 1).trans rfl;have hcz13_2 : w11.cell? ⟨gb1, 2, none⟩ = some (.int .i64 a0_2) := (blk_cell BK1.out 2).trans rfl;have hfz13_0 := blk_frozen BK1.out 0;have hfz13_1 := blk_frozen BK1.out 1;have hfz13_2 := blk_frozen BK1.out 2;have hcz14_0 : w11.cell? ⟨gb2, 0, none⟩ = some (.int .i64 a1_0) := (blk_cell BK2.out 0).trans rfl;have hcz14_1 : w11.cell? ⟨gb2, 1, none⟩ = some (.int .i64 a1_1) := (blk_cell BK2.out 1).trans rfl;have hcz14_2 : w11.cell? ⟨gb2, 2, none⟩ = some (.int .i64 a1_2) := (blk_cell BK2.out 2).trans rfl;have hfz14_0 := blk_frozen BK2.out 0;have hfz14_1 := blk_frozen BK2.out 1;have hfz14_2 := blk_frozen BK2.out 2))
   go_ret
   exact ⟨by first|rfl|(simp [errW_none, errW_some] <;> rfl)|(simp [*, errW_none, errW_some] <;> rfl), by repeat (first|(with_reducible first|exact HB.out|apply below_alloc|apply pw_below_drewN|apply below_drew1|refine below_set ?_ GE1.out|refine below_set ?_ GE2.out)|exact HB.out)⟩
 ·rw [if_neg c3] at H
  have c3b0 : decide (a0_0 ≤ a1_0) = false := decide_eq_false c3
  clear c3
  obtain rfl := Option.some.inj H
  go_enter Try.func118, Try.ntmps118
  go_wp2_with (first|((with_reducible refine gate_dst (N := 2) rfl ?_);refine box_event ?hg (N := 2) ?hd (cs := #[.int .i64 a0_0, .int .i64 a0_1, .int .i64 a0_2]) (t := 27) ?hr ?_;(case hd => rfl);(case hg => rfl);(case hr => first|(go_simp;done)|(go_simp;rfl));intro gb1 hg w15 hbox hb;have n0_ := Aside0.mk (below_step (by repeat (first|(with_reducible first|exact HB.out|apply below_alloc|apply pw_below_drewN|apply below_drew1)|exact HB.out)) hb);have n1_ := Aside0.mk (hbox);have n2_ := Aside0.mk ((by rw [hg];exact (below_size (by repeat (first|(with_reducible first|exact HB.out|apply below_alloc|apply pw_below_drewN|apply below_drew1)|exact HB.out))) : w.heap.size ≤ gb1));have n3_ := Aside0.mk ((by rw [hg];exact (below_size (by repeat (first|(with_reducible first|exact HB.out|apply below_alloc|apply pw_below_drewN|apply below_drew1)|exact HB.out))) : w.heap.size ≤ gb1));clear HB;have HB := n0_;have BK1 := n1_;have GW1 := n2_;have GE1 := n3_;clear n0_ n1_ n2_ n3_;clear hb hbox hg)|((with_reducible refine gate_dst (N := 3) rfl ?_);refine box_event ?hg (N := 3) ?hd (cs := #[.int .i64 a1_0, .int .i64 a1_1, .int .i64 a1_2]) (t := 27) ?hr ?_;(case hd => rfl);(case hg => rfl);(case hr => first|(go_simp;done)|(go_simp;rfl));intro gb2 hg w16 hbox hb;have n0_ := Aside0.mk (blk_below (g := gb1) (o := .cells #[.int .i64 a0_0, .int .i64 a0_1, .int .i64 a0_2] 27 (0, 0)) (by (with_reducible repeat (first|refine blk_drewN ?_ _|refine blk_drew ?_|refine blk_alloc ?_ _));exact BK1.out) hb);have n1_ := Aside0.mk (below_step (by repeat (first|(with_reducible first|exact HB.out|apply below_alloc|apply pw_below_drewN|apply below_drew1|refine below_set ?_ GE1.out)|exact HB.out)) hb);have n2_ := Aside0.mk (hbox);have n3_ := Aside0.mk ((by rw [hg];exact (below_size (by repeat (first|(with_reducible first|exact HB.out|apply below_alloc|apply pw_below_drewN|apply below_drew1|refine below_set ?_ GE1.out)|exact HB.out))) : w.heap.size ≤ gb2));have n4_ := Aside0.mk ((by rw [hg];exact (below_size (by repeat (first|(with_reducible first|exact HB.out|apply below_alloc|apply pw_below_drewN|apply below_drew1|refine below_set ?_ GE1.out)|exact HB.out))) : w.heap.size ≤ gb2));have n5_ := Aside0.mk ((by rw [hg];exact Nat.ne_of_lt (blk_lt (g := gb1) (o := .cells #[.int .i64 a0_0, .int .i64 a0_1, .int .i64 a0_2] 27 (0, 0)) (by (with_reducible repeat (first|refine blk_drewN ?_ _|refine blk_drew ?_|refine blk_alloc ?_ _));exact BK1.out)) : gb1 ≠ gb2));have n6_ := Aside0.mk ((by rw [hg];exact Nat.ne_of_gt (blk_lt (g := gb1) (o := .cells #[.int .i64 a0_0, .int .i64 a0_1, .int .i64 a0_2] 27 (0, 0)) (by (with_reducible repeat (first|refine blk_drewN ?_ _|refine blk_drew ?_|refine blk_alloc ?_ _));exact BK1.out)) : gb2 ≠ gb1));clear BK1;clear HB;have BK1 := n0_;have HB := n1_;have BK2 := n2_;have GW2 := n3_;have GE2 := n4_;have NB1_2 := n5_;have NB2_1 := n6_;clear n0_ n1_ n2_ n3_ n4_ n5_ n6_;clear hb hbox hg;have hnb17 := NB1_2.out;have hnc17 := NB2_1.out;have hcz18_0 : w16.cell? ⟨gb1, 0, none⟩ = some (.int .i64 a0_0) := (blk_cell BK1.out 0).trans rfl;have hcz18_1 : w16.cell? ⟨gb1, 1, none⟩ = some (.int .i64 a0_1) := (blk_cell BK1.out 1).trans rfl;have hcz18_2 : w16.cell? ⟨gb1, 2, none⟩ = some (.int .i64 a0_2) := (blk_cell BK1.out 2).trans rfl;have hfz18_0 := blk_frozen BK1.out 0;have hfz18_1 := blk_frozen BK1.out 1;have hfz18_2 := blk_frozen BK1.out 2;have hcz19_0 : w16.cell? ⟨gb2, 0, none⟩ = some (.int .i64 a1_0) := (blk_cell BK2.out 0).trans rfl;have hcz19_1 : w16.cell? ⟨gb2, 1, none⟩ = some (.int .i64 a1_1) := (blk_cell BK2.out 1).trans rfl;have hcz19_2 : w16.cell? ⟨gb2, 2, none⟩ = some (.int .i64 a1_2) := (blk_cell BK2.out 2).trans rfl;have hfz19_0 := blk_frozen BK2.out 0;have hfz19_1 := blk_frozen BK2.out 1;have hfz19_2 := blk_frozen BK2.out 2))
  go_ret
  exact ⟨by first|rfl|(simp [errW_none, errW_some] <;> rfl)|(simp [*, errW_none, errW_some] <;> rfl), by repeat (first|(with_reducible first|exact HB.out|apply below_alloc|apply pw_below_drewN|apply below_drew1|refine below_set ?_ GE1.out|refine below_set ?_ GE2.out)|exact HB.out)⟩
end Go.Proofs.Ytcgefpklljclgaa.Print

namespace Go.Proofs.Ytcgefpklljclgaa.Print
open Go.RowKit Go.Proofs.YtcgefpklljclgaaW.PrintWords Go.Proofs.YtcgefpklljclgaaW.PrintLast Go.Proofs.YtcgefpklljclgaaW.PrintMore
attribute [local go_sem] max2_int min2_int max_two min_two max_three min_three max_four min_four   -- for this text's walks alone
set_option linter.unusedVariables false
set_option linter.unusedSimpArgs false
/-! ### vec_May: function 115 -/
def vec_May.f (a0_0 : Int) (a0_1 : Int) (a0_2 : Int) : Option (Bool) := (vec_Le.f 0 0 0 a0_0 a0_1 a0_2).bind fun t2 => (if t2 = true then ((vec_Most.f).bind fun bt3 => ((vec_Le.f a0_0 a0_1 a0_2 bt3.1 bt3.2.1 bt3.2.2).bind fun t6 => (some t6))) else (some false))
def vec_May.T1 : Bool × List (List Nat × List Nat) := (true, [([], []), ([], []), ([0, 1], [0, 1]), ([2, 2], [2]), ([3], [3]), ([3, 3], [3]), ([4, 5, 5, 3], [3, 4, 5]), ([3, 6], [3, 6]), ([7, 6, 0, 1, 2, 3, 4, 5, 6, 7], [7])])
def vec_May.B1 : List Nat := [0, 0, 3, 7, 15, 15, 63, 127, 255]
theorem vec_May.tab1 : rtab .any (opsOf Try.f115 1) = vec_May.T1 := by kernel_rfl
theorem vec_May.bits1 : waitsOk vec_May.T1.2 vec_May.B1 = true := by kernel_rfl
set_option maxHeartbeats 8000000 in
set_option maxRecDepth 100000 in
theorem vec_May.calls (a0_0 : Int) (a0_1 : Int) (a0_2 : Int) (r : Bool) (w : World) (h : vec_May.f a0_0 a0_1 a0_2 = some r) :
  Calls Try.prog 115 #[.agg #[.int .i64 a0_0, .int .i64 a0_1, .int .i64 a0_2]] w fun e w' => e = .returned (.bool r) ∧ Below w.heap.size w w' := by
 have hu27 := Try.underlying27
 have HB := Aside0.mk (Below.refl w.heap.size w)
 have H : ((vec_Le.f 0 0 0 a0_0 a0_1 a0_2).bind fun t2 => (if t2 = true then ((vec_Most.f).bind fun bt3 => ((vec_Le.f a0_0 a0_1 a0_2 bt3.1 bt3.2.1 bt3.2.2).bind fun t6 => (some t6))) else (some false))) = some r := h
 clear h
 replace H := Option.bind_eq_some_iff.mp H
 obtain ⟨t2, A20, H⟩ := H
 replace H : (if t2 = true then ((vec_Most.f).bind fun bt3 => ((vec_Le.f a0_0 a0_1 a0_2 bt3.1 bt3.2.1 bt3.2.2).bind fun t6 => (some t6))) else (some false)) = some r := H
 have A2 := Aside0.mk A20
 clear A20
 by_cases c3 : t2 = true
 ·subst c3
  have H1 : ((vec_Most.f).bind fun bt3 => ((vec_Le.f a0_0 a0_1 a0_2 bt3.1 bt3.2.1 bt3.2.2).bind fun t6 => (some t6))) = some r := by rw [if_pos rfl] at H; exact H
  clear H
  have H := H1
  clear H1
  replace H := Option.bind_eq_some_iff.mp H
  obtain ⟨⟨t3, t4, t5⟩, A40, H⟩ := H
  replace H : ((vec_Le.f a0_0 a0_1 a0_2 t3 t4 t5).bind fun t6 => (some t6)) = some r := H
  have A4 := Aside0.mk A40
  clear A40
  replace H := Option.bind_eq_some_iff.mp H
  obtain ⟨t6, A50, H⟩ := H
  replace H : (some t6) = some r := H
  have A5 := Aside0.mk A50
  clear A50
  obtain rfl := Option.some.inj H
  go_enter Try.func115, Try.ntmps115
  try go_wp2_with (first|((with_reducible refine gate_dst (N := 1) rfl ?_);refine box_event ?hg (N := 1) ?hd (cs := #[.int .i64 a0_0, .int .i64 a0_1, .int .i64 a0_2]) (t := 27) ?hr ?_;(case hd => rfl);(case hg => rfl);(case hr => first|(go_simp;done)|(go_simp;rfl));intro gb1 hg w6 hbox hb;have n0_ := Aside0.mk (below_step (by repeat (first|(with_reducible first|exact HB.out|apply below_alloc|apply pw_below_drewN|apply below_drew1)|exact HB.out)) hb);have n1_ := Aside0.mk (hbox);have n2_ := Aside0.mk ((by rw [hg];exact (below_size (by repeat (first|(with_reducible first|exact HB.out|apply below_alloc|apply pw_below_drewN|apply below_drew1)|exact HB.out))) : w.heap.size ≤ gb1));have n3_ := Aside0.mk ((by rw [hg];exact (below_size (by repeat (first|(with_reducible first|exact HB.out|apply below_alloc|apply pw_below_drewN|apply below_drew1)|exact HB.out))) : w.heap.size ≤ gb1));clear HB;have HB := n0_;have BK1 := n1_;have GW1 := n2_;have GE1 := n3_;clear n0_ n1_ n2_ n3_;clear hb hbox hg))
  have n0_ := Aside0.mk (blk_drew BK1.out)
  have n1_ := Aside0.mk (below_drew1 HB.out)
  clear BK1
  clear HB
  have BK1 := n0_
  have HB := n1_
  clear n0_ n1_
  refine start_ (n := 9) (S := fun w' => w'.cell? ⟨gb1, 0, none⟩ = some (.int .i64 a0_0) ∧ w'.cell? ⟨gb1, 1, none⟩ = some (.int .i64 a0_1) ∧ w'.cell? ⟨gb1, 2, none⟩ = some (.int .i64 a0_2)) (ds := []) #[false, false, false, false, false, false, false, false, false] (by kernel_rfl) rfl rfl ⟨(blk_cell BK1.out 0).trans rfl, (blk_cell BK1.out 1).trans rfl, (blk_cell BK1.out 2).trans rfl⟩ (fun hHeld => ?_); refine with_tabW vec_May.tab1 vec_May.bits1 (fun HT_ HW_ => ?_)
  generalize w6.drew = w7 at BK1 HB hHeld ⊢
  refine pure_ (i := 0) (N := some 3) (v := ?_) (a' := ?_) #[true, false, false, false, false, false, false, false, false] rfl rfl (any_of HT_.out (by kernel_rfl)) (fun _ _ _ h => h) (Or.inl ⟨by rfl, ?_⟩) ?_ ?_
  rotate_left
  ·intro w'
   go_simp
   with_reducible rfl
  rotate_left
  ·simp only [Act.put, List.setIfInBounds_toArray, List.set_cons_zero, List.set_cons_succ, i64_w, i32_w]
   rfl
  refine take_ (i := 1) (N := some 4) (v := ?_) (a' := ?_) #[true, true, false, false, false, false, false, false, false] rfl rfl (take_ofW HT_.out HW_.out (by kernel_rfl)) (fun _ _ _ h => h) (Or.inl ⟨by rfl, ?_⟩) hHeld ?_ ?_
  rotate_left
  ·rintro w' ⟨s0, s1, s2⟩
   go_simp
   with_reducible rfl
  rotate_left
  ·simp only [Act.put, List.setIfInBounds_toArray, List.set_cons_zero, List.set_cons_succ, i64_w, i32_w]
   rfl
  refine one_ (i := 2) (N := some 5) #[true, true, true, false, false, false, false, false, false] rfl rfl (one_of HT_.out (by kernel_rfl)) (by decide) (fun K hK => ?_)
  refine goes_ Try.func118 (by kernel_rfl) rfl #[.agg #[.int .i64 0, .int .i64 0, .int .i64 0], .agg #[.int .i64 a0_0, .int .i64 a0_1, .int .i64 a0_2]] (by rfl) rfl rfl (by (try simp only [List.map_toArray, List.map_cons, List.map_nil]); first | done | rfl | (simp only [List.length_drop, List.length_take]; rfl)) ?_
  with_reducible refine (vec_Le.calls 0 0 0 a0_0 a0_1 a0_2 true _ A2.out).mono ?_
  rintro e w8 ⟨rfl, hb⟩
  refine ⟨_, rfl, ?_⟩
  have n0_ := Aside0.mk (blk_below (g := gb1) (o := .cells #[.int .i64 a0_0, .int .i64 a0_1, .int .i64 a0_2] 27 (0, 0)) (by (with_reducible repeat (first|refine blk_drewN ?_ _|refine blk_drew ?_|refine blk_alloc ?_ _));exact BK1.out) hb)
  have n1_ := Aside0.mk (below_step (by repeat (first|(with_reducible first|exact HB.out|apply below_alloc|apply pw_below_drewN|apply below_drew1|refine below_set ?_ GE1.out)|exact HB.out)) hb)
  clear BK1
  clear HB
  have BK1 := n0_
  have HB := n1_
  clear n0_ n1_
  (try clear hb)
  (try clear hb2)
  (try clear hk)
  (try clear hi)
  refine hK.out _ _ ⟨(blk_cell BK1.out 0).trans rfl, (blk_cell BK1.out 1).trans rfl, (blk_cell BK1.out 2).trans rfl⟩ (fun hHeld => ?_)
  clear hK K
  refine norm_ (a' := ?_) ?_ ?_
  rotate_left
  ·show Act.put _ (some 5) _ = _
   simp only [Act.put, List.setIfInBounds_toArray, List.set_cons_zero, List.set_cons_succ, i64_w, i32_w]
   rfl
  refine pure_ (i := 3) (N := some 6) (v := ?_) (a' := ?_) #[true, true, true, true, false, false, false, false, false] rfl rfl (any_of HT_.out (by kernel_rfl)) (fun _ _ _ h => h) (Or.inl ⟨by rfl, ?_⟩) ?_ ?_
  rotate_left
  ·intro w'
   go_simp
   with_reducible rfl
  rotate_left
  ·simp only [Act.put, List.setIfInBounds_toArray, List.set_cons_zero, List.set_cons_succ, i64_w, i32_w]
   rfl
  refine take_ (i := 4) (N := some 7) (v := ?_) (a' := ?_) #[true, true, true, true, true, false, false, false, false] rfl rfl (take_ofW HT_.out HW_.out (by kernel_rfl)) (fun _ _ _ h => h) (Or.inl ⟨by rfl, ?_⟩) hHeld ?_ ?_
  rotate_left
  ·rintro w' ⟨s0, s1, s2⟩
   go_simp
   with_reducible rfl
  rotate_left
  ·simp only [Act.put, List.setIfInBounds_toArray, List.set_cons_zero, List.set_cons_succ, i64_w, i32_w]
   rfl
  refine one_ (i := 5) (N := some 8) #[true, true, true, true, true, true, false, false, false] rfl rfl (one_of HT_.out (by kernel_rfl)) (by decide) (fun K hK => ?_)
  refine goes_ Try.func157 (by kernel_rfl) rfl #[] (by rfl) rfl rfl (by (try simp only [List.map_toArray, List.map_cons, List.map_nil]); first | done | rfl | (simp only [List.length_drop, List.length_take]; rfl)) ?_
  with_reducible refine (vec_Most.calls  t3 t4 t5 _ A4.out).mono ?_
  rintro e w9 ⟨rfl, hb⟩
  refine ⟨_, rfl, ?_⟩
  have n0_ := Aside0.mk (blk_below (g := gb1) (o := .cells #[.int .i64 a0_0, .int .i64 a0_1, .int .i64 a0_2] 27 (0, 0)) (by (with_reducible repeat (first|refine blk_drewN ?_ _|refine blk_drew ?_|refine blk_alloc ?_ _));exact BK1.out) hb)
  have n1_ := Aside0.mk (below_step (by repeat (first|(with_reducible first|exact HB.out|apply below_alloc|apply pw_below_drewN|apply below_drew1|refine below_set ?_ GE1.out)|exact HB.out)) hb)
  clear BK1
  clear HB
  have BK1 := n0_
  have HB := n1_
  clear n0_ n1_
  (try clear hb)
  (try clear hb2)
  (try clear hk)
  (try clear hi)
  refine hK.out _ _ ⟨(blk_cell BK1.out 0).trans rfl, (blk_cell BK1.out 1).trans rfl, (blk_cell BK1.out 2).trans rfl⟩ (fun hHeld => ?_)
  clear hK K
  refine norm_ (a' := ?_) ?_ ?_
  rotate_left
  ·show Act.put _ (some 8) _ = _
   simp only [Act.put, List.setIfInBounds_toArray, List.set_cons_zero, List.set_cons_succ, i64_w, i32_w]
   rfl
  refine one_ (i := 6) (N := some 9) #[true, true, true, true, true, true, true, false, false] rfl rfl (one_of HT_.out (by kernel_rfl)) (by decide) (fun K hK => ?_)
  refine goes_ Try.func118 (by kernel_rfl) rfl #[.agg #[.int .i64 a0_0, .int .i64 a0_1, .int .i64 a0_2], .agg #[.int .i64 t3, .int .i64 t4, .int .i64 t5]] (by rfl) rfl rfl (by (try simp only [List.map_toArray, List.map_cons, List.map_nil]); first | done | rfl | (simp only [List.length_drop, List.length_take]; rfl)) ?_
  with_reducible refine (vec_Le.calls a0_0 a0_1 a0_2 t3 t4 t5 t6 _ A5.out).mono ?_
  rintro e w10 ⟨rfl, hb⟩
  refine ⟨_, rfl, ?_⟩
  have n0_ := Aside0.mk (blk_below (g := gb1) (o := .cells #[.int .i64 a0_0, .int .i64 a0_1, .int .i64 a0_2] 27 (0, 0)) (by (with_reducible repeat (first|refine blk_drewN ?_ _|refine blk_drew ?_|refine blk_alloc ?_ _));exact BK1.out) hb)
  have n1_ := Aside0.mk (below_step (by repeat (first|(with_reducible first|exact HB.out|apply below_alloc|apply pw_below_drewN|apply below_drew1|refine below_set ?_ GE1.out)|exact HB.out)) hb)
  clear BK1
  clear HB
  have BK1 := n0_
  have HB := n1_
  clear n0_ n1_
  (try clear hb)
  (try clear hb2)
  (try clear hk)
  (try clear hi)
  refine hK.out _ _ ⟨(blk_cell BK1.out 0).trans rfl, (blk_cell BK1.out 1).trans rfl, (blk_cell BK1.out 2).trans rfl⟩ (fun hHeld => ?_)
  clear hK K
  refine norm_ (a' := ?_) ?_ ?_
  rotate_left
  ·show Act.put _ (some 9) _ = _
   simp only [Act.put, List.setIfInBounds_toArray, List.set_cons_zero, List.set_cons_succ, i64_w, i32_w]
   rfl
  refine pure_ (i := 7) (N := some 10) (v := ?_) (a' := ?_) #[true, true, true, true, true, true, true, true, false] rfl rfl (any_of HT_.out (by kernel_rfl)) (fun _ _ _ h => h) (Or.inl ⟨by rfl, ?_⟩) ?_ ?_
  rotate_left
  ·intro w'
   go_simp
   with_reducible rfl
  rotate_left
  ·simp only [Act.put, List.setIfInBounds_toArray, List.set_cons_zero, List.set_cons_succ, i64_w, i32_w]
   rfl
  refine pure_ (i := 8) (N := some 2) (v := ?_) (a' := ?_) #[true, true, true, true, true, true, true, true, true] rfl rfl (any_of HT_.out (by kernel_rfl)) (fun _ _ _ h => h) (Or.inl ⟨by rfl, ?_⟩) ?_ ?_
  rotate_left
  ·intro w'
   go_simp
   with_reducible rfl
  rotate_left
  ·simp only [Act.put, List.setIfInBounds_toArray, List.set_cons_zero, List.set_cons_succ, i64_w, i32_w]
   rfl
  refine done_ (done_of HT_.out (by kernel_rfl)) ?_
  try go_wp2
  go_ret
  exact ⟨by first|rfl|(simp [errW_none, errW_some] <;> rfl)|(simp [*, errW_none, errW_some] <;> rfl), by repeat (first|(with_reducible first|exact HB.out|apply below_alloc|apply pw_below_drewN|apply below_drew1|refine below_set ?_ GE1.out)|exact HB.out)⟩
 ·replace c3 := Bool.eq_false_iff.mpr c3
  subst c3
  have H1 : (some false) = some r := by rw [if_neg (show ¬ (false = true) by decide)] at H; exact H
  clear H
  have H := H1
  clear H1
  obtain rfl := Option.some.inj H
  go_enter Try.func115, Try.ntmps115
  try go_wp2_with (first|((with_reducible refine gate_dst (N := 1) rfl ?_);refine box_event ?hg (N := 1) ?hd (cs := #[.int .i64 a0_0, .int .i64 a0_1, .int .i64 a0_2]) (t := 27) ?hr ?_;(case hd => rfl);(case hg => rfl);(case hr => first|(go_simp;done)|(go_simp;rfl));intro gb1 hg w11 hbox hb;have n0_ := Aside0.mk (below_step (by repeat (first|(with_reducible first|exact HB.out|apply below_alloc|apply pw_below_drewN|apply below_drew1)|exact HB.out)) hb);have n1_ := Aside0.mk (hbox);have n2_ := Aside0.mk ((by rw [hg];exact (below_size (by repeat (first|(with_reducible first|exact HB.out|apply below_alloc|apply pw_below_drewN|apply below_drew1)|exact HB.out))) : w.heap.size ≤ gb1));have n3_ := Aside0.mk ((by rw [hg];exact (below_size (by repeat (first|(with_reducible first|exact HB.out|apply below_alloc|apply pw_below_drewN|apply below_drew1)|exact HB.out))) : w.heap.size ≤ gb1));clear HB;have HB := n0_;have BK1 := n1_;have GW1 := n2_;have GE1 := n3_;clear n0_ n1_ n2_ n3_;clear hb hbox hg))
  have n0_ := Aside0.mk (blk_drew BK1.out)
  have n1_ := Aside0.mk (below_drew1 HB.out)
  clear BK1
  clear HB
  have BK1 := n0_
  have HB := n1_
  clear n0_ n1_
  refine start_ (n := 9) (S := fun w' => w'.cell? ⟨gb1, 0, none⟩ = some (.int .i64 a0_0) ∧ w'.cell? ⟨gb1, 1, none⟩ = some (.int .i64 a0_1) ∧ w'.cell? ⟨gb1, 2, none⟩ = some (.int .i64 a0_2)) (ds := []) #[false, false, false, false, false, false, false, false, false] (by kernel_rfl) rfl rfl ⟨(blk_cell BK1.out 0).trans rfl, (blk_cell BK1.out 1).trans rfl, (blk_cell BK1.out 2).trans rfl⟩ (fun hHeld => ?_); refine with_tabW vec_May.tab1 vec_May.bits1 (fun HT_ HW_ => ?_)
  generalize w11.drew = w12 at BK1 HB hHeld ⊢
  refine pure_ (i := 0) (N := some 3) (v := ?_) (a' := ?_) #[true, false, false, false, false, false, false, false, false] rfl rfl (any_of HT_.out (by kernel_rfl)) (fun _ _ _ h => h) (Or.inl ⟨by rfl, ?_⟩) ?_ ?_
  rotate_left
  ·intro w'
   go_simp
   with_reducible rfl
  rotate_left
  ·simp only [Act.put, List.setIfInBounds_toArray, List.set_cons_zero, List.set_cons_succ, i64_w, i32_w]
   rfl
  refine take_ (i := 1) (N := some 4) (v := ?_) (a' := ?_) #[true, true, false, false, false, false, false, false, false] rfl rfl (take_ofW HT_.out HW_.out (by kernel_rfl)) (fun _ _ _ h => h) (Or.inl ⟨by rfl, ?_⟩) hHeld ?_ ?_
  rotate_left
  ·rintro w' ⟨s0, s1, s2⟩
   go_simp
   with_reducible rfl
  rotate_left
  ·simp only [Act.put, List.setIfInBounds_toArray, List.set_cons_zero, List.set_cons_succ, i64_w, i32_w]
   rfl
  refine one_ (i := 2) (N := some 5) #[true, true, true, false, false, false, false, false, false] rfl rfl (one_of HT_.out (by kernel_rfl)) (by decide) (fun K hK => ?_)
  refine goes_ Try.func118 (by kernel_rfl) rfl #[.agg #[.int .i64 0, .int .i64 0, .int .i64 0], .agg #[.int .i64 a0_0, .int .i64 a0_1, .int .i64 a0_2]] (by rfl) rfl rfl (by (try simp only [List.map_toArray, List.map_cons, List.map_nil]); first | done | rfl | (simp only [List.length_drop, List.length_take]; rfl)) ?_
  with_reducible refine (vec_Le.calls 0 0 0 a0_0 a0_1 a0_2 false _ A2.out).mono ?_
  rintro e w13 ⟨rfl, hb⟩
  refine ⟨_, rfl, ?_⟩
  have n0_ := Aside0.mk (blk_below (g := gb1) (o := .cells #[.int .i64 a0_0, .int .i64 a0_1, .int .i64 a0_2] 27 (0, 0)) (by (with_reducible repeat (first|refine blk_drewN ?_ _|refine blk_drew ?_|refine blk_alloc ?_ _));exact BK1.out) hb)
  have n1_ := Aside0.mk (below_step (by repeat (first|(with_reducible first|exact HB.out|apply below_alloc|apply pw_below_drewN|apply below_drew1|refine below_set ?_ GE1.out)|exact HB.out)) hb)
  clear BK1
  clear HB
  have BK1 := n0_
  have HB := n1_
  clear n0_ n1_
  (try clear hb)
  (try clear hb2)
  (try clear hk)
  (try clear hi)
  refine hK.out _ _ ⟨(blk_cell BK1.out 0).trans rfl, (blk_cell BK1.out 1).trans rfl, (blk_cell BK1.out 2).trans rfl⟩ (fun hHeld => ?_)
  clear hK K
  refine norm_ (a' := ?_) ?_ ?_
  rotate_left
  ·show Act.put _ (some 5) _ = _
   simp only [Act.put, List.setIfInBounds_toArray, List.set_cons_zero, List.set_cons_succ, i64_w, i32_w]
   rfl
  refine pure_ (i := 3) (N := some 6) (v := ?_) (a' := ?_) #[true, true, true, true, false, false, false, false, false] rfl rfl (any_of HT_.out (by kernel_rfl)) (fun _ _ _ h => h) (Or.inl ⟨by rfl, ?_⟩) ?_ ?_
  rotate_left
  ·intro w'
   go_simp
   with_reducible rfl
  rotate_left
  ·simp only [Act.put, List.setIfInBounds_toArray, List.set_cons_zero, List.set_cons_succ, i64_w, i32_w]
   rfl
  refine pure_ (i := 4) (N := some 7) (v := undef) (a' := ?_) #[true, true, true, true, true, false, false, false, false] rfl rfl (any_of HT_.out (by kernel_rfl)) (fun _ _ _ h => h) (Or.inr ⟨by rfl, rfl⟩) ?_ ?_
  rotate_left
  ·simp only [Act.put, List.setIfInBounds_toArray, List.set_cons_zero, List.set_cons_succ, i64_w, i32_w]
   rfl
  refine pure_ (i := 5) (N := some 8) (v := undef) (a' := ?_) #[true, true, true, true, true, true, false, false, false] rfl rfl (any_of HT_.out (by kernel_rfl)) (fun _ _ _ h => h) (Or.inr ⟨by rfl, rfl⟩) ?_ ?_
  rotate_left
  ·simp only [Act.put, List.setIfInBounds_toArray, List.set_cons_zero, List.set_cons_succ, i64_w, i32_w]
   rfl
  refine pure_ (i := 6) (N := some 9) (v := undef) (a' := ?_) #[true, true, true, true, true, true, true, false, false] rfl rfl (any_of HT_.out (by kernel_rfl)) (fun _ _ _ h => h) (Or.inr ⟨by rfl, rfl⟩) ?_ ?_
  rotate_left
  ·simp only [Act.put, List.setIfInBounds_toArray, List.set_cons_zero, List.set_cons_succ, i64_w, i32_w]
   rfl
  refine pure_ (i := 7) (N := some 10) (v := ?_) (a' := ?_) #[true, true, true, true, true, true, true, true, false] rfl rfl (any_of HT_.out (by kernel_rfl)) (fun _ _ _ h => h) (Or.inl ⟨by rfl, ?_⟩) ?_ ?_
  rotate_left
  ·intro w'
   go_simp
   with_reducible rfl
  rotate_left
  ·simp only [Act.put, List.setIfInBounds_toArray, List.set_cons_zero, List.set_cons_succ, i64_w, i32_w]
   rfl
  refine pure_ (i := 8) (N := some 2) (v := ?_) (a' := ?_) #[true, true, true, true, true, true, true, true, true] rfl rfl (any_of HT_.out (by kernel_rfl)) (fun _ _ _ h => h) (Or.inl ⟨by rfl, ?_⟩) ?_ ?_
  rotate_left
  ·intro w'
   go_simp
   with_reducible rfl
  rotate_left
  ·simp only [Act.put, List.setIfInBounds_toArray, List.set_cons_zero, List.set_cons_succ, i64_w, i32_w]
   rfl
  refine done_ (done_of HT_.out (by kernel_rfl)) ?_
  try go_wp2
  go_ret
  exact ⟨by first|rfl|(simp [errW_none, errW_some] <;> rfl)|(simp [*, errW_none, errW_some] <;> rfl), by repeat (first|(with_reducible first|exact HB.out|apply below_alloc|apply pw_below_drewN|apply below_drew1|refine below_set ?_ GE1.out)|exact HB.out)⟩
end Go.Proofs.Ytcgefpklljclgaa.Print

namespace Go.Proofs.Ytcgefpklljclgaa.Print
open Go.RowKit Go.Proofs.YtcgefpklljclgaaW.PrintWords Go.Proofs.YtcgefpklljclgaaW.PrintLast Go.Proofs.YtcgefpklljclgaaW.PrintMore
attribute [local go_sem] max2_int min2_int max_two min_two max_three min_three max_four min_four   -- for this text's walks alone
set_option linter.unusedVariables false
set_option linter.unusedSimpArgs false
/-! ### slices_Clone_Item: function 153 -/
/-- what slices.Clone makes: the same elements -/
def slices_Clone_Item.f (l0 : List (S31)) : Option (List (S31)) := if l0.length < 1256584717458 then some l0 else none
set_option maxHeartbeats 8000000 in
set_option maxRecDepth 100000 in
theorem slices_Clone_Item.calls (A0 : Option Addr) (c0 : Nat) (l0 : List (S31)) (r : List (S31)) (w : World) (hr0 : Kd.C k31 w A0 l0.length l0) (hc0 : l0.length ≤ c0) (h : slices_Clone_Item.f l0 = some r) :
    Calls Try.prog 153 #[.slice A0 l0.length c0] w fun e w' => ∃ v0_ : Value, e = .returned (v0_) ∧ Kd.R k31 31 w' w.heap.size (fun _ => True) v0_ r ∧ Below w.heap.size w w' := by
  have hlim : l0.length < 1256584717458 ∧ l0 = r := by
    unfold slices_Clone_Item.f at h
    split at h
    · exact ⟨by assumption, Option.some.inj h⟩
    · cases h
  obtain ⟨hlim, rfl⟩ := hlim
  have hnil := fun (W : World) (n c : Nat) => Lib.run_eql_slice_nil (P := Try.prog) W 24 31 A0 n c 0 0 Try.underlying24
  cases A0 with
  | none =>
    have hl : l0 = [] := by
      cases l0 with
      | nil => rfl
      | cons x l => exact absurd (hr0.2.2 (by simp)) (by simp)
    subst hl
    clear hr0
    go_enter Try.func153, Try.ntmps153
    go_wp2
    go_ret
    exact ⟨_, rfl, Kd.R_nil _ _ _ _ _, Below.refl _ _⟩
  | some ad =>
    have HR0 := Aside0.mk hr0
    have HC0 := Aside0.mk hc0
    have LM := Aside0.mk hlim
    clear hr0 hc0 hlim h
    have HB := Aside0.mk (Below.refl w.heap.size w)
    go_enter Try.func153, Try.ntmps153
    go_wp2_with (first|((with_reducible refine gate_dst (N := 5) rfl ?_);refine Kd.R_lit k31 _ 31 ?hg (N := 5) ?hd (xs := ([] : List (S31))) (inner := []) (ok := fun _ => True) (okp := fun _ => True) ?hr ?hp (fun _ hk => hk) trivial (Below.refl _ _) (Nat.le_refl _) (by simp) ?_;(case hd => rfl);(case hg => rfl);(case hr => first|(go_simp;done)|(go_simp;rfl));(case hp => exact (Reps.none _ _));intro v2 w3 ho4 hb hg_ hnew_;clear hg_ hnew_;have n0_ := Aside0.mk (Kd.R_lower ho4 (below_size HB.out));have n1_ := Aside0.mk (below_step HB.out hb);clear HB;have HO3 := n0_;have HB := n1_;clear n0_ n1_;clear hb ho4)|((with_reducible refine gate_builtin (b := .append) (xs := #[.tmp 5, .tmp 6]) rfl ?_);at_builtin;refine Kd.R_append_rows k31 (w0 := w) w.heap.size rfl (.tmp 5) (.tmp 6) 24 31 (.agg #[(.string ⟨#[]⟩), (.string ⟨#[]⟩), (.int .i64 0), (.int .i64 0), (.int .i64 0), (.int .i64 0), (.int .i64 0), (.int .i64 0), (.int .i64 0), (.int .i64 0), (.int .i64 0), (.int .i64 0)]) 112 rfl Try.underlying24 info31 rfl (by decide) (by omega) v2 [] l0 _ _ _ (fun _ => True) (fun _ => False) rfl rfl ?aO ?aR (fun _ _ h => h) (fun _ h => h.elim) ?aF ?aB ?aS ?aL ?_;(case aR => exact (Kd.C_below HR0.out HB.out));(case aB => exact HB.out);(case aF => exact (fun _ _ => trivial));(case aO => exact HO3.out);(case aS => exact (below_size HB.out));(case aL => have := LM.out;simp;omega);intro v5 w5 ho hb hg hat;have n0_ := Aside0.mk (hb);have n1_ := Aside0.mk (ho);clear HB;clear HO3;have HB := n0_;have HO6 := n1_;clear n0_ n1_;clear ho hb hg hat))
    go_ret
    exact ⟨_, rfl, HO6.out, HB.out⟩
end Go.Proofs.Ytcgefpklljclgaa.Print

namespace Go.Proofs.Ytcgefpklljclgaa.Print
open Go.RowKit Go.Proofs.YtcgefpklljclgaaW.PrintWords Go.Proofs.YtcgefpklljclgaaW.PrintLast Go.Proofs.YtcgefpklljclgaaW.PrintMore
attribute [local go_sem] max2_int min2_int max_two min_two max_three min_three max_four min_four   -- for this text's walks alone
set_option linter.unusedVariables false
set_option linter.unusedSimpArgs false
/-! ### idx_Item: function 127 -/
/-- the first place from i on whose element is so; -1: none -/
def fidx {α : Type} (p : α → Bool) : List α → Int → Int
  | [], _ => -1
  | x :: l, i => if p x = true then i else fidx p l (i + 1)
theorem fidx_drop {α : Type} (p : α → Bool) (z : α) (l : List α) (i : Nat) (h : i < l.length) : fidx p (l.drop i) i = if p (l.getD i z) = true then (i : Int) else fidx p (l.drop (i + 1)) ((i + 1 : Nat) : Int) := by
  rw [List.drop_eq_getElem_cons h, List.getD_eq_getElem?_getD, List.getElem?_eq_getElem h]
  rfl
def itemCells (x : S31) : Array Value := #[.string x.f0, .string x.f1, .int .i64 x.f2.f0, .int .i64 x.f2.f1, .int .i64 x.f2.f2, .int .i64 x.f3.f0, .int .i64 x.f3.f1, .int .i64 x.f3.f2, .int .i64 x.f4.f0, .int .i64 x.f4.f1, .int .i64 x.f4.f2, .int .i64 x.f5]
set_option maxHeartbeats 1000000 in
set_option maxRecDepth 100000 in
theorem idxItem_calls (g : Nat) (lb : Array Value) (p : S31 → Bool) (eg : ∀ args w, (callFunc g args).run Try.prog w = .ok (.enter g args) w) (w : World)
    (hp : ∀ W x, Below w.heap.size w W → Calls Try.prog g (#[.agg (itemCells x)] ++ lb) W fun e w' => e = .returned (.bool (p x)) ∧ Below W.heap.size W w')
    (A : Option Addr) (c : Nat) (l : List S31) (hr0 : Kd.C k31 w A l.length l) (hc0 : l.length ≤ c) :
    Calls Try.prog 127 #[.slice A l.length c, .func (.func g) #[] lb] w fun e w' => e = .returned (.int .i64 (fidx p l 0)) ∧ Below w.heap.size w w' := by
  have hu31 := Try.underlying31
  have HR0 := Aside0.mk hr0
  have HP := Aside0.mk hp
  have HEG := Aside0.mk eg
  have hm : l.length ≤ 9223372036854775807 := hr0.2.1
  clear hr0 hp eg
  go_enter Try.func127, Try.ntmps127
  go_wp2
  go_loopg [5, 8] l.length (fun kq s5 s8 wr => ∃ i : Nat, i ≤ l.length ∧ l.length - i ≤ kq ∧ s8 = .int .i64 i ∧ Aside0 (Below w.heap.size w wr) ∧ Aside0 (fidx p l 0 = fidx p (l.drop i) i))
  case atStart => exact ⟨0, by omega, by omega, rfl, ⟨Below.refl _ _⟩, ⟨rfl⟩⟩
  case round =>
    obtain ⟨i, hi, hg, rfl, HB, HF⟩ := hrel
    by_cases hlt : i < l.length
    · have hltz : (i : Int) < (l.length : Int) := by omega
      obtain ⟨ad, e1, h0, h1, h2, h3, h4, h5, h6, h7, h8, h9, h10, h11⟩ := at_T31 HR0.out (i : Int) (by omega) (by omega)
      cases e1
      simp only [Int.toNat_natCast] at h0 h1 h2 h3 h4 h5 h6 h7 h8 h9 h10 h11
      replace h0 := (HB.out.cell (World.block_lt_of_cell? w _ h0)).trans h0
      replace h1 := (HB.out.cell (World.block_lt_of_cell? w _ h1)).trans h1
      replace h2 := (HB.out.cell (World.block_lt_of_cell? w _ h2)).trans h2
      replace h3 := (HB.out.cell (World.block_lt_of_cell? w _ h3)).trans h3
      replace h4 := (HB.out.cell (World.block_lt_of_cell? w _ h4)).trans h4
      replace h5 := (HB.out.cell (World.block_lt_of_cell? w _ h5)).trans h5
      replace h6 := (HB.out.cell (World.block_lt_of_cell? w _ h6)).trans h6
      replace h7 := (HB.out.cell (World.block_lt_of_cell? w _ h7)).trans h7
      replace h8 := (HB.out.cell (World.block_lt_of_cell? w _ h8)).trans h8
      replace h9 := (HB.out.cell (World.block_lt_of_cell? w _ h9)).trans h9
      replace h10 := (HB.out.cell (World.block_lt_of_cell? w _ h10)).trans h10
      replace h11 := (HB.out.cell (World.block_lt_of_cell? w _ h11)).trans h11
      have hd : Aside0 _ := ⟨fidx_drop p z31 l i hlt⟩
      have HC := Aside0.mk (HP.out wr (rd_T31 l i) HB.out)
      generalize hy : rd_T31 l i = y at h0 h1 h2 h3 h4 h5 h6 h7 h8 h9 h10 h11 HC
      have hq : p (l.getD i z31) = p y := by rw [← hy]; simp [rd_T31]
      have HQ := Aside0.mk hq
      clear hy hq
      have eg := HEG.out
      cases hb : p y with
      | true =>
        rw [hb] at HC HQ
        clear hb
        go_wp2_with (go_at_fn g;refine HC.out.mono ?_;rintro e w' ⟨rfl, hb'⟩;have HB' := Aside0.mk (below_step HB.out hb');clear hb')
        go_ret
        refine ⟨?_, HB'.out⟩
        rw [HF.out, hd.out, HQ.out]
        rfl
      | false =>
        rw [hb] at HC HQ
        clear hb
        go_wp2_with (go_at_fn g;refine HC.out.mono ?_;rintro e w' ⟨rfl, hb'⟩;have HB' := Aside0.mk (below_step HB.out hb');clear hb')
        go_roundg (l.length - (i + 1))
        case measure => omega
        case rel => exact ⟨i + 1, by omega, by omega, by go_num, HB', ⟨by rw [HF.out, hd.out, HQ.out];rfl⟩⟩
    · obtain rfl : i = l.length := by omega
      go_wp2
      go_ret
      refine ⟨?_, HB.out⟩
      rw [HF.out, List.drop_length]
      rfl
end Go.Proofs.Ytcgefpklljclgaa.Print

namespace Go.Proofs.Ytcgefpklljclgaa.Print
open Go.RowKit Go.Proofs.YtcgefpklljclgaaW.PrintWords Go.Proofs.YtcgefpklljclgaaW.PrintLast Go.Proofs.YtcgefpklljclgaaW.PrintMore
attribute [local go_sem] max2_int min2_int max_two min_two max_three min_three max_four min_four   -- for this text's walks alone
set_option linter.unusedVariables false
set_option linter.unusedSimpArgs false
/-! ### tree_Find: function 71 -/
set_option maxHeartbeats 1000000 in
set_option maxRecDepth 100000 in
theorem treeFind1_calls (W : World) (b : Nat) (nm : ByteArray) (hb : W.heap[b]? = some (.cells #[.string nm] 9 (0, 0))) (x : S31) :
    Calls Try.prog 128 #[.agg (itemCells x), .pointer (some ⟨b, 0, none⟩)] W fun e w' => e = .returned (.bool (x.f0.toList == nm.toList)) ∧ Below W.heap.size W w' := by
  unfold itemCells
  have hu31 := Try.underlying31
  have h0 := (blk_cell hb 0).trans rfl
  have hl : b < W.heap.size := blk_lt hb
  clear hb
  go_enter Try.func128, Try.ntmps128
  go_wp2
  go_ret
  exact ⟨rfl, by repeat (first|(with_reducible first|exact Below.refl _ _|apply below_alloc|apply pw_below_drewN|apply below_drew1))⟩
/-- a name's place -/
def tree_Find.f (l0 : List (S31)) (a1 : ByteArray) : Option Int := some (fidx (fun x => x.f0.toList == a1.toList) l0 0)
set_option maxHeartbeats 1000000 in
set_option maxRecDepth 100000 in
theorem tree_Find.calls (A0 : Option Addr) (c0 : Nat) (l0 : List (S31)) (a1 : ByteArray) (r : Int) (w : World) (hr0 : Kd.C k31 w A0 l0.length l0) (hc0 : l0.length ≤ c0) (h : tree_Find.f l0 a1 = some r) :
    Calls Try.prog 71 #[.slice A0 l0.length c0, .string a1] w fun e w' => e = .returned (.int .i64 r) ∧ Below w.heap.size w w' := by
  have hr : fidx (fun x => x.f0.toList == a1.toList) l0 0 = r := Option.some.inj h
  obtain ⟨W1, hW1⟩ : ∃ W1, W1 = w.alloc (.cells #[.string a1] 9) := ⟨_, rfl⟩
  have hn : W1.heap[w.heap.size]? = some (.cells #[.string a1] 9 (0, 0)) := by rw [hW1]; exact blk_new _ _
  have hB : Below w.heap.size w W1 := by rw [hW1]; exact below_alloc (Below.refl _ _) _
  have HC := Aside0.mk (idxItem_calls 128 #[.pointer (some ⟨w.heap.size, 0, none⟩)] (fun x => x.f0.toList == a1.toList) (enters_of Try.func128 (by kernel_rfl) rfl) W1 (fun W x hb => treeFind1_calls W w.heap.size a1 (blk_below hn hb) x) A0 c0 l0 (Kd.C_below hr0 hB) hc0)
  rw [hr] at HC
  have HW := Aside0.mk hW1
  have HB := Aside0.mk hB
  clear hr0 hr hW1 hn hB h
  go_enter Try.func71, Try.ntmps71
  go_wp2_with fail
  rw [← HW.out]
  refine HC.out.mono ?_
  rintro e w' ⟨rfl, hb⟩
  have HB' := Aside0.mk (below_step HB.out hb)
  clear hb
  go_wp2
  go_ret
  exact ⟨rfl, HB'.out⟩
end Go.Proofs.Ytcgefpklljclgaa.Print

namespace Go.Proofs.Ytcgefpklljclgaa.Print
open Go.RowKit Go.Proofs.YtcgefpklljclgaaW.PrintWords Go.Proofs.YtcgefpklljclgaaW.PrintLast Go.Proofs.YtcgefpklljclgaaW.PrintMore
attribute [local go_sem] max2_int min2_int max_two min_two max_three min_three max_four min_four   -- for this text's walks alone
set_option linter.unusedVariables false
set_option linter.unusedSimpArgs false
/-! ### shape_made: function 137 -/
def shape_made.f (l0 : List (S31)) (a1 : ByteArray) : Option ((List (S31)) × Int) := (slices_Clone_Item.f l0).bind fun t2 => ((tree_Find.f l0 a1).bind fun t5 => (some (t2, t5)))
set_option maxHeartbeats 8000000 in
set_option maxRecDepth 100000 in
theorem shape_made.calls (A0 : Option Addr) (c0 : Nat) (l0 : List (S31)) (a1 : ByteArray) (r1 : List (S31)) (r2 : Int) (w : World) (hr0 : Kd.C k31 w A0 l0.length l0) (hc0 : l0.length ≤ c0) (h : shape_made.f l0 a1 = some (r1, r2)) :
  Calls Try.prog 137 #[.slice A0 l0.length c0, .string a1] w fun e w' => ∃ v0_ : Value, e = .returned (.agg #[v0_, .int .i64 r2]) ∧ Kd.R k31 31 w' w.heap.size (fun _ => True) v0_ r1 ∧ Below w.heap.size w w' := by
 have hu168 := Try.underlying168
 have hu166 := Try.underlying166
 have HR0 := Aside0.mk hr0
 have HC0 := Aside0.mk hc0
 clear hr0 hc0
 have HB := Aside0.mk (Below.refl w.heap.size w)
 have H : ((slices_Clone_Item.f l0).bind fun t2 => ((tree_Find.f l0 a1).bind fun t5 => (some (t2, t5)))) = some (r1, r2) := h
 clear h
 replace H := Option.bind_eq_some_iff.mp H
 obtain ⟨t2, A30, H⟩ := H
 replace H : ((tree_Find.f l0 a1).bind fun t5 => (some (t2, t5))) = some (r1, r2) := H
 have A3 := Aside0.mk A30
 clear A30
 replace H := Option.bind_eq_some_iff.mp H
 obtain ⟨t5, A40, H⟩ := H
 replace H : (some (t2, t5)) = some (r1, r2) := H
 have A4 := Aside0.mk A40
 clear A40
 simp only [Option.some.injEq, Prod.mk.injEq] at H
 obtain ⟨rfl, rfl⟩ := H
 go_enter Try.func137, Try.ntmps137
 go_wp2_with (first|((with_reducible refine gate_dst (N := 4) rfl ?_);refine box_event ?hg (N := 4) ?hd (cs := #[.slice none 0 0, .int .i64 0]) (t := 168) ?hr ?_;(case hd => rfl);(case hg => rfl);(case hr => first|(go_simp;done)|(go_simp;rfl));intro gb1 hg w5 hbox hb;have n0_ := Aside0.mk (below_step (by repeat (first|(with_reducible first|exact HB.out|apply below_alloc|apply pw_below_drewN|apply below_drew1)|exact HB.out)) hb);have n1_ := Aside0.mk (hbox);have n2_ := Aside0.mk ((by rw [hg];exact (below_size (by repeat (first|(with_reducible first|exact HB.out|apply below_alloc|apply pw_below_drewN|apply below_drew1)|exact HB.out))) : w.heap.size ≤ gb1));have n3_ := Aside0.mk ((by rw [hg];exact (below_size (by repeat (first|(with_reducible first|exact HB.out|apply below_alloc|apply pw_below_drewN|apply below_drew1)|exact HB.out))) : w.heap.size ≤ gb1));clear HB;have HB := n0_;have BK1 := n1_;have GW1 := n2_;have GE1 := n3_;clear n0_ n1_ n2_ n3_;clear hb hbox hg)|((with_reducible refine gate_callee (f := 153) rfl ?_);refine goesL_ (some 6) rfl rfl Try.func153 (by kernel_rfl) rfl #[.slice A0 l0.length c0] rfl (by (try simp only [List.map_toArray, List.map_cons, List.map_nil]);first|done|rfl|(simp only [List.length_drop, List.length_take];rfl)) ?_;(with_reducible refine (slices_Clone_Item.calls _ _ l0 t2 _ ?side1 ?side2 A3.out).mono ?_);(case side1 => repeat (first|exact (Kd.C_below HR0.out HB.out)|(with_reducible refine Kd.C_alloc ?_ _)|(with_reducible refine Kd.C_drewN ?_ _)|(with_reducible refine Kd.C_drew ?_)));(case side2 => exact HC0.out);rintro e w6 ⟨v3, rfl, ho0, hb⟩;refine ⟨_, rfl, ?_⟩;have n0_ := Aside0.mk (Kd.R_lower ho0 (below_size (by repeat (first|(with_reducible first|exact HB.out|apply below_alloc|apply pw_below_drewN|apply below_drew1|refine below_set ?_ GE1.out)|exact HB.out))));have n1_ := Aside0.mk (blk_below (g := gb1) (o := .cells #[.slice none 0 0, .int .i64 0] 168 (0, 0)) (by (with_reducible repeat (first|refine blk_drewN ?_ _|refine blk_drew ?_|refine blk_alloc ?_ _));exact BK1.out) hb);have n2_ := Aside0.mk (below_step (by repeat (first|(with_reducible first|exact HB.out|apply below_alloc|apply pw_below_drewN|apply below_drew1|refine below_set ?_ GE1.out)|exact HB.out)) hb);clear BK1;clear HB;have HO4 := n0_;have BK1 := n1_;have HB := n2_;clear n0_ n1_ n2_;(try clear hb);(try clear hb2);(try clear hk);(try clear hi);(try clear ho0);obtain ⟨Ao7, co7, eo7⟩ := Kd.R_slice HO4.out;subst eo7)|((with_reducible refine gate_callee (f := 71) rfl ?_);refine goesL_ (some 10) rfl rfl Try.func71 (by kernel_rfl) rfl #[.slice A0 l0.length c0, .string a1] rfl (by (try simp only [List.map_toArray, List.map_cons, List.map_nil]);first|done|rfl|(simp only [List.length_drop, List.length_take];rfl)) ?_;(with_reducible refine (tree_Find.calls _ _ l0 a1 t5 _ ?side1 ?side2 A4.out).mono ?_);(case side1 => repeat (first|exact (Kd.C_below HR0.out HB.out)|(with_reducible refine Kd.C_alloc ?_ _)|(with_reducible refine Kd.C_drewN ?_ _)|(with_reducible refine Kd.C_drew ?_)));(case side2 => exact HC0.out);rintro e w8 ⟨rfl, hb⟩;refine ⟨_, rfl, ?_⟩;have n0_ := Aside0.mk (Kd.R_below (by (with_reducible repeat (first|apply Kd.R_alloc|apply Kd.R_drewN|apply Kd.R_drew));exact HO4.out) hb);have n1_ := Aside0.mk (blk_below (g := gb1) (o := .cells #[.slice none 0 0, .int .i64 0] 168 (0, 0)) (by (with_reducible repeat (first|refine blk_drewN ?_ _|refine blk_drew ?_|refine blk_alloc ?_ _));exact BK1.out) hb);have n2_ := Aside0.mk (below_step (by repeat (first|(with_reducible first|exact HB.out|apply below_alloc|apply pw_below_drewN|apply below_drew1|refine below_set ?_ GE1.out)|exact HB.out)) hb);clear HO4;clear BK1;clear HB;have HO4 := n0_;have BK1 := n1_;have HB := n2_;clear n0_ n1_ n2_;(try clear hb);(try clear hb2);(try clear hk);(try clear hi);have hcz9_0 : w8.cell? ⟨gb1, 0, none⟩ = some (.slice none 0 0) := (blk_cell BK1.out 0).trans rfl;have hcz9_1 : w8.cell? ⟨gb1, 1, none⟩ = some (.int .i64 0) := (blk_cell BK1.out 1).trans rfl;have hfz9_0 := blk_frozen BK1.out 0;have hfz9_1 := blk_frozen BK1.out 1))
 refine bodyPost_ret (results_cell_row rfl _ _ gb1 168 #[.slice Ao7 t2.length co7, .int .i64 t5] (0, 0) _ rfl (by (with_reducible repeat (first|refine blk_drewN ?_ _|refine blk_drew ?_|refine blk_alloc ?_ _));refine blk_put (cs := #[.slice Ao7 t2.length co7, .int .i64 0]) ?_ 1 _ rfl;(with_reducible repeat (first|refine blk_drewN ?_ _|refine blk_drew ?_|refine blk_alloc ?_ _));refine blk_put (cs := #[.slice none 0 0, .int .i64 0]) ?_ 0 _ rfl;(with_reducible repeat (first|refine blk_drewN ?_ _|refine blk_drew ?_|refine blk_alloc ?_ _));exact BK1.out) Try.underlying168 rfl (by kernel_rfl)) rfl ?_
 exact ⟨_, by first|rfl|(simp [errW_none, errW_some] <;> rfl)|(simp [*, errW_none, errW_some] <;> rfl), by (with_reducible repeat (first|apply Kd.R_alloc|apply Kd.R_drewN|apply Kd.R_drew));exact Kd.R_mono (Kd.R_far (p := ⟨gb1, 1, none⟩) (Kd.R_far (p := ⟨gb1, 0, none⟩) (Kd.R_types HO4.out BK1.out (by decide)) (fun _ hk => hk.2) (.slice Ao7 t2.length co7)) (fun _ hk => hk.2) (.int .i64 t5)) (fun _ hk => trivial), by repeat (first|(with_reducible first|exact HB.out|apply below_alloc|apply pw_below_drewN|apply below_drew1|refine below_set ?_ GE1.out)|exact HB.out)⟩
end Go.Proofs.Ytcgefpklljclgaa.Print

namespace Go.Proofs.Ytcgefpklljclgaa.Print
open Go.RowKit Go.Proofs.YtcgefpklljclgaaW.PrintWords Go.Proofs.YtcgefpklljclgaaW.PrintLast Go.Proofs.YtcgefpklljclgaaW.PrintMore
attribute [local go_sem] max2_int min2_int max_two min_two max_three min_three max_four min_four   -- for this text's walks alone
set_option linter.unusedVariables false
set_option linter.unusedSimpArgs false
/-! ### shape_change_parent: function 138 -/
def shape_change_parent.f (l0_0 : List (S31)) (a0_1 : Int) (a1 : ByteArray) : Option (Bool) := if a1.toList = ([] : List UInt8) then (some true) else ((tree_Find.f l0_0 a1).bind fun t2 => (some (decide (t2 ≥ 0))))
set_option maxHeartbeats 8000000 in
set_option maxRecDepth 100000 in
theorem shape_change_parent.calls (A0_0 : Option Addr) (c0_0 : Nat) (l0_0 : List (S31)) (a0_1 : Int) (a1 : ByteArray) (r : Bool) (w : World) (hr0_0 : Kd.C k31 w A0_0 l0_0.length l0_0) (hc0_0 : l0_0.length ≤ c0_0) (h : shape_change_parent.f l0_0 a0_1 a1 = some r) :
  Calls Try.prog 138 #[.agg #[.slice A0_0 l0_0.length c0_0, .int .i64 a0_1], .string a1] w fun e w' => e = .returned (.bool r) ∧ Below w.heap.size w w' := by
 have hu168 := Try.underlying168
 have HR0_0 := Aside0.mk hr0_0
 have HC0_0 := Aside0.mk hc0_0
 clear hr0_0 hc0_0
 have HB := Aside0.mk (Below.refl w.heap.size w)
 have H : (if a1.toList = ([] : List UInt8) then (some true) else ((tree_Find.f l0_0 a1).bind fun t2 => (some (decide (t2 ≥ 0))))) = some r := h
 clear h
 by_cases c3 : a1.toList = ([] : List UInt8)
 ·rw [if_pos c3] at H
  have c3b0 : (a1.toList == ([] : List UInt8)) = true := beq_iff_eq.mpr c3
  have c3b1 : (a1.toList != ([] : List UInt8)) = false := bne_eq_false_iff_eq.mpr c3
  clear c3
  obtain rfl := Option.some.inj H
  go_enter Try.func138, Try.ntmps138
  go_wp2_with (first|((with_reducible refine gate_dst (N := 2) rfl ?_);refine box_event ?hg (N := 2) ?hd (cs := #[.slice A0_0 l0_0.length c0_0, .int .i64 a0_1]) (t := 168) ?hr ?_;(case hd => rfl);(case hg => rfl);(case hr => first|(go_simp;done)|(go_simp;rfl));intro gb1 hg w4 hbox hb;have n0_ := Aside0.mk (below_step (by repeat (first|(with_reducible first|exact HB.out|apply below_alloc|apply pw_below_drewN|apply below_drew1)|exact HB.out)) hb);have n1_ := Aside0.mk (hbox);have n2_ := Aside0.mk ((by rw [hg];exact (below_size (by repeat (first|(with_reducible first|exact HB.out|apply below_alloc|apply pw_below_drewN|apply below_drew1)|exact HB.out))) : w.heap.size ≤ gb1));have n3_ := Aside0.mk ((by rw [hg];exact (below_size (by repeat (first|(with_reducible first|exact HB.out|apply below_alloc|apply pw_below_drewN|apply below_drew1)|exact HB.out))) : w.heap.size ≤ gb1));clear HB;have HB := n0_;have BK1 := n1_;have GW1 := n2_;have GE1 := n3_;clear n0_ n1_ n2_ n3_;clear hb hbox hg))
  go_ret
  exact ⟨by first|rfl|(simp [errW_none, errW_some] <;> rfl)|(simp [*, errW_none, errW_some] <;> rfl), by repeat (first|(with_reducible first|exact HB.out|apply below_alloc|apply pw_below_drewN|apply below_drew1|refine below_set ?_ GE1.out)|exact HB.out)⟩
 ·rw [if_neg c3] at H
  have c3b0 : (a1.toList == ([] : List UInt8)) = false := beq_eq_false_iff_ne.mpr c3
  have c3b1 : (a1.toList != ([] : List UInt8)) = true := bne_iff_ne.mpr c3
  replace H := Option.bind_eq_some_iff.mp H
  obtain ⟨t2, A50, H⟩ := H
  replace H : (some (decide (t2 ≥ 0))) = some r := H
  have A5 := Aside0.mk A50
  clear A50
  obtain rfl := Option.some.inj H
  go_enter Try.func138, Try.ntmps138
  go_wp2_with (first|((with_reducible refine gate_dst (N := 2) rfl ?_);refine box_event ?hg (N := 2) ?hd (cs := #[.slice A0_0 l0_0.length c0_0, .int .i64 a0_1]) (t := 168) ?hr ?_;(case hd => rfl);(case hg => rfl);(case hr => first|(go_simp;done)|(go_simp;rfl));intro gb1 hg w6 hbox hb;have n0_ := Aside0.mk (below_step (by repeat (first|(with_reducible first|exact HB.out|apply below_alloc|apply pw_below_drewN|apply below_drew1)|exact HB.out)) hb);have n1_ := Aside0.mk (hbox);have n2_ := Aside0.mk ((by rw [hg];exact (below_size (by repeat (first|(with_reducible first|exact HB.out|apply below_alloc|apply pw_below_drewN|apply below_drew1)|exact HB.out))) : w.heap.size ≤ gb1));have n3_ := Aside0.mk ((by rw [hg];exact (below_size (by repeat (first|(with_reducible first|exact HB.out|apply below_alloc|apply pw_below_drewN|apply below_drew1)|exact HB.out))) : w.heap.size ≤ gb1));clear HB;have HB := n0_;have BK1 := n1_;have GW1 := n2_;have GE1 := n3_;clear n0_ n1_ n2_ n3_;clear hb hbox hg;have hcz7_0 : w6.cell? ⟨gb1, 0, none⟩ = some (.slice A0_0 l0_0.length c0_0) := (blk_cell BK1.out 0).trans rfl;have hcz7_1 : w6.cell? ⟨gb1, 1, none⟩ = some (.int .i64 a0_1) := (blk_cell BK1.out 1).trans rfl;have hfz7_0 := blk_frozen BK1.out 0;have hfz7_1 := blk_frozen BK1.out 1)|(go_at_call 71;(with_reducible refine (tree_Find.calls _ _ l0_0 a1 t2 _ ?side1 ?side2 A5.out).mono ?_);(case side1 => repeat (first|exact (Kd.C_below HR0_0.out HB.out)|(with_reducible refine Kd.C_alloc ?_ _)|(with_reducible refine Kd.C_drewN ?_ _)|(with_reducible refine Kd.C_drew ?_)));(case side2 => exact HC0_0.out);rintro e w8 ⟨rfl, hb⟩;have n0_ := Aside0.mk (blk_below (g := gb1) (o := .cells #[.slice A0_0 l0_0.length c0_0, .int .i64 a0_1] 168 (0, 0)) (by (with_reducible repeat (first|refine blk_drewN ?_ _|refine blk_drew ?_|refine blk_alloc ?_ _));exact BK1.out) hb);have n1_ := Aside0.mk (below_step (by repeat (first|(with_reducible first|exact HB.out|apply below_alloc|apply pw_below_drewN|apply below_drew1|refine below_set ?_ GE1.out)|exact HB.out)) hb);clear BK1;clear HB;have BK1 := n0_;have HB := n1_;clear n0_ n1_;(try clear hb);(try clear hb2);(try clear hk);(try clear hi)))
  go_ret
  exact ⟨by first|rfl|(simp [errW_none, errW_some] <;> rfl)|(simp [*, errW_none, errW_some] <;> rfl), by repeat (first|(with_reducible first|exact HB.out|apply below_alloc|apply pw_below_drewN|apply below_drew1|refine below_set ?_ GE1.out)|exact HB.out)⟩
end Go.Proofs.Ytcgefpklljclgaa.Print

namespace Go.Proofs.Ytcgefpklljclgaa.Print
open Go.RowKit Go.Proofs.YtcgefpklljclgaaW.PrintWords Go.Proofs.YtcgefpklljclgaaW.PrintLast Go.Proofs.YtcgefpklljclgaaW.PrintMore
attribute [local go_sem] max2_int min2_int max_two min_two max_three min_three max_four min_four
set_option linter.unusedVariables false
set_option linter.unusedSimpArgs false
/-! a change of a tree: its node in memory, what guards it, one version further -/
/-- a row that isn't empty: where it lies -/
theorem sh_head {α : Type} {d : Kd α} {e base : Nat} {ok : Nat → Prop} {w : World} {v : Value} {xs : List α} (h : d.R e w base ok v xs) (hn : 0 < xs.length) : ∃ (g c : Nat), v = .slice (some ⟨g, 0, none⟩) xs.length c ∧ base ≤ g ∧ g < w.heap.size := by
  obtain ⟨_, inner, ⟨_, h | ⟨g, cap, cur, rfl, hg, hh, _⟩⟩, _⟩ := h
  · omega
  · exact ⟨g, cap, rfl, hg, blk_lt hh⟩
/-- an item's cells -/
def shCells (y : S31) : List Value := [.string y.f0, .string y.f1, .int .i64 y.f2.f0, .int .i64 y.f2.f1, .int .i64 y.f2.f2, .int .i64 y.f3.f0, .int .i64 y.f3.f1, .int .i64 y.f3.f2, .int .i64 y.f4.f0, .int .i64 y.f4.f1, .int .i64 y.f4.f2, .int .i64 y.f5]
/-- a row turned in its place: what else lay there stays -/
structure Turned (W w' : World) (base : Nat) (v : Value) : Prop where
  below : Below base W w'
  block : ∀ (k : Nat) o, W.heap[k]? = some o → some k ≠ v.ownBlock → w'.heap[k]? = some o
theorem Turned.of_below {W w' : World} {base : Nat} {v : Value} (h : Below W.heap.size W w') (hb : base ≤ W.heap.size) : Turned W w' base v := ⟨⟨h.os, h.tape, h.output, h.size, fun k hk => h.block k (Nat.lt_of_lt_of_le hk hb)⟩, fun k o hk _ => blk_below hk h⟩
end Go.Proofs.Ytcgefpklljclgaa.Print

namespace Go.Proofs.Ytcgefpklljclgaa.Print
open Go.RowKit Go.Proofs.YtcgefpklljclgaaW.PrintWords Go.Proofs.YtcgefpklljclgaaW.PrintLast Go.Proofs.YtcgefpklljclgaaW.PrintMore
set_option linter.unusedVariables false
set_option linter.unusedSimpArgs false
/-! rows of items, cell by cell: copied, cleared, moved in their place -/
theorem run_copy_wide {P : Program} (w : World) (dT sT ty elem : TypeId) (sz : Nat) (b o dLen dCap : Nat) (a : Addr) (sLen sCap : Nat) (cs : List Value)
    (hu : P.underlying dT = some (.slice elem)) (hs : (P.info? elem).map (·.size) = some sz) (m : Nat) (hm : Nat.min sLen dLen = m) (hn : cs.length = m * sz)
    (hsrc : ∀ j v, cs[j]? = some v → w.cell? (a.add j) = some v) (hc : ∀ j, j < cs.length → (w.cell? ⟨b, o + j, none⟩).isSome = true) (hf : ∀ j, j < cs.length → w.frozen? ⟨b, o + j, none⟩ = false) (h1 : ∀ v ∈ cs, v.oneCell' = true) :
    (Builtin.copy_ #[dT, sT] ty #[.slice (some ⟨b, o, none⟩) dLen dCap, .slice (some a) sLen sCap]).run P w = .ok (goInt m) (w.setCells b o cs) := by
  have hl := run_loadCells_list (P := P) w a cs hsrc
  have hst := run_storeCells_cells (P := P) b o cs 0 w (by simpa using hc) (by simpa using hf) h1
  cases hq : P.info? elem with
  | none => simp [hq] at hs
  | some i =>
    have hi : i.size = sz := by simpa [hq] using hs
    simp [Builtin.copy_, run_underlying hu, Builtin.lenOf, Builtin.firstCells, sizeOf, typeInfo, hq, hi, hm, ← hn, hl, hst]
/-- an item of nothing -/
def zCells : List Value := [.string ⟨#[]⟩, .string ⟨#[]⟩, .int .i64 0, .int .i64 0, .int .i64 0, .int .i64 0, .int .i64 0, .int .i64 0, .int .i64 0, .int .i64 0, .int .i64 0, .int .i64 0]
/-- the cells of a row of items -/
def flat (l : List S31) : List Value := l.flatMap shCells
theorem shCells_len (y : S31) : (shCells y).length = 12 := rfl
theorem flat_len : ∀ l : List S31, (flat l).length = l.length * 12
  | [] => rfl
  | y :: l => by
    show (shCells y ++ flat l).length = _
    rw [List.length_append, flat_len l, shCells_len, List.length_cons]
    omega
theorem flat_append (a b : List S31) : flat (a ++ b) = flat a ++ flat b := by simp [flat]
theorem flat_one (l : List S31) : ∀ u ∈ flat l, u.oneCell' = true := by
  intro u hu
  obtain ⟨y, _, hy⟩ := List.mem_flatMap.1 hu
  simp only [shCells, List.mem_cons, List.not_mem_nil, or_false] at hy
  rcases hy with rfl | rfl | rfl | rfl | rfl | rfl | rfl | rfl | rfl | rfl | rfl | rfl <;> rfl
theorem flat_take (l : List S31) (i : Nat) (h : i ≤ l.length) : (flat l).take (i * 12) = flat (l.take i) := by
  have := flat_append (l.take i) (l.drop i)
  rw [List.take_append_drop] at this
  rw [this]
  exact List.take_left' (by rw [flat_len, List.length_take]; omega)
theorem flat_drop (l : List S31) (i : Nat) (h : i ≤ l.length) : (flat l).drop (i * 12) = flat (l.drop i) := by
  have := flat_append (l.take i) (l.drop i)
  rw [List.take_append_drop] at this
  rw [this]
  exact List.drop_left' (by rw [flat_len, List.length_take]; omega)
theorem flat_reps (w : World) (base : Nat) (ok : Nat → Prop) : ∀ l : List S31, Reps (k31.M w base ok) 12 l (flat l) := by
  intro l
  refine ⟨flat_len l, fun j p hj => ?_⟩
  have hjl : j < l.length := (List.getElem?_eq_some_iff.1 hj).1
  rw [flat_drop l j (by omega), List.drop_eq_getElem_cons hjl]
  show k31.M w base ok p ((shCells l[j] ++ flat (l.drop (j + 1))).take 12)
  rw [show (12 : Nat) = (shCells l[j]).length from rfl, List.take_left]
  obtain ⟨_, rfl⟩ := List.getElem?_eq_some_iff.1 hj
  exact k31_mkM w base ok _
theorem reps_flat {w : World} {base : Nat} {ok : Nat → Prop} {l : List S31} {cs : List Value} (h : Reps (k31.M w base ok) 12 l cs) : cs = flat l := by
  obtain ⟨hl, hr⟩ := h
  apply List.ext_getElem?
  intro q
  rcases Nat.lt_or_ge q cs.length with hq | hq
  · have hj : q / 12 < l.length := by rw [hl] at hq; omega
    have h1 := k31_open (k31.K_of_M (hr (q / 12) _ (List.getElem?_eq_getElem hj)))
    have h2 := k31_open (k31.K_of_M ((flat_reps w base ok l).2 (q / 12) _ (List.getElem?_eq_getElem hj)))
    have h3 := congrArg (·[q % 12]?) (h1.trans h2.symm)
    simp only [List.getElem?_take, List.getElem?_drop, if_pos (show q % 12 < 12 by omega)] at h3
    rwa [show q / 12 * 12 + q % 12 = q by omega] at h3
  · rw [List.getElem?_eq_none hq, List.getElem?_eq_none (by rw [flat_len, ← hl]; exact hq)]
/-- an own row of items that isn't nil: its block -/
theorem R_cells {w : World} {base g n c : Nat} {ok : Nat → Prop} {l : List S31} (h : Kd.R k31 31 w base ok (.slice (some ⟨g, 0, none⟩) n c) l) :
    n = l.length ∧ base ≤ g ∧ n ≤ c ∧ c ≤ 9223372036854775807 ∧ ∃ cur, w.heap[g]? = some (.cells cur 31 (0, 0)) ∧ cur.size = c * 12 ∧ cur.toList.take (l.length * 12) = flat l := by
  obtain ⟨_, inner, ⟨_, h | ⟨g', cap', cur, hv, hg, hh, hnc, hcm, hcs, ht⟩⟩, hr⟩ := h
  · cases h.1
  · cases hv
    have := reps_flat hr
    subst this
    exact ⟨rfl, hg, hnc, hcm, cur, hh, hcs, ht⟩
theorem R_of_cells {w : World} {base g c : Nat} {l : List S31} {cur : Array Value} (hg : base ≤ g) (hnc : l.length ≤ c) (hcm : c ≤ 9223372036854775807) (hh : w.heap[g]? = some (.cells cur 31 (0, 0))) (hcs : cur.size = c * 12) (ht : cur.toList.take (l.length * 12) = flat l) :
    Kd.R k31 31 w base (fun _ => True) (.slice (some ⟨g, 0, none⟩) l.length c) l :=
  ⟨fun _ _ => trivial, flat l, ⟨flat_len l, .inr ⟨g, c, cur, rfl, hg, hh, hnc, hcm, hcs, ht⟩⟩, flat_reps _ _ _ l⟩
theorem Below.setCells_ {a w : World} {base g : Nat} (h : Below base a w) (hg : base ≤ g) (o : Nat) (vs : List Value) : Below base a (w.setCells g o vs) := by
  obtain ⟨s1, s2, s3, s4⟩ := setCells_same g vs o w
  exact ⟨s1.trans h.os, s2.trans h.tape, s3.trans h.output, by rw [s4]; exact h.size, fun k hk => (setCells_far vs o k (by omega)).trans (h.block k hk)⟩
/-- a place of a block that is plain -/
theorem plain_there {w : World} {g : Nat} {cur : Array Value} {e : Nat} (h : w.heap[g]? = some (.cells cur e (0, 0))) {j : Nat} (hj : j < cur.size) : (w.cell? ⟨g, j, none⟩).isSome = true := by
  rw [blk_cell h j, Array.getElem?_eq_getElem hj]
  rfl
theorem plain_cell {w : World} {g : Nat} {cur : Array Value} {e : Nat} (h : w.heap[g]? = some (.cells cur e (0, 0))) {j : Nat} {v : Value} (hj : cur.toList[j]? = some v) : w.cell? ⟨g, j, none⟩ = some v := by
  rw [blk_cell h j, ← hj, Array.getElem?_toList]
end Go.Proofs.Ytcgefpklljclgaa.Print

namespace Go.Proofs.Ytcgefpklljclgaa.Print
open Go.RowKit Go.Proofs.YtcgefpklljclgaaW.PrintWords Go.Proofs.YtcgefpklljclgaaW.PrintLast Go.Proofs.YtcgefpklljclgaaW.PrintMore
attribute [local go_sem] max2_int min2_int max_two min_two max_three min_three max_four min_four
set_option linter.unusedVariables false
set_option linter.unusedSimpArgs false
theorem step_copy {P : Program} {ops : Array Oper} {o : Oper} {a : Act} {w w' : World} {K : Act → World → Prop} {Q : Exit → Act → World → Prop} {E : Prop} (hg : o.guard = none) (d x : Operand) (dT sT : TypeId)
    (hop : o.op = Op.call { callee := Callee.builtin .copy, args := #[d, x], argTypes := #[dT, sT] }) (v u : Value) (hd : a.eval d = v) (hx : a.eval x = u) {v' : Value}
    (hr : (Builtin.copy_ #[dT, sT] o.type #[v, u]).run P w = .ok v' w') (hK : K (a.put o.dst v') w') : if Region.wanted o (yielded ops a.tmps) = true then Oper.wp P o a w K Q else E := by
  have hw : Region.wanted o (yielded ops a.tmps) = true := by simp [Region.wanted, hg]
  rw [if_pos hw]
  unfold Oper.wp execOp
  simp only [hop, resolve, invoke, builtin, Sem.run_bind, Sem.run_pure, Result.andThen_ok, List.map_toArray, List.map_cons, List.map_nil, hd, hx, hr]
  exact hK
theorem sh_read {w : World} {vb : Nat} {x : S31} (h : w.heap[vb]? = some (.cells (shCells x).toArray 31 (0, 0))) : Kd.C k31 w (some ⟨vb, 0, none⟩) 1 [x] :=
  (Kd.R_reads' (R_of_cells (base := 0) (l := [x]) (c := 1) (Nat.zero_le _) (Nat.le_refl _) (by decide) h rfl (by simp [flat, shCells]))).2.2
set_option maxHeartbeats 4000000 in
set_option maxRecDepth 100000 in
/-- slices.Insert at the end -/
theorem sliInsert_end (w : World) (base : Nat) (v : Value) (l : List S31) (x : S31) (vb : Nat) (hr : Kd.R k31 31 w base (fun _ => True) v l) (hv : w.heap[vb]? = some (.cells (shCells x).toArray 31 (0, 0))) (hbase : base ≤ w.heap.size) (hlim : l.length < 1000000) :
    Calls Try.prog 139 #[v, .int .i64 l.length, .slice (some ⟨vb, 0, none⟩) 1 1] w fun e w' => ∃ v', e = .returned v' ∧ Kd.R k31 31 w' base (fun _ => True) v' (l ++ [x]) ∧ Below base w w' := by
  have HR := Aside0.mk hr
  have HC := Aside0.mk (sh_read hv)
  have HB := Aside0.mk (Below.refl base w)
  obtain ⟨A, c, rfl⟩ := Kd.R_slice hr
  have hle := (Kd.R_reads' hr).2.1
  clear hr hv
  have HBASE := Aside0.mk hbase
  clear hbase
  cases A with
  | none =>
    go_enter Try.func139, Try.ntmps139
    go_wp2_with ((with_reducible refine gate_builtin (b := .append) (xs := #[.tmp 23, .tmp 24]) rfl ?_);at_builtin;refine Kd.R_append_rows k31 (w0 := w) base rfl (.tmp 23) (.tmp 24) 24 31 (.agg #[(.string ⟨#[]⟩), (.string ⟨#[]⟩), (.int .i64 0), (.int .i64 0), (.int .i64 0), (.int .i64 0), (.int .i64 0), (.int .i64 0), (.int .i64 0), (.int .i64 0), (.int .i64 0), (.int .i64 0)]) 112 rfl Try.underlying24 info31 rfl (by decide) (by omega) (.slice none l.length c) l [x] _ _ _ (fun _ => True) (fun _ => False) rfl rfl HR.out HC.out (fun _ _ h => h) (fun _ h => h.elim) (fun _ _ => trivial) HB.out HBASE.out (by omega) ?_;intro v5 w5 ho hb hg hat;have HO5 := Aside0.mk ho;have HB5 := Aside0.mk hb;clear ho hb hg hat)
    all_goals (go_ret; exact ⟨_, rfl, HO5.out, HB5.out⟩)
  | some ad =>
    go_enter Try.func139, Try.ntmps139
    go_wp2_with ((with_reducible refine gate_builtin (b := .append) (xs := #[.tmp 23, .tmp 24]) rfl ?_);at_builtin;refine Kd.R_append_rows k31 (w0 := w) base rfl (.tmp 23) (.tmp 24) 24 31 (.agg #[(.string ⟨#[]⟩), (.string ⟨#[]⟩), (.int .i64 0), (.int .i64 0), (.int .i64 0), (.int .i64 0), (.int .i64 0), (.int .i64 0), (.int .i64 0), (.int .i64 0), (.int .i64 0), (.int .i64 0)]) 112 rfl Try.underlying24 info31 rfl (by decide) (by omega) (.slice (some ad) l.length c) l [x] _ _ _ (fun _ => True) (fun _ => False) rfl rfl HR.out HC.out (fun _ _ h => h) (fun _ h => h.elim) (fun _ _ => trivial) HB.out HBASE.out (by omega) ?_;intro v5 w5 ho hb hg hat;have HO5 := Aside0.mk ho;have HB5 := Aside0.mk hb;clear ho hb hg hat)
    all_goals (go_ret; exact ⟨_, rfl, HO5.out, HB5.out⟩)
set_option maxHeartbeats 4000000 in
set_option maxRecDepth 100000 in
/-- slices.Insert where there is room: in place -/
theorem sliInsert_shift (w : World) (g n c i vb : Nat) (cs vs : List Value) (cur : Array Value) (hh : w.heap[g]? = some (.cells cur 31 (0, 0))) (hsz : cur.size = c * 12) (hi : i < n) (hroom : n + 1 ≤ c) (hc63 : c ≤ 9223372036854775807) (hvb : vb ≠ g)
    (hcs : cur.toList.take (n * 12) = cs) (hv : w.heap[vb]? = some (.cells vs.toArray 31 (0, 0))) (hvl : vs.length = 12) (h1c : ∀ u ∈ cs, u.oneCell' = true) (h1v : ∀ u ∈ vs, u.oneCell' = true) :
    Calls Try.prog 139 #[.slice (some ⟨g, 0, none⟩) n c, .int .i64 i, .slice (some ⟨vb, 0, none⟩) 1 1] w fun e w' => e = .returned (.slice (some ⟨g, 0, none⟩) (n + 1) c) ∧ w' = (w.drew.setCells g ((i + 1) * 12) (cs.drop (i * 12))).setCells g (i * 12) vs := by
  have hcl : cs.length = n * 12 := by rw [← hcs, List.length_take, Array.length_toList, hsz]; omega
  have hdl : (cs.drop (i * 12)).length = (n - i) * 12 := by rw [List.length_drop, hcl]; omega
  have hget : ∀ j u, cs[j]? = some u → w.cell? ⟨g, j, none⟩ = some u := by
    intro j u hu
    rw [← hcs, List.getElem?_take] at hu
    split at hu
    · exact plain_cell hh hu
    · cases hu
  have hS : (Try.prog.info? 31).map (·.size) = some 12 := by
    obtain ⟨i0, hi0, _, h1, _⟩ := info_parts info31
    rw [hi0]
    simp [h1]
  have hov : ∀ o lb cb, (callFunc 167 #[.slice (some ⟨vb, 0, none⟩) 1 1, .slice (some ⟨g, o, none⟩) lb cb]).run Try.prog w = .ok (.value (.bool false)) w := fun o lb cb => by
    rw [run_callFunc_extern Try.func167 (by kernel_rfl) (by kernel_rfl) (by kernel_rfl) (e := Extern.SlicesOverlaps.overlaps #[24, 24] #[4]) (by kernel_rfl),
      Lib.run_overlaps_apart w 24 4 31 Try.underlying24 12 Try.sizeOf31 ⟨vb, 0, none⟩ ⟨g, o, none⟩ 1 1 lb cb hvb 31 31 12 (c * 12) (by rw [← hvl]; simp [World.shape?, hv]) (by rw [← hsz]; simp [World.shape?, hh]) (by omega) (blk_frozen hv _) (blk_frozen hv _)]
    rfl
  have hcp1 : ∀ ty o1 n1 dc o2 n2 sc, o1 = (i + 1) * 12 → n1 = n - i → o2 = i * 12 → n2 = n + 1 - i → (Builtin.copy_ #[24, 24] ty #[.slice (some ⟨g, o1, none⟩) n1 dc, .slice (some ⟨g, o2, none⟩) n2 sc]).run Try.prog w.drew = .ok (goInt (n - i : Nat)) (w.drew.setCells g ((i + 1) * 12) (cs.drop (i * 12))) := by
    rintro ty _ _ dc _ _ sc rfl rfl rfl rfl
    exact run_copy_wide w.drew _ _ ty 31 12 g ((i + 1) * 12) (n - i) dc ⟨g, i * 12, none⟩ (n + 1 - i) sc (cs.drop (i * 12)) Try.underlying24 hS (n - i) (by simp only [Nat.min_def]; split <;> omega) hdl
      (fun j u hj => by rw [Addr.add_lit]; exact hget (i * 12 + j) u (by rwa [List.getElem?_drop] at hj))
      (fun j hj => plain_there (w := w.drew) (blk_drew hh) (by rw [hdl] at hj; omega)) (fun j hj => blk_frozen (w := w.drew) (blk_drew hh) _) (fun u hu => h1c u (List.mem_of_mem_drop hu))
  obtain ⟨W1, hW1⟩ : ∃ W1, W1 = w.drew.setCells g ((i + 1) * 12) (cs.drop (i * 12)) := ⟨_, rfl⟩
  have hg1 : ∃ cur1, W1.heap[g]? = some (.cells cur1 31 (0, 0)) ∧ cur1.size = cur.size := by
    obtain ⟨cur', a, b, _⟩ := setCells_row (cs.drop (i * 12)) ((i + 1) * 12) w.drew cur (blk_drew hh) (by rw [hdl]; omega)
    exact ⟨cur', by rw [hW1]; exact a, b⟩
  obtain ⟨cur1, hg1, hz1⟩ := hg1
  have hvb1 : W1.heap[vb]? = some (.cells vs.toArray 31 (0, 0)) := by rw [hW1, setCells_far _ _ _ hvb]; exact blk_drew hv
  have hcp2 : ∀ ty o1 n1 dc, o1 = i * 12 → n1 = n + 1 - i → (Builtin.copy_ #[24, 24] ty #[.slice (some ⟨g, o1, none⟩) n1 dc, .slice (some ⟨vb, 0, none⟩) 1 1]).run Try.prog W1 = .ok (goInt (1 : Nat)) (W1.setCells g (i * 12) vs) := by
    rintro ty _ _ dc rfl rfl
    exact run_copy_wide W1 _ _ ty 31 12 g (i * 12) (n + 1 - i) dc ⟨vb, 0, none⟩ 1 1 vs Try.underlying24 hS 1 (by simp only [Nat.min_def]; split <;> omega) (by omega)
      (fun j u hj => by rw [Addr.add_lit, Nat.zero_add]; exact plain_cell hvb1 (by simpa using hj))
      (fun j hj => plain_there hg1 (by omega)) (fun j hj => blk_frozen hg1 _) h1v
  have HW := Aside0.mk hW1
  rw [← hW1] at hcp1
  have CP1 := Aside0.mk hcp1
  have CP2 := Aside0.mk hcp2
  have HOV := Aside0.mk hov
  have hz1 : ¬ ((1 : Int) = 0) := by omega
  have hz2 : ¬ ((i : Int) = (n : Int)) := by omega
  have hz3 : ¬ ((c : Int) < (n : Int) + 1) := by omega
  have hin : i ≤ n := by omega
  have hz4 : (0 : Int) ≤ (i : Int) + 1 := by omega
  have hz5 : (i : Int) + 1 ≤ (n : Int) + 1 := by omega
  have hz6 : (i : Int) ≤ (n : Int) + 1 := by omega
  have hz7 : ¬ (c = i + 1) := by omega
  have hz8 : ¬ (c = i) := by omega
  have hw1 : IntKind.i64.wrap ((i : Int) + 1) = (i : Int) + 1 := by rw [IntKind.wrap_i64]; omega
  have htn : ((i : Int) + 1).toNat = i + 1 := by omega
  have mixed : Try.prog.follows .mixedOrders = true := by kernel_rfl
  clear hcl hdl hget hS hov hcp1 hcp2 hW1 hg1 hz1 hvb1 hh hsz hcs hv hvl h1c h1v
  go_enter Try.func139, Try.ntmps139
  go_wp2_with (rw [HOV.out])
  go_region_law_o (refine step_copy rfl _ _ 24 24 rfl (.slice (some ⟨g, (i + 1) * 12, none⟩) (n - i) (c - (i + 1))) (.slice (some ⟨g, i * 12, none⟩) (n + 1 - i) (c - i)) (by simp [Act.eval, Act.put]) (by simp [Act.eval, Act.put]) (CP1.out _ _ _ _ _ _ _ rfl rfl rfl rfl) ?_)
  go_wp2_with fail
  rw [CP2.out _ _ _ _ rfl rfl]
  go_wp2
  go_ret
  refine ⟨rfl, ?_⟩
  rw [HW.out]
set_option maxHeartbeats 4000000 in
set_option maxRecDepth 100000 in
/-- slices.Insert where there is no room: a new row -/
theorem sliInsert_grow (w : World) (g n c i vb : Nat) (cs vs : List Value) (cur : Array Value) (hh : w.heap[g]? = some (.cells cur 31 (0, 0))) (hsz : cur.size = c * 12) (hi : i < n) (hnc : n ≤ c) (hroom : c < n + 1) (hlim : n < 1000000)
    (hcs : cur.toList.take (n * 12) = cs) (hv : w.heap[vb]? = some (.cells vs.toArray 31 (0, 0))) (hvl : vs.length = 12) (h1c : ∀ u ∈ cs, u.oneCell' = true) (h1v : ∀ u ∈ vs, u.oneCell' = true) :
    Calls Try.prog 139 #[.slice (some ⟨g, 0, none⟩) n c, .int .i64 i, .slice (some ⟨vb, 0, none⟩) 1 1] w fun e w' => ∃ (G : Nat) (cur' : Array Value), e = .returned (.slice (some ⟨w.heap.size, 0, none⟩) (n + 1) G) ∧ n + 1 ≤ G ∧ G ≤ 9223372036854775807 ∧
      w'.heap[w.heap.size]? = some (.cells cur' 31 (0, 0)) ∧ cur'.size = G * 12 ∧ cur'.toList.take ((n + 1) * 12) = cs.take (i * 12) ++ vs ++ cs.drop (i * 12) ∧ Below w.heap.size w w' := by
  have hcl : cs.length = n * 12 := by rw [← hcs, List.length_take, Array.length_toList, hsz]; omega
  have hdl : (cs.drop (i * 12)).length = (n - i) * 12 := by rw [List.length_drop, hcl]; omega
  have htl : (cs.take (i * 12)).length = i * 12 := by rw [List.length_take, hcl]; omega
  have hget : ∀ j u, cs[j]? = some u → w.cell? ⟨g, j, none⟩ = some u := by
    intro j u hu
    rw [← hcs, List.getElem?_take] at hu
    split at hu
    · exact plain_cell hh hu
    · cases hu
  obtain ⟨i0, hi0, hz0, hzs, hzb⟩ := info_parts info31
  have hS : (Try.prog.info? 31).map (·.size) = some 12 := by
    rw [hi0]
    simp [hzs]
  have hgw : g < w.heap.size := blk_lt hh
  have hvw : vb < w.heap.size := blk_lt hv
  have hkk : (n : Int) + 1 - (i : Int) = ((n + 1 - i : Nat) : Int) := by omega
  have hik : i + (n + 1 - i) = n + 1 := by omega
  have hold : (Builtin.firstCells i0.size i (.slice (some ⟨g, 0, none⟩) i c)).run Try.prog w.drew = .ok (cs.take (i * 12)).toArray w.drew := by
    rw [hzs]
    exact run_firstCells_some w.drew 12 i ⟨g, 0, none⟩ i c (cs.take (i * 12)) htl (fun j u hj => by
      rw [Addr.add_lit, Nat.zero_add]
      rw [List.getElem?_take] at hj
      split at hj
      · exact hget j u hj
      · cases hj)
  obtain ⟨G, hG⟩ : ∃ G, G = grownCap w (n + 1) c 31 := ⟨_, rfl⟩
  obtain ⟨ROW, hROW⟩ : ∃ ROW : Array Value, ROW = (cs.take (i * 12)).toArray ++ Builtin.zeroCells (Value.agg zCells.toArray).cells (n + 1 - i) ++ Builtin.zeroCells (Value.agg zCells.toArray).cells (G - (n + 1)) := ⟨_, rfl⟩
  have hrz : ∀ ty k, k = (n : Int) + 1 - (i : Int) → (Builtin.append_ #[24, 3] ty #[.slice (some ⟨g, 0, none⟩) i c, .int .i64 k]).run Try.prog w =
      .ok (.slice (some ⟨w.heap.size, 0, none⟩) (n + 1) G) (w.drew.alloc (.cells ROW 31)) := fun ty k hk => by
    have h := Lib.run_append_grow_zeros w 24 3 ty 31 i0 _ .i64 .i64 Try.underlying24 Try.underlying3 hi0 hz0 (some ⟨g, 0, none⟩) i c (cs.take (i * 12)) hold (n + 1 - i) (by omega) (by omega) (by omega) (by omega) (by rw [hzb]; omega) (by rw [hzb, hik]; exact growslice_fits hroom (by omega))
    rw [hik] at h
    rw [hk, hkk, hG, hROW, hG]
    exact h
  have hGn : n + 1 ≤ G := by rw [hG]; exact grownCap_ge w _ _ _
  have hG63 : G ≤ 9223372036854775807 := by
    have := grownCap_le_maxLen w (n + 1) c 31 (by unfold maxLen; omega)
    rw [← hG] at this
    unfold maxLen at this
    omega
  have hRl : ROW.size = G * 12 := by
    rw [hROW]
    simp [Builtin.zeroCells, Value.cells, zCells, htl]
    omega
  have hRt : ROW.toList.take (i * 12) = cs.take (i * 12) := by
    rw [hROW]
    simp only [Array.toList_append, List.append_assoc]
    exact List.take_left' htl
  obtain ⟨W1, hW1⟩ : ∃ W1, W1 = w.drew.alloc (.cells ROW 31) := ⟨_, rfl⟩
  rw [← hW1] at hrz
  have hN : W1.heap[w.heap.size]? = some (.cells ROW 31 (0, 0)) := by rw [hW1]; exact blk_new w.drew _
  have hg1 : W1.heap[g]? = some (.cells cur 31 (0, 0)) := by rw [hW1]; exact blk_alloc (blk_drew hh) _
  have hv1 : W1.heap[vb]? = some (.cells vs.toArray 31 (0, 0)) := by rw [hW1]; exact blk_alloc (blk_drew hv) _
  have hB1 : Below w.heap.size w W1 := by rw [hW1]; exact below_alloc (below_drew (Below.refl _ _)) _
  have hcpA : ∀ ty o1 n1 dc, o1 = i * 12 → n1 = n + 1 - i → (Builtin.copy_ #[24, 24] ty #[.slice (some ⟨w.heap.size, o1, none⟩) n1 dc, .slice (some ⟨vb, 0, none⟩) 1 1]).run Try.prog W1 = .ok (goInt (1 : Nat)) (W1.setCells w.heap.size (i * 12) vs) := by
    rintro ty _ _ dc rfl rfl
    exact run_copy_wide W1 _ _ ty 31 12 w.heap.size (i * 12) (n + 1 - i) dc ⟨vb, 0, none⟩ 1 1 vs Try.underlying24 hS 1 (by simp only [Nat.min_def]; split <;> omega) (by omega)
      (fun j u hj => by rw [Addr.add_lit, Nat.zero_add]; exact plain_cell hv1 (by simpa using hj))
      (fun j hj => plain_there hN (by omega)) (fun j hj => blk_frozen hN _) h1v
  obtain ⟨W2, hW2⟩ : ∃ W2, W2 = W1.setCells w.heap.size (i * 12) vs := ⟨_, rfl⟩
  rw [← hW2] at hcpA
  obtain ⟨R2, hN2, hR2, hT2⟩ := setCells_row vs (i * 12) W1 ROW hN (by omega)
  rw [← hW2] at hN2
  have hg2 : W2.heap[g]? = some (.cells cur 31 (0, 0)) := by rw [hW2, setCells_far _ _ _ (by omega)]; exact hg1
  have hB2 : Below w.heap.size w W2 := by rw [hW2]; exact Below.setCells_ hB1 (Nat.le_refl _) _ _
  have hcpB : ∀ ty o1 n1 dc o2 n2 sc, o1 = (i + 1) * 12 → n1 = n - i → o2 = i * 12 → n2 = n - i → (Builtin.copy_ #[24, 24] ty #[.slice (some ⟨w.heap.size, o1, none⟩) n1 dc, .slice (some ⟨g, o2, none⟩) n2 sc]).run Try.prog W2.drew = .ok (goInt (n - i : Nat)) (W2.drew.setCells w.heap.size ((i + 1) * 12) (cs.drop (i * 12))) := by
    rintro ty _ _ dc _ _ sc rfl rfl rfl rfl
    exact run_copy_wide W2.drew _ _ ty 31 12 w.heap.size ((i + 1) * 12) (n - i) dc ⟨g, i * 12, none⟩ (n - i) sc (cs.drop (i * 12)) Try.underlying24 hS (n - i) (by simp only [Nat.min_def]; split <;> omega) hdl
      (fun j u hj => by
        rw [Addr.add_lit]
        rw [List.getElem?_drop] at hj
        refine plain_cell (w := W2.drew) (blk_drew hg2) ?_
        rw [← hcs, List.getElem?_take] at hj
        split at hj
        · exact hj
        · cases hj)
      (fun j hj => plain_there (w := W2.drew) (blk_drew hN2) (by rw [hdl] at hj; omega)) (fun j hj => blk_frozen (w := W2.drew) (blk_drew hN2) _) (fun u hu => h1c u (List.mem_of_mem_drop hu))
  obtain ⟨W3, hW3⟩ : ∃ W3, W3 = W2.drew.setCells w.heap.size ((i + 1) * 12) (cs.drop (i * 12)) := ⟨_, rfl⟩
  rw [← hW3] at hcpB
  obtain ⟨R3, hN3, hR3, hT3⟩ := setCells_row (cs.drop (i * 12)) ((i + 1) * 12) W2.drew R2 (blk_drew hN2) (by omega)
  rw [← hW3] at hN3
  have hB3 : Below w.heap.size w W3 := by rw [hW3]; exact Below.setCells_ (below_drew hB2) (Nat.le_refl _) _ _
  have hFin : R3.toList.take ((n + 1) * 12) = cs.take (i * 12) ++ vs ++ cs.drop (i * 12) := by
    have e1 : R2.toList.take ((i + 1) * 12) = cs.take (i * 12) ++ vs := by
      rw [hT2, hRt]
      exact List.take_left' (by simp only [List.length_append, htl, hvl]; omega)
    rw [hT3, e1]
    exact List.take_left' (by simp only [List.length_append, htl, hvl, hdl]; omega)
  have hz1 : ¬ ((1 : Int) = 0) := by omega
  have hz2 : ¬ ((i : Int) = (n : Int)) := by omega
  have hz3 : (c : Int) < (n : Int) + 1 := by omega
  have hin : i ≤ n := by omega
  have hz4 : (0 : Int) ≤ (i : Int) + 1 := by omega
  have hz5 : (i : Int) + 1 ≤ (n : Int) + 1 := by omega
  have hz6 : (i : Int) ≤ (n : Int) + 1 := by omega
  have hz7 : ¬ (G = i + 1) := by omega
  have hz8 : ¬ (G = i) := by omega
  have hz9 : ¬ (c = i) := by omega
  have hw1 : IntKind.i64.wrap ((i : Int) + 1) = (i : Int) + 1 := by rw [IntKind.wrap_i64]; omega
  have hw2 : IntKind.i64.wrap ((n : Int) + 1) = (n : Int) + 1 := by rw [IntKind.wrap_i64]; omega
  have hw3 : IntKind.i64.wrap ((n : Int) + 1 - (i : Int)) = (n : Int) + 1 - (i : Int) := by rw [IntKind.wrap_i64]; omega
  have htn : ((i : Int) + 1).toNat = i + 1 := by omega
  have hic : i ≤ c := by omega
  have mixed : Try.prog.follows .mixedOrders = true := by kernel_rfl
  have RZ := Aside0.mk hrz
  have CA := Aside0.mk hcpA
  have CB := Aside0.mk hcpB
  have E1 := Aside0.mk hGn
  have E2 := Aside0.mk hG63
  have E3 := Aside0.mk hN3
  have E4 := Aside0.mk (show R3.size = G * 12 by omega)
  have E5 := Aside0.mk hFin
  have E6 := Aside0.mk hB3
  clear hcl hdl htl hget hi0 hz0 hzs hzb hS hgw hvw hkk hik hold hG hROW hrz hRl hRt hW1 hN hg1 hv1 hB1 hcpA hW2 hN2 hR2 hT2 hg2 hB2 hcpB hW3 hN3 hR3 hT3 hB3 hFin hh hsz hcs hv hvl h1c h1v hGn hG63 i0 ROW R2
  go_enter Try.func139, Try.ntmps139
  go_wp2_with ((with_reducible refine gate_builtin (b := .append) (xs := #[.tmp 34, .tmp 39]) rfl ?_);at_builtin;refine Lib.wpList_append_run _ rfl _ _ _ _ rfl _ _ rfl rfl _ _ (RZ.out _ _ rfl) ?_)
  rw [CA.out _ _ _ _ rfl rfl]
  go_wp2_with fail
  go_region_law_o (refine step_copy rfl _ _ 24 24 rfl (.slice (some ⟨w.heap.size, (i + 1) * 12, none⟩) (n - i) (G - (i + 1))) (.slice (some ⟨g, i * 12, none⟩) (n - i) (c - i)) (by simp [Act.eval, Act.put]) (by simp [Act.eval, Act.put]) (CB.out _ _ _ _ _ _ _ rfl rfl rfl rfl) ?_)
  go_wp2_with fail
  go_ret
  exact ⟨G, R3, rfl, E1.out, E2.out, E3.out, E4.out, E5.out, E6.out⟩
theorem Below.lower_ {a w : World} {b base : Nat} (h : Below b a w) (hb : base ≤ b) : Below base a w := ⟨h.os, h.tape, h.output, h.size, fun k hk => h.block k (Nat.lt_of_lt_of_le hk hb)⟩
/-- slices.Insert of one item -/
theorem sliInsert_calls (w : World) (base : Nat) (v : Value) (l : List S31) (i : Nat) (x : S31) (vb : Nat) (hr : Kd.R k31 31 w base (fun _ => True) v l) (hi : i ≤ l.length) (hv : w.heap[vb]? = some (.cells (shCells x).toArray 31 (0, 0))) (hvb : v.ownBlock ≠ some vb) (hbase : base ≤ w.heap.size) (hlim : l.length < 1000000) :
    Calls Try.prog 139 #[v, .int .i64 i, .slice (some ⟨vb, 0, none⟩) 1 1] w fun e w' => ∃ v', e = .returned v' ∧ Kd.R k31 31 w' base (fun _ => True) v' (l.take i ++ x :: l.drop i) ∧ Below base w w' := by
  rcases Nat.eq_or_lt_of_le hi with rfl | hlt
  · rw [List.take_length, List.drop_length]
    exact sliInsert_end w base v l x vb hr hv hbase hlim
  · obtain ⟨g, c, rfl, hg, hgl⟩ := sh_head hr (by omega)
    obtain ⟨_, _, hnc, hcm, cur, hh, hcs, ht⟩ := R_cells hr
    have h1v : ∀ u ∈ shCells x, u.oneCell' = true := fun u hu => flat_one [x] u (by simpa [flat] using hu)
    have h1c : ∀ u ∈ flat l, u.oneCell' = true := flat_one l
    have hvg : vb ≠ g := by rintro rfl; exact hvb (by simp [Value.ownBlock])
    have hll : (l.take i ++ x :: l.drop i).length = l.length + 1 := by simp; omega
    have hfl : flat (l.take i ++ x :: l.drop i) = (flat l).take (i * 12) ++ shCells x ++ (flat l).drop (i * 12) := by
      rw [flat_append, flat_take l i hi, flat_drop l i hi, List.append_assoc]
      rfl
    by_cases hroom : l.length + 1 ≤ c
    · refine (sliInsert_shift w g l.length c i vb (flat l) (shCells x) cur hh hcs hlt hroom hcm hvg ht hv rfl h1c h1v).mono ?_
      rintro e w' ⟨rfl, rfl⟩
      have hlc : (l.length + 1) * 12 ≤ cur.size := by rw [hcs]; exact Nat.mul_le_mul_right _ hroom
      have hl1 : ((flat l).drop (i * 12)).length = (l.length - i) * 12 := by rw [List.length_drop, flat_len]; omega
      obtain ⟨cur1, h1, s1, t1⟩ := setCells_row ((flat l).drop (i * 12)) ((i + 1) * 12) w.drew cur (blk_drew hh) (by rw [hl1]; omega)
      obtain ⟨cur2, h2, s2, t2⟩ := setCells_row (shCells x) (i * 12) _ cur1 h1 (by rw [s1]; show _ + 12 ≤ _; omega)
      refine ⟨_, rfl, ?_, Below.setCells_ (Below.setCells_ (below_drew (Below.refl _ _)) hg _ _) hg _ _⟩
      have := R_of_cells (l := l.take i ++ x :: l.drop i) hg (by rw [hll]; omega) hcm h2 (by rw [s2, s1, hcs]) (by
        rw [hll, hfl, t2]
        have e1 : cur1.toList.take (i * 12) = (flat l).take (i * 12) := by
          rw [t1, List.append_assoc, List.take_append_of_le_length (by simp [Array.length_toList]; omega), List.take_take, Nat.min_eq_left (by omega), ← ht, List.take_take, Nat.min_eq_left (by omega)]
        have e2 : (cur1.toList.drop (i * 12 + (shCells x).length)).take ((l.length - i) * 12) = (flat l).drop (i * 12) := by
          rw [t1, show i * 12 + (shCells x).length = (i + 1) * 12 by rw [shCells_len]; omega, List.append_assoc, List.drop_left' (by simp [Array.length_toList]; omega)]
          exact List.take_left' hl1
        have e3 : (cur1.toList.take (i * 12) ++ shCells x).length = (i + 1) * 12 := by
          rw [List.length_append, List.length_take, Array.length_toList, shCells_len, Nat.min_eq_left (by omega)]
          omega
        rw [List.take_append, List.take_of_length_le (by rw [e3]; omega), e3, show (l.length + 1) * 12 - (i + 1) * 12 = (l.length - i) * 12 by omega, e1, e2])
      rw [hll] at this
      exact this
    · refine (sliInsert_grow w g l.length c i vb (flat l) (shCells x) cur hh hcs hlt hnc (by omega) hlim ht hv rfl h1c h1v).mono ?_
      rintro e w' ⟨G, cur', rfl, h1, h2, h3, h4, h5, h6⟩
      refine ⟨_, rfl, ?_, Below.lower_ h6 hbase⟩
      have := R_of_cells (l := l.take i ++ x :: l.drop i) hbase (by rw [hll]; omega) h2 h3 h4 (by rw [hll, hfl, h5])
      rw [hll] at this
      exact this
end Go.Proofs.Ytcgefpklljclgaa.Print

namespace Go.Proofs.Ytcgefpklljclgaa.Print
open Go.RowKit Go.Proofs.YtcgefpklljclgaaW.PrintWords Go.Proofs.YtcgefpklljclgaaW.PrintLast Go.Proofs.YtcgefpklljclgaaW.PrintMore
set_option linter.unusedVariables false
set_option linter.unusedSimpArgs false
section
variable {P : Program} {ops : Array Oper} {rest : List Oper} {o : Oper} {a : Act} {Q : Exit → Act → World → Prop} {Kc : Act → World → Prop} {W : World}
theorem put_run {gb e : Nat} {zs : Array Value} (hh : W.heap[gb]? = some (.cells zs e (0, 0))) (t : TypeId) (u : Value) (off : Nat) (seg : List Value) (hu : u.cells.toList = seg) (ht : (P.info? t).map (·.size) = some seg.length) (hfit : off + seg.length ≤ zs.size) (h1 : ∀ q ∈ seg, q.oneCell' = true) :
    ∃ w' cur, (Instr.storeAt t (.pointer (some ⟨gb, off, none⟩)) u).run P W = .ok () w' ∧ w'.heap[gb]? = some (.cells cur e (0, 0)) ∧ cur.size = zs.size ∧ cur.toList = zs.toList.take off ++ seg ++ zs.toList.drop (off + seg.length) ∧ W.grownBy w' (some gb) := by
  have hrun := run_store_run (P := P) t u seg hh hu ht (o := off) hfit h1
  obtain ⟨cur, hc, hs, hl⟩ := setCells_row seg off W zs hh hfit
  obtain ⟨s1, s2, s3, s4⟩ := setCells_same gb seg off W
  exact ⟨_, cur, hrun, hc, hs, hl, ⟨s1, s2, s3, by rw [s4]; exact Nat.le_refl _, fun k hk hne => setCells_far seg off k (by rintro rfl; exact hne rfl)⟩⟩
/-- a store that fills a plain block -/
theorem store_all {gb e : Nat} {zs : Array Value} (hh : W.heap[gb]? = some (.cells zs e (0, 0))) (t : TypeId) (p x : Operand) (ho : o.op = .store t p x) (hN : o.dst = none) (hgd : o.guard = none) (u : Value) (seg : List Value)
    (hp : a.eval p = .pointer (some ⟨gb, 0, none⟩)) (hx : a.eval x = u) (hu : u.cells.toList = seg) (ht : (P.info? t).map (·.size) = some seg.length) (hz : zs.size = seg.length) (h1 : ∀ q ∈ seg, q.oneCell' = true)
    (h : ∀ w', w'.heap[gb]? = some (.cells seg.toArray e (0, 0)) → W.grownBy w' (some gb) → wpList P ops Q rest a w') : wpList P ops Q (o :: rest) a W := by
  obtain ⟨w', cur, hrun, hc, hs, hl, hg⟩ := put_run (P := P) hh t u 0 seg hu ht (by omega) h1
  have e1 : cur = seg.toArray := by
    apply Array.ext'
    rw [hl, List.take_zero, List.nil_append, Nat.zero_add, List.drop_of_length_le (by simp [Array.length_toList]; omega), List.append_nil]
  subst e1
  refine wpList_plain hgd fun K hK => ?_
  unfold Oper.wp execOp
  simp only [ho, hp, hx, Sem.run_bind, Sem.run_pure, Result.andThen_ok, hrun]
  show K (a.put o.dst undef) _
  rw [hN]
  exact hK a _ (h _ hc hg)
end
/-- a row beside a block that is written -/
theorem R_put {α : Type} {d : Kd α} {e base : Nat} {w w1 : World} {v : Value} {xs : List α} (h : d.R e w base (fun _ => True) v xs) {g t : Nat} {cells : Array Value} (hb : w.heap[g]? = some (.cells cells t (0, 0))) (ht : ∀ q, q ∈ e :: d.E → q ≠ t) (hg : w.grownBy w1 (some g)) : d.R e w1 base (fun _ => True) v xs :=
  Kd.R_mono (Kd.R_grown (Kd.R_types h hb ht) hg (fun _ hk e => hk.2 (Option.some.inj e))) (fun _ _ => trivial)
theorem below_put {a w w1 : World} {base g : Nat} (h : Below base a w) (hb : base ≤ w.heap.size) (hg : w.grownBy w1 (some g)) (hge : base ≤ g) : Below base a w1 := pw_below_grown h (some g) hb hg (fun k e => by cases e; exact hge)
theorem blk_put_other {w w1 : World} {g k : Nat} {ob : Obj} (h : w.heap[k]? = some ob) (hg : w.grownBy w1 (some g)) (hne : k ≠ g) : w1.heap[k]? = some ob := by
  rw [hg.block k (by
    rcases Nat.lt_or_ge k w.heap.size with hl | hl
    · exact hl
    · rw [Array.getElem?_eq_none hl] at h; cases h) (by intro e; cases e; exact hne rfl)]
  exact h
end Go.Proofs.Ytcgefpklljclgaa.Print

namespace Go.Proofs.Ytcgefpklljclgaa.Print
open Go.RowKit Go.Proofs.YtcgefpklljclgaaW.PrintWords Go.Proofs.YtcgefpklljclgaaW.PrintLast Go.Proofs.YtcgefpklljclgaaW.PrintMore
attribute [local go_sem] max2_int min2_int max_two min_two max_three min_three max_four min_four   -- for this text's walks alone
set_option linter.unusedVariables false
set_option linter.unusedSimpArgs false
/-! ### shape_Create: function 84 -/
/-- where a name belongs -/
def placeL (l : List S31) (n : ByteArray) : Nat := (l.takeWhile fun y => Op.bytesLess y.f0.toList n.toList).length
theorem placeL_le (l : List S31) (n : ByteArray) : placeL l n ≤ l.length := (List.takeWhile_sublist _).length_le
theorem placeL_lt : ∀ (l : List S31) (n : ByteArray) (i : Nat), i < placeL l n → Op.bytesLess (rd_T31 l (i : Int)).f0.toList n.toList = true
  | [], n, i, h => by simp [placeL] at h
  | y :: l, n, i, h => by
    unfold placeL at h
    rw [List.takeWhile_cons] at h
    split at h
    · rename_i hy
      cases i with
      | zero => exact hy
      | succ i =>
        have := placeL_lt l n i (by unfold placeL; simpa using h)
        simpa [rd_T31] using this
    · simp at h
theorem placeL_at : ∀ (l : List S31) (n : ByteArray), placeL l n < l.length → Op.bytesLess (rd_T31 l (placeL l n : Int)).f0.toList n.toList = false
  | [], n, h => by simp at h
  | y :: l, n, h => by
    by_cases hy : Op.bytesLess y.f0.toList n.toList = true
    · have e : placeL (y :: l) n = placeL l n + 1 := by unfold placeL; rw [List.takeWhile_cons, if_pos hy, List.length_cons]
      rw [e] at h ⊢
      have := placeL_at l n (by simpa using h)
      simpa [rd_T31] using this
    · have e : placeL (y :: l) n = 0 := by unfold placeL; rw [List.takeWhile_cons, if_neg hy, List.length_nil]
      rw [e]
      simpa [rd_T31] using hy
def shape_Create.f (l0 : List (S31)) (a1 : ByteArray) (a2 : ByteArray) (a3_0 : Int) (a3_1 : Int) (a3_2 : Int) : Option ((List (S31)) × Int) :=
  (shape_made.f l0 a1).bind fun p => if a1.toList = ([] : List UInt8) then some ([], 1) else if (a1.size : Int) > 24 then some ([], 1) else (vec_May.f a3_0 a3_1 a3_2).bind fun m => if m = false then some ([], 1) else
    if p.2 ≥ 0 then some ([], 3) else (shape_change_parent.f p.1 p.2 a2).bind fun q => if q = false then some ([], 2) else if (l0.length : Int) ≥ 120 then some ([], 4) else
      some (p.1.take (placeL l0 a1) ++ ⟨a1, a2, ⟨a3_0, a3_1, a3_2⟩, ⟨0, 0, 0⟩, ⟨0, 0, 0⟩, 1⟩ :: p.1.drop (placeL l0 a1), 0)
set_option maxHeartbeats 8000000 in
set_option maxRecDepth 100000 in
theorem shape_Create.calls (A0 : Option Addr) (c0 : Nat) (l0 : List (S31)) (a1 : ByteArray) (a2 : ByteArray) (a3_0 : Int) (a3_1 : Int) (a3_2 : Int) (r1 : List (S31)) (r2 : Int) (w : World) (hr0 : Kd.C k31 w A0 l0.length l0) (hc0 : l0.length ≤ c0) (h : shape_Create.f l0 a1 a2 a3_0 a3_1 a3_2 = some (r1, r2)) :
    Calls Try.prog 84 #[.slice A0 l0.length c0, .string a1, .string a2, .agg #[.int .i64 a3_0, .int .i64 a3_1, .int .i64 a3_2]] w fun e w' => ∃ v0_ : Value, e = .returned (.tuple #[v0_, .int .i64 r2]) ∧ Kd.R k31 31 w' w.heap.size (fun _ => True) v0_ r1 ∧ Below w.heap.size w w' := by
  have hu168 := Try.underlying168
  have hu166 := Try.underlying166
  have hu31 := Try.underlying31
  have hu27 := Try.underlying27
  unfold shape_Create.f at h
  obtain ⟨⟨out, j⟩, hmd, h1⟩ := Option.bind_eq_some_iff.1 h
  clear h
  have hout : out = l0 ∧ l0.length < 1256584717458 := by
    unfold shape_made.f slices_Clone_Item.f at hmd
    split at hmd
    · obtain ⟨_, h1, h2⟩ := Option.bind_eq_some_iff.1 hmd
      obtain ⟨_, h3, h4⟩ := Option.bind_eq_some_iff.1 h2
      cases h4
      exact ⟨(Option.some.inj h1).symm, by assumption⟩
    · cases hmd
  obtain ⟨rfl, hlim⟩ := hout
  have HR := Aside0.mk hr0
  have HC := Aside0.mk hc0
  have HM := Aside0.mk hmd
  have HB := Aside0.mk (Below.refl w.heap.size w)
  have HH := Aside0.mk h1
  clear hr0 hc0 hmd h1 hlim
  go_enter Try.func84, Try.ntmps84
  go_wp2_with (first|((with_reducible refine gate_dst (N := 7) rfl ?_);refine box_event ?hg (N := 7) ?hd (cs := #[.int .i64 a3_0, .int .i64 a3_1, .int .i64 a3_2]) (t := 27) ?hr ?_;(case hd => rfl);(case hg => rfl);(case hr => first|(go_simp;done)|(go_simp;rfl));intro gb1 hg w1 hbox hb;have n0_ := Aside0.mk (below_step HB.out hb);have n1_ := Aside0.mk (hbox);have n2_ := Aside0.mk ((by rw [hg];exact below_size HB.out : w.heap.size ≤ gb1));have n3_ := Aside0.mk (hg);clear HB;have HB := n0_;have BK1 := n1_;have GE1 := n2_;have EQ1 := n3_;clear n0_ n1_ n2_ n3_;clear hb hbox hg))
  refine (shape_made.calls _ _ _ _ _ _ _ (Kd.C_below HR.out HB.out) HC.out HM.out).mono ?_
  rintro e w3 ⟨v0, rfl, ho, hb⟩
  have HO := Aside0.mk (Kd.R_lower ho (below_size HB.out))
  have HLT := Aside0.mk (Kd.R_lt ho)
  have GT1 := Aside0.mk (Nat.lt_of_lt_of_le (blk_lt BK1.out) hb.size)
  have n0_ := Aside0.mk (blk_below BK1.out hb); have n1_ := Aside0.mk (below_step HB.out hb); clear BK1; clear HB; have BK1 := n0_; have HB := n1_; clear n0_ n1_
  clear ho hb
  obtain ⟨A5, c5, rfl⟩ : ∃ A5 c5, v0 = .slice A5 out.length c5 := Kd.R_slice HO.out
  have h1 := HH.out
  clear HH
  by_cases c1 : a1.toList = ([] : List UInt8)
  · rw [if_pos c1] at h1
    have c1b2 : a1.toList.isEmpty = true := by rw [c1]; rfl
    cases h1
    clear c1
    go_wp2_with (first|((with_reducible refine gate_dst (N := 10) rfl ?_);refine box_event ?hg (N := 10) ?hd (cs := #[.slice none 0 0, .int .i64 0]) (t := 168) ?hr ?_;(case hd => rfl);(case hg => rfl);(case hr => first|(go_simp;done)|(go_simp;rfl));intro gb2 hg w4 hbox hb;have n0_ := Aside0.mk (Kd.R_below HO.out hb);have n1_ := Aside0.mk (blk_below BK1.out hb);have n2_ := Aside0.mk (below_step HB.out hb);have n3_ := Aside0.mk (hbox);have n4_ := Aside0.mk ((by rw [hg];exact below_size HB.out : w.heap.size ≤ gb2));have n5_ := Aside0.mk (hg);clear HO;clear BK1;clear HB;have HO := n0_;have BK1 := n1_;have HB := n2_;have BK2 := n3_;have GE2 := n4_;have EQ2 := n5_;clear n0_ n1_ n2_ n3_ n4_ n5_;clear hb hbox hg)|((with_reducible refine gate_store (t := 168) (p := 10) (v := .tmp 14) rfl ?_);refine store_all BK2.out 168 (.tmp 10) (.tmp 14) rfl rfl rfl (.agg #[.slice A5 out.length c5, .int .i64 j]) [.slice A5 out.length c5, .int .i64 j] rfl rfl rfl (by kernel_rfl) rfl (by intro q hq;simp only [List.mem_cons, List.not_mem_nil, or_false] at hq;rcases hq with rfl|rfl <;> rfl) ?_;intro w5 hbk hg;have n0_ := Aside0.mk (R_put HO.out BK2.out (by decide) hg);have n1_ := Aside0.mk (blk_put_other BK1.out hg (by have := EQ2.out;have := GT1.out;omega));have n2_ := Aside0.mk (below_put HB.out (below_size HB.out) hg GE2.out);have n3_ := Aside0.mk (hbk);clear HO;clear BK1;clear HB;clear BK2;have HO := n0_;have BK1 := n1_;have HB := n2_;have BK2 := n3_;clear n0_ n1_ n2_ n3_;clear hbk hg;have cgb1_0 := (blk_cell BK1.out 0).trans rfl;have cgb1_1 := (blk_cell BK1.out 1).trans rfl;have cgb1_2 := (blk_cell BK1.out 2).trans rfl;have cgb2_0 := (blk_cell BK2.out 0).trans rfl;have cgb2_1 := (blk_cell BK2.out 1).trans rfl))
    go_ret2
    exact ⟨_, rfl, Kd.R_nil _ _ _ _ _, HB.out⟩
  · rw [if_neg c1] at h1
    have c1b2 : a1.toList.isEmpty = false := by simpa using c1
    clear c1
    by_cases c2 : (a1.size : Int) > 24
    · rw [if_pos c2] at h1
      cases h1
      have q2 := eq_true c2
      go_wp2_with (first|((with_reducible refine gate_dst (N := 10) rfl ?_);refine box_event ?hg (N := 10) ?hd (cs := #[.slice none 0 0, .int .i64 0]) (t := 168) ?hr ?_;(case hd => rfl);(case hg => rfl);(case hr => first|(go_simp;done)|(go_simp;rfl));intro gb2 hg w4 hbox hb;have n0_ := Aside0.mk (Kd.R_below HO.out hb);have n1_ := Aside0.mk (blk_below BK1.out hb);have n2_ := Aside0.mk (below_step HB.out hb);have n3_ := Aside0.mk (hbox);have n4_ := Aside0.mk ((by rw [hg];exact below_size HB.out : w.heap.size ≤ gb2));have n5_ := Aside0.mk (hg);clear HO;clear BK1;clear HB;have HO := n0_;have BK1 := n1_;have HB := n2_;have BK2 := n3_;have GE2 := n4_;have EQ2 := n5_;clear n0_ n1_ n2_ n3_ n4_ n5_;clear hb hbox hg)|((with_reducible refine gate_store (t := 168) (p := 10) (v := .tmp 14) rfl ?_);refine store_all BK2.out 168 (.tmp 10) (.tmp 14) rfl rfl rfl (.agg #[.slice A5 out.length c5, .int .i64 j]) [.slice A5 out.length c5, .int .i64 j] rfl rfl rfl (by kernel_rfl) rfl (by intro q hq;simp only [List.mem_cons, List.not_mem_nil, or_false] at hq;rcases hq with rfl|rfl <;> rfl) ?_;intro w5 hbk hg;have n0_ := Aside0.mk (R_put HO.out BK2.out (by decide) hg);have n1_ := Aside0.mk (blk_put_other BK1.out hg (by have := EQ2.out;have := GT1.out;omega));have n2_ := Aside0.mk (below_put HB.out (below_size HB.out) hg GE2.out);have n3_ := Aside0.mk (hbk);clear HO;clear BK1;clear HB;clear BK2;have HO := n0_;have BK1 := n1_;have HB := n2_;have BK2 := n3_;clear n0_ n1_ n2_ n3_;clear hbk hg;have cgb1_0 := (blk_cell BK1.out 0).trans rfl;have cgb1_1 := (blk_cell BK1.out 1).trans rfl;have cgb1_2 := (blk_cell BK1.out 2).trans rfl;have cgb2_0 := (blk_cell BK2.out 0).trans rfl;have cgb2_1 := (blk_cell BK2.out 1).trans rfl))
      go_ret2
      exact ⟨_, rfl, Kd.R_nil _ _ _ _ _, HB.out⟩
    · rw [if_neg c2] at h1
      have q2 := eq_false c2
      obtain ⟨m, hm, h2⟩ := Option.bind_eq_some_iff.1 h1
      have HMAY := Aside0.mk hm
      have HH := Aside0.mk h2
      clear hm h1 h2 c2
      go_wp2_with (first|((with_reducible refine gate_dst (N := 10) rfl ?_);refine box_event ?hg (N := 10) ?hd (cs := #[.slice none 0 0, .int .i64 0]) (t := 168) ?hr ?_;(case hd => rfl);(case hg => rfl);(case hr => first|(go_simp;done)|(go_simp;rfl));intro gb2 hg w4 hbox hb;have n0_ := Aside0.mk (Kd.R_below HO.out hb);have n1_ := Aside0.mk (blk_below BK1.out hb);have n2_ := Aside0.mk (below_step HB.out hb);have n3_ := Aside0.mk (hbox);have n4_ := Aside0.mk ((by rw [hg];exact below_size HB.out : w.heap.size ≤ gb2));have n5_ := Aside0.mk (hg);clear HO;clear BK1;clear HB;have HO := n0_;have BK1 := n1_;have HB := n2_;have BK2 := n3_;have GE2 := n4_;have EQ2 := n5_;clear n0_ n1_ n2_ n3_ n4_ n5_;clear hb hbox hg)|((with_reducible refine gate_store (t := 168) (p := 10) (v := .tmp 14) rfl ?_);refine store_all BK2.out 168 (.tmp 10) (.tmp 14) rfl rfl rfl (.agg #[.slice A5 out.length c5, .int .i64 j]) [.slice A5 out.length c5, .int .i64 j] rfl rfl rfl (by kernel_rfl) rfl (by intro q hq;simp only [List.mem_cons, List.not_mem_nil, or_false] at hq;rcases hq with rfl|rfl <;> rfl) ?_;intro w5 hbk hg;have n0_ := Aside0.mk (R_put HO.out BK2.out (by decide) hg);have n1_ := Aside0.mk (blk_put_other BK1.out hg (by have := EQ2.out;have := GT1.out;omega));have n2_ := Aside0.mk (below_put HB.out (below_size HB.out) hg GE2.out);have n3_ := Aside0.mk (hbk);clear HO;clear BK1;clear HB;clear BK2;have HO := n0_;have BK1 := n1_;have HB := n2_;have BK2 := n3_;clear n0_ n1_ n2_ n3_;clear hbk hg;have cgb1_0 := (blk_cell BK1.out 0).trans rfl;have cgb1_1 := (blk_cell BK1.out 1).trans rfl;have cgb1_2 := (blk_cell BK1.out 2).trans rfl;have cgb2_0 := (blk_cell BK2.out 0).trans rfl;have cgb2_1 := (blk_cell BK2.out 1).trans rfl))
      refine (vec_May.calls _ _ _ _ _ HMAY.out).mono ?_
      rintro e w6 ⟨rfl, hb⟩
      clear cgb2_0 cgb2_1
      have n0_ := Aside0.mk (Kd.R_below HO.out hb); have n1_ := Aside0.mk (blk_below BK1.out hb); have n2_ := Aside0.mk (blk_below BK2.out hb); have n3_ := Aside0.mk (below_step HB.out hb); clear HO; clear BK1; clear BK2; clear HB; have HO := n0_; have BK1 := n1_; have BK2 := n2_; have HB := n3_; clear n0_ n1_ n2_ n3_
      clear hb
      have cgb2_0 := (blk_cell BK2.out 0).trans rfl
      have cgb2_1 := (blk_cell BK2.out 1).trans rfl
      have h1 := HH.out
      clear HH
      cases m with
      | false =>
        rw [if_pos rfl] at h1
        cases h1
        go_wp2_with fail
        go_ret2
        exact ⟨_, rfl, Kd.R_nil _ _ _ _ _, HB.out⟩
      | true =>
        rw [if_neg (by simp)] at h1
        by_cases c3 : j ≥ 0
        · rw [if_pos c3] at h1
          cases h1
          have q3 := eq_true c3
          clear c3
          go_wp2_with fail
          go_ret2
          exact ⟨_, rfl, Kd.R_nil _ _ _ _ _, HB.out⟩
        · rw [if_neg c3] at h1
          have q3 := eq_false c3
          obtain ⟨q, hq, h2⟩ := Option.bind_eq_some_iff.1 h1
          have HQ := Aside0.mk hq
          have HH := Aside0.mk h2
          clear hq h1 h2 c3
          go_wp2_with fail
          refine (shape_change_parent.calls _ _ _ _ _ _ _ (Kd.R_reads' HO.out).2.2 (Kd.R_reads' HO.out).2.1 HQ.out).mono ?_
          rintro e w7 ⟨rfl, hb⟩
          clear cgb2_0 cgb2_1
          have n0_ := Aside0.mk (Kd.R_below HO.out hb); have n1_ := Aside0.mk (blk_below BK1.out hb); have n2_ := Aside0.mk (blk_below BK2.out hb); have n3_ := Aside0.mk (below_step HB.out hb); clear HO; clear BK1; clear BK2; clear HB; have HO := n0_; have BK1 := n1_; have BK2 := n2_; have HB := n3_; clear n0_ n1_ n2_ n3_
          clear hb
          have cgb2_0 := (blk_cell BK2.out 0).trans rfl
          have cgb2_1 := (blk_cell BK2.out 1).trans rfl
          have h1 := HH.out
          clear HH
          cases q with
          | false =>
            rw [if_pos rfl] at h1
            cases h1
            go_wp2_with fail
            go_ret2
            exact ⟨_, rfl, Kd.R_nil _ _ _ _ _, HB.out⟩
          | true =>
            rw [if_neg (by simp)] at h1
            by_cases c4 : (out.length : Int) ≥ 120
            · rw [if_pos c4] at h1
              cases h1
              have q4 := eq_true c4
              go_wp2_with fail
              go_ret2
              exact ⟨_, rfl, Kd.R_nil _ _ _ _ _, HB.out⟩
            · rw [if_neg c4] at h1
              cases h1
              have q4 := eq_false c4
              have HL := Aside0.mk (show out.length < 1000000 by omega)
              have HPL := Aside0.mk (placeL_le out a1)
              clear c4
              have cgb1_0 := (blk_cell BK1.out 0).trans rfl
              have cgb1_1 := (blk_cell BK1.out 1).trans rfl
              have cgb1_2 := (blk_cell BK1.out 2).trans rfl
              go_wp2_with fail
              go_loopg [11] (placeL out a1) (fun kq s11 wr => wr = w7 ∧ ∃ i : Nat, i ≤ placeL out a1 ∧ placeL out a1 - i ≤ kq ∧ s11 = .int .i64 i)
              case atStart => exact ⟨rfl, 0, by omega, by omega, rfl⟩
              case round =>
                obtain ⟨rfl, i, hi, hg, rfl⟩ := hrel
                have hlen := HPL.out
                by_cases hlt : i < out.length
                · have q5 : ((i : Int) < (out.length : Int)) = True := eq_true (by omega)
                  have q6 : ((0 : Int) ≤ (i : Int)) = True := eq_true (by omega)
                  obtain ⟨ad, e1, k0, _⟩ := at_T31 (Kd.C_below HR.out HB.out) (i : Int) (by omega) (by omega)
                  cases e1
                  simp only [Int.toNat_natCast] at k0
                  by_cases hp : i < placeL out a1
                  · have q7 := placeL_lt out a1 i hp
                    go_wp2_with fail
                    have hL := HL.out
                    go_roundg (placeL out a1 - (i + 1))
                    case measure => omega
                    case rel => exact ⟨rfl, i + 1, by omega, by omega, by rw [show wrap64 ((i : Int) + 1) = ((i + 1 : Nat) : Int) from by unfold wrap64;omega]⟩
                  · obtain rfl : i = placeL out a1 := by omega
                    have q7 := placeL_at out a1 hlt
                    go_wp2_with fail
                    refine (sliInsert_calls _ w.heap.size _ out (placeL out a1) ⟨a1, a2, ⟨a3_0, a3_1, a3_2⟩, ⟨0, 0, 0⟩, ⟨0, 0, 0⟩, 1⟩ _ (Kd.R_below HO.out (below_alloc (Below.refl _ _) _)) HPL.out (blk_new _ _) (fun e => absurd (Kd.R_lt HO.out _ e) (by omega)) (below_size (below_alloc HB.out _)) HL.out).mono ?_
                    rintro e w9 ⟨v1, rfl, ho, hb⟩
                    have HO9 := Aside0.mk ho
                    have HB9 := Aside0.mk ((below_alloc HB.out _).trans hb)
                    clear ho hb
                    go_wp2_with fail
                    go_ret2
                    exact ⟨_, rfl, HO9.out, HB9.out⟩
                · have q5 : ((i : Int) < (out.length : Int)) = False := eq_false (by omega)
                  obtain rfl : i = placeL out a1 := by omega
                  go_wp2_with fail
                  refine (sliInsert_calls _ w.heap.size _ out (placeL out a1) ⟨a1, a2, ⟨a3_0, a3_1, a3_2⟩, ⟨0, 0, 0⟩, ⟨0, 0, 0⟩, 1⟩ _ (Kd.R_below HO.out (below_alloc (Below.refl _ _) _)) HPL.out (blk_new _ _) (fun e => absurd (Kd.R_lt HO.out _ e) (by omega)) (below_size (below_alloc HB.out _)) HL.out).mono ?_
                  rintro e w9 ⟨v1, rfl, ho, hb⟩
                  have HO9 := Aside0.mk ho
                  have HB9 := Aside0.mk ((below_alloc HB.out _).trans hb)
                  clear ho hb
                  go_wp2_with fail
                  go_ret2
                  exact ⟨_, rfl, HO9.out, HB9.out⟩
end Go.Proofs.Ytcgefpklljclgaa.Print

namespace Go.Proofs.Ytcgefpklljclgaa.Print
open Go.RowKit Go.Proofs.YtcgefpklljclgaaW.PrintWords Go.Proofs.YtcgefpklljclgaaW.PrintLast Go.Proofs.YtcgefpklljclgaaW.PrintMore
attribute [local go_sem] max2_int min2_int max_two min_two max_three min_three max_four min_four   -- for this text's walks alone
set_option linter.unusedVariables false
set_option linter.unusedSimpArgs false
/-! ### law1_Num: function 61 -/
def law1_Num.f (a0 : Int) : Option (Int) := some a0
set_option maxHeartbeats 8000000 in
set_option maxRecDepth 100000 in
theorem law1_Num.calls (a0 : Int) (r : Int) (w : World) (h : law1_Num.f a0 = some r) :
  Calls Try.prog 61 #[.int .i64 a0] w fun e w' => e = .returned (.int .i64 r) ∧ Drawn0 w w' := by
 have H : (some a0) = some r := h
 clear h
 obtain rfl := Option.some.inj H
 go_enter Try.func61, Try.ntmps61
 go_wp2
 go_ret
 exact ⟨by first | rfl | (simp; done) | (simp [*]; done), by repeat (first | exact Drawn0.refl _ | apply Drawn0.step)⟩
end Go.Proofs.Ytcgefpklljclgaa.Print

namespace Go.Proofs.Ytcgefpklljclgaa.Print
open Go.RowKit Go.Proofs.YtcgefpklljclgaaW.PrintWords Go.Proofs.YtcgefpklljclgaaW.PrintLast Go.Proofs.YtcgefpklljclgaaW.PrintMore
attribute [local go_sem] max2_int min2_int max_two min_two max_three min_three max_four min_four   -- for this text's walks alone
set_option linter.unusedVariables false
set_option linter.unusedSimpArgs false
theorem eqA27 (d : Nat) (w : World) (x0 y0 : Int) (x1 y1 : Int) (x2 y2 : Int) :
    (Op.equalIn (d + 2) 27 (.agg #[.int .i64 x0, .int .i64 x1, .int .i64 x2]) (.agg #[.int .i64 y0, .int .i64 y1, .int .i64 y2])).run Try.prog w = .ok (x0 == y0 && (x1 == y1 && (x2 == y2))) w := by
  refine eqA_of Try.underlying27 (by kernel_rfl) ?_
  refine eqf_cons (by rfl) (by go_simp; rfl) (by go_simp; rfl) (by go_simp) ?_
  refine eqf_cons (by rfl) (by go_simp; rfl) (by go_simp; rfl) (by go_simp) ?_
  exact eqf_last (by rfl) (by go_simp; rfl) (by go_simp; rfl) (by go_simp)
end Go.Proofs.Ytcgefpklljclgaa.Print

namespace Go.Proofs.Ytcgefpklljclgaa.Print
open Go.RowKit Go.Proofs.YtcgefpklljclgaaW.PrintWords Go.Proofs.YtcgefpklljclgaaW.PrintLast Go.Proofs.YtcgefpklljclgaaW.PrintMore
attribute [local go_sem] max2_int min2_int max_two min_two max_three min_three max_four min_four   -- for this text's walks alone
set_option linter.unusedVariables false
set_option linter.unusedSimpArgs false
theorem eqA31 (d : Nat) (w : World) (x0 y0 : ByteArray) (x1 y1 : ByteArray) (x2 y2 : Int) (x3 y3 : Int) (x4 y4 : Int) (x5 y5 : Int) (x6 y6 : Int) (x7 y7 : Int) (x8 y8 : Int) (x9 y9 : Int) (x10 y10 : Int) (x11 y11 : Int) :
    (Op.equalIn (d + 3) 31 (.agg #[.string x0, .string x1, .int .i64 x2, .int .i64 x3, .int .i64 x4, .int .i64 x5, .int .i64 x6, .int .i64 x7, .int .i64 x8, .int .i64 x9, .int .i64 x10, .int .i64 x11]) (.agg #[.string y0, .string y1, .int .i64 y2, .int .i64 y3, .int .i64 y4, .int .i64 y5, .int .i64 y6, .int .i64 y7, .int .i64 y8, .int .i64 y9, .int .i64 y10, .int .i64 y11])).run Try.prog w = .ok (x0.toList == y0.toList && (x1.toList == y1.toList && ((x2 == y2 && (x3 == y3 && (x4 == y4))) && ((x5 == y5 && (x6 == y6 && (x7 == y7))) && ((x8 == y8 && (x9 == y9 && (x10 == y10))) && (x11 == y11)))))) w := by
  refine eqA_of Try.underlying31 (by kernel_rfl) ?_
  refine eqf_cons (by rfl) (by go_simp; rfl) (by go_simp; rfl) (by go_simp) ?_
  refine eqf_cons (by rfl) (by go_simp; rfl) (by go_simp; rfl) (by go_simp) ?_
  refine eqf_cons (by rfl) (by go_simp) (by go_simp) (eqA27 (d + 0) w _ _ _ _ _ _) ?_
  refine eqf_cons (by rfl) (by go_simp) (by go_simp) (eqA27 (d + 0) w _ _ _ _ _ _) ?_
  refine eqf_cons (by rfl) (by go_simp) (by go_simp) (eqA27 (d + 0) w _ _ _ _ _ _) ?_
  exact eqf_last (by rfl) (by go_simp; rfl) (by go_simp; rfl) (by go_simp)
end Go.Proofs.Ytcgefpklljclgaa.Print

namespace Go.Proofs.Ytcgefpklljclgaa.Print
open Go.RowKit Go.Proofs.YtcgefpklljclgaaW.PrintWords Go.Proofs.YtcgefpklljclgaaW.PrintLast Go.Proofs.YtcgefpklljclgaaW.PrintMore
attribute [local go_sem] max2_int min2_int max_two min_two max_three min_three max_four min_four   -- for this text's walks alone
set_option linter.unusedVariables false
set_option linter.unusedSimpArgs false
attribute [local go_sem high] eqA31
/-! ### law15_awake: function 85 -/
def law15_awake.f  : Option (Bool) := (shape_Create.f ([] : List (S31)) (⟨#[97]⟩ : ByteArray) (⟨#[]⟩ : ByteArray) 1 0 0).bind fun bt1 => ((law1_Num.f bt1.2).bind fun t5 => (if t5 = 0 then (if (bt1.1.length : Int) = 1 then (if 0 < (bt1.1.length : Int) then (some ((((rd_T31 bt1.1 0).f0).toList) == ([97] : List UInt8) && ((((rd_T31 bt1.1 0).f1).toList) == ([] : List UInt8) && ((((rd_T31 bt1.1 0).f2.f0) == 1 && (((rd_T31 bt1.1 0).f2.f1) == 0 && (((rd_T31 bt1.1 0).f2.f2) == 0))) && ((((rd_T31 bt1.1 0).f3.f0) == 0 && (((rd_T31 bt1.1 0).f3.f1) == 0 && (((rd_T31 bt1.1 0).f3.f2) == 0))) && ((((rd_T31 bt1.1 0).f4.f0) == 0 && (((rd_T31 bt1.1 0).f4.f1) == 0 && (((rd_T31 bt1.1 0).f4.f2) == 0))) && (((rd_T31 bt1.1 0).f5) == 1))))))) else (none)) else (some false)) else (some false)))
set_option maxHeartbeats 8000000 in
set_option maxRecDepth 100000 in
theorem law15_awake.calls  (r : Bool) (w : World) (h : law15_awake.f  = some r) :
  Calls Try.prog 85 #[] w fun e w' => e = .returned (.bool r) ∧ Below w.heap.size w w' := by
 have hu27 := Try.underlying27
 have hu31 := Try.underlying31
 have HB := Aside0.mk (Below.refl w.heap.size w)
 have H : ((shape_Create.f ([] : List (S31)) (⟨#[97]⟩ : ByteArray) (⟨#[]⟩ : ByteArray) 1 0 0).bind fun bt1 => ((law1_Num.f bt1.2).bind fun t5 => (if t5 = 0 then (if (bt1.1.length : Int) = 1 then (if 0 < (bt1.1.length : Int) then (some ((((rd_T31 bt1.1 0).f0).toList) == ([97] : List UInt8) && ((((rd_T31 bt1.1 0).f1).toList) == ([] : List UInt8) && ((((rd_T31 bt1.1 0).f2.f0) == 1 && (((rd_T31 bt1.1 0).f2.f1) == 0 && (((rd_T31 bt1.1 0).f2.f2) == 0))) && ((((rd_T31 bt1.1 0).f3.f0) == 0 && (((rd_T31 bt1.1 0).f3.f1) == 0 && (((rd_T31 bt1.1 0).f3.f2) == 0))) && ((((rd_T31 bt1.1 0).f4.f0) == 0 && (((rd_T31 bt1.1 0).f4.f1) == 0 && (((rd_T31 bt1.1 0).f4.f2) == 0))) && (((rd_T31 bt1.1 0).f5) == 1))))))) else (none)) else (some false)) else (some false)))) = some r := h
 clear h
 replace H := Option.bind_eq_some_iff.mp H
 obtain ⟨⟨t1, t4⟩, A10, H⟩ := H
 replace H : ((law1_Num.f t4).bind fun t5 => (if t5 = 0 then (if (t1.length : Int) = 1 then (if 0 < (t1.length : Int) then (some ((((rd_T31 t1 0).f0).toList) == ([97] : List UInt8) && ((((rd_T31 t1 0).f1).toList) == ([] : List UInt8) && ((((rd_T31 t1 0).f2.f0) == 1 && (((rd_T31 t1 0).f2.f1) == 0 && (((rd_T31 t1 0).f2.f2) == 0))) && ((((rd_T31 t1 0).f3.f0) == 0 && (((rd_T31 t1 0).f3.f1) == 0 && (((rd_T31 t1 0).f3.f2) == 0))) && ((((rd_T31 t1 0).f4.f0) == 0 && (((rd_T31 t1 0).f4.f1) == 0 && (((rd_T31 t1 0).f4.f2) == 0))) && (((rd_T31 t1 0).f5) == 1))))))) else (none)) else (some false)) else (some false))) = some r := H
 have A1 := Aside0.mk A10
 clear A10
 replace H := Option.bind_eq_some_iff.mp H
 obtain ⟨t5, A20, H⟩ := H
 replace H : (if t5 = 0 then (if (t1.length : Int) = 1 then (if 0 < (t1.length : Int) then (some ((((rd_T31 t1 0).f0).toList) == ([97] : List UInt8) && ((((rd_T31 t1 0).f1).toList) == ([] : List UInt8) && ((((rd_T31 t1 0).f2.f0) == 1 && (((rd_T31 t1 0).f2.f1) == 0 && (((rd_T31 t1 0).f2.f2) == 0))) && ((((rd_T31 t1 0).f3.f0) == 0 && (((rd_T31 t1 0).f3.f1) == 0 && (((rd_T31 t1 0).f3.f2) == 0))) && ((((rd_T31 t1 0).f4.f0) == 0 && (((rd_T31 t1 0).f4.f1) == 0 && (((rd_T31 t1 0).f4.f2) == 0))) && (((rd_T31 t1 0).f5) == 1))))))) else (none)) else (some false)) else (some false)) = some r := H
 have A2 := Aside0.mk A20
 clear A20
 by_cases c3 : t5 = 0
 ·rw [if_pos c3] at H
  have c3b0 : (t5 == 0) = true := beq_iff_eq.mpr c3
  have c3b1 : (t5 != 0) = false := bne_eq_false_iff_eq.mpr c3
  clear c3
  by_cases c4 : (t1.length : Int) = 1
  ·rw [if_pos c4] at H
   have c4b0 : ((t1.length : Int) == 1) = true := beq_iff_eq.mpr c4
   have c4b1 : ((t1.length : Int) != 1) = false := bne_eq_false_iff_eq.mpr c4
   clear c4
   by_cases c5 : 0 < (t1.length : Int)
   ·rw [if_pos c5] at H
    have c5b0 : decide (0 < (t1.length : Int)) = true := decide_eq_true c5
    have c5b1 : decide (0 < t1.length) = true := decide_eq_true (by omega)
    clear c5
    obtain rfl := Option.some.inj H
    go_enter Try.func85, Try.ntmps85
    go_wp2_with (first|((with_reducible refine gate_callee (f := 84) rfl ?_);refine goesL_ (some 5) rfl rfl Try.func84 (by kernel_rfl) rfl #[.slice none 0 0, .string (⟨#[97]⟩ : ByteArray), .string (⟨#[]⟩ : ByteArray), .agg #[.int .i64 1, .int .i64 0, .int .i64 0]] rfl (by (try simp only [List.map_toArray, List.map_cons, List.map_nil]);first|done|rfl|(simp only [List.length_drop, List.length_take];rfl)) ?_;(refine (shape_Create.calls _ _ ([] : List (S31)) (⟨#[97]⟩ : ByteArray) (⟨#[]⟩ : ByteArray) 1 0 0 t1 t4 _ ?side1 ?side2 A1.out).mono ?_);(case side1 => exact Kd.C_nil _ _);(case side2 => exact Nat.le_refl _);rintro e w6 ⟨v2, rfl, ho0, hb⟩;refine ⟨_, rfl, ?_⟩;have n0_ := Aside0.mk (Kd.R_lower ho0 (below_size (by repeat (first|(with_reducible first|exact HB.out|apply below_alloc|apply pw_below_drewN|apply below_drew1)|exact HB.out))));have n1_ := Aside0.mk (below_step (by repeat (first|(with_reducible first|exact HB.out|apply below_alloc|apply pw_below_drewN|apply below_drew1)|exact HB.out)) hb);clear HB;have HO3 := n0_;have HB := n1_;clear n0_ n1_;(try clear hb);(try clear hb2);(try clear hk);(try clear hi);(try clear ho0))|((with_reducible refine gate_callee (f := 61) rfl ?_);refine goesL_ (some 9) rfl rfl Try.func61 (by kernel_rfl) rfl #[.int .i64 t4] rfl (by (try simp only [List.map_toArray, List.map_cons, List.map_nil]);first|done|rfl|(simp only [List.length_drop, List.length_take];rfl)) ?_;(with_reducible refine (law1_Num.calls t4 t5 _ A2.out).mono ?_);rintro e w' ⟨rfl, ⟨nd, rfl⟩⟩;refine ⟨_, rfl, ?_⟩;obtain ⟨Ao7, co7, eo7⟩ := Kd.R_slice HO3.out;subst eo7;have p6 : 0 ≤ (0 : Int) := (by omega);have q6 : 0 < (t1.length : Int) := of_decide_eq_true (by first|(with_reducible assumption)|assumption);obtain ⟨ad6, e6, hx6_0, hx6_1, hx6_2, hx6_3, hx6_4, hx6_5, hx6_6, hx6_7, hx6_8, hx6_9, hx6_10, hx6_11⟩ := at_T31 (Kd.R_reads' HO3.out).2.2 0 p6 q6;cases e6;have qi6 : (0 < t1.length) = True := eq_true (by omega);(try rw [show ((0 : Int)).toNat = 0 from rfl] at hx6_0);(try rw [show 0 * 12 = 0 from rfl] at hx6_0);(try rw [Addr.add_zero'] at hx6_0);(try rw [show ((0 : Int)).toNat = 0 from rfl] at hx6_1);(try rw [show 0 * 12 = 0 from rfl] at hx6_1);(try rw [Addr.add_zero'] at hx6_1);(try rw [show ((0 : Int)).toNat = 0 from rfl] at hx6_2);(try rw [show 0 * 12 = 0 from rfl] at hx6_2);(try rw [Addr.add_zero'] at hx6_2);(try rw [show ((0 : Int)).toNat = 0 from rfl] at hx6_3);(try rw [show 0 * 12 = 0 from rfl] at hx6_3);(try rw [Addr.add_zero'] at hx6_3);(try rw [show ((0 : Int)).toNat = 0 from rfl] at hx6_4);(try rw [show 0 * 12 = 0 from rfl] at hx6_4);(try rw [Addr.add_zero'] at hx6_4);(try rw [show ((0 : Int)).toNat = 0 from rfl] at hx6_5);(try rw [show 0 * 12 = 0 from rfl] at hx6_5);(try rw [Addr.add_zero'] at hx6_5);(try rw [show ((0 : Int)).toNat = 0 from rfl] at hx6_6);(try rw [show 0 * 12 = 0 from rfl] at hx6_6);(try rw [Addr.add_zero'] at hx6_6);(try rw [show ((0 : Int)).toNat = 0 from rfl] at hx6_7);(try rw [show 0 * 12 = 0 from rfl] at hx6_7);(try rw [Addr.add_zero'] at hx6_7);(try rw [show ((0 : Int)).toNat = 0 from rfl] at hx6_8);(try rw [show 0 * 12 = 0 from rfl] at hx6_8);(try rw [Addr.add_zero'] at hx6_8);(try rw [show ((0 : Int)).toNat = 0 from rfl] at hx6_9);(try rw [show 0 * 12 = 0 from rfl] at hx6_9);(try rw [Addr.add_zero'] at hx6_9);(try rw [show ((0 : Int)).toNat = 0 from rfl] at hx6_10);(try rw [show 0 * 12 = 0 from rfl] at hx6_10);(try rw [Addr.add_zero'] at hx6_10);(try rw [show ((0 : Int)).toNat = 0 from rfl] at hx6_11);(try rw [show 0 * 12 = 0 from rfl] at hx6_11);(try rw [Addr.add_zero'] at hx6_11);replace p6 := eq_true p6;replace q6 := eq_true q6))
    go_ret
    exact ⟨by first|rfl|(simp [errW_none, errW_some] <;> rfl)|(simp [*, errW_none, errW_some] <;> rfl), by repeat (first|(with_reducible first|exact HB.out|apply below_alloc|apply pw_below_drewN|apply below_drew1)|exact HB.out)⟩
   ·rw [if_neg c5] at H
    exact absurd H (by simp)
  ·rw [if_neg c4] at H
   have c4b0 : ((t1.length : Int) == 1) = false := beq_eq_false_iff_ne.mpr c4
   have c4b1 : ((t1.length : Int) != 1) = true := bne_iff_ne.mpr c4
   obtain rfl := Option.some.inj H
   go_enter Try.func85, Try.ntmps85
   go_wp2_with (first|((with_reducible refine gate_callee (f := 84) rfl ?_);refine goesL_ (some 5) rfl rfl Try.func84 (by kernel_rfl) rfl #[.slice none 0 0, .string (⟨#[97]⟩ : ByteArray), .string (⟨#[]⟩ : ByteArray), .agg #[.int .i64 1, .int .i64 0, .int .i64 0]] rfl (by (try simp only [List.map_toArray, List.map_cons, List.map_nil]);first|done|rfl|(simp only [List.length_drop, List.length_take];rfl)) ?_;(refine (shape_Create.calls _ _ ([] : List (S31)) (⟨#[97]⟩ : ByteArray) (⟨#[]⟩ : ByteArray) 1 0 0 t1 t4 _ ?side1 ?side2 A1.out).mono ?_);(case side1 => exact Kd.C_nil _ _);(case side2 => exact Nat.le_refl _);rintro e w8 ⟨v2, rfl, ho0, hb⟩;refine ⟨_, rfl, ?_⟩;have n0_ := Aside0.mk (Kd.R_lower ho0 (below_size (by repeat (first|(with_reducible first|exact HB.out|apply below_alloc|apply pw_below_drewN|apply below_drew1)|exact HB.out))));have n1_ := Aside0.mk (below_step (by repeat (first|(with_reducible first|exact HB.out|apply below_alloc|apply pw_below_drewN|apply below_drew1)|exact HB.out)) hb);clear HB;have HO3 := n0_;have HB := n1_;clear n0_ n1_;(try clear hb);(try clear hb2);(try clear hk);(try clear hi);(try clear ho0))|((with_reducible refine gate_callee (f := 61) rfl ?_);refine goesL_ (some 9) rfl rfl Try.func61 (by kernel_rfl) rfl #[.int .i64 t4] rfl (by (try simp only [List.map_toArray, List.map_cons, List.map_nil]);first|done|rfl|(simp only [List.length_drop, List.length_take];rfl)) ?_;(with_reducible refine (law1_Num.calls t4 t5 _ A2.out).mono ?_);rintro e w' ⟨rfl, ⟨nd, rfl⟩⟩;refine ⟨_, rfl, ?_⟩;obtain ⟨Ao9, co9, eo9⟩ := Kd.R_slice HO3.out;subst eo9))
   go_ret
   exact ⟨by first|rfl|(simp [errW_none, errW_some] <;> rfl)|(simp [*, errW_none, errW_some] <;> rfl), by repeat (first|(with_reducible first|exact HB.out|apply below_alloc|apply pw_below_drewN|apply below_drew1)|exact HB.out)⟩
 ·rw [if_neg c3] at H
  have c3b0 : (t5 == 0) = false := beq_eq_false_iff_ne.mpr c3
  have c3b1 : (t5 != 0) = true := bne_iff_ne.mpr c3
  obtain rfl := Option.some.inj H
  go_enter Try.func85, Try.ntmps85
  go_wp2_with (first|((with_reducible refine gate_callee (f := 84) rfl ?_);refine goesL_ (some 5) rfl rfl Try.func84 (by kernel_rfl) rfl #[.slice none 0 0, .string (⟨#[97]⟩ : ByteArray), .string (⟨#[]⟩ : ByteArray), .agg #[.int .i64 1, .int .i64 0, .int .i64 0]] rfl (by (try simp only [List.map_toArray, List.map_cons, List.map_nil]);first|done|rfl|(simp only [List.length_drop, List.length_take];rfl)) ?_;(refine (shape_Create.calls _ _ ([] : List (S31)) (⟨#[97]⟩ : ByteArray) (⟨#[]⟩ : ByteArray) 1 0 0 t1 t4 _ ?side1 ?side2 A1.out).mono ?_);(case side1 => exact Kd.C_nil _ _);(case side2 => exact Nat.le_refl _);rintro e w10 ⟨v2, rfl, ho0, hb⟩;refine ⟨_, rfl, ?_⟩;have n0_ := Aside0.mk (Kd.R_lower ho0 (below_size (by repeat (first|(with_reducible first|exact HB.out|apply below_alloc|apply pw_below_drewN|apply below_drew1)|exact HB.out))));have n1_ := Aside0.mk (below_step (by repeat (first|(with_reducible first|exact HB.out|apply below_alloc|apply pw_below_drewN|apply below_drew1)|exact HB.out)) hb);clear HB;have HO3 := n0_;have HB := n1_;clear n0_ n1_;(try clear hb);(try clear hb2);(try clear hk);(try clear hi);(try clear ho0))|((with_reducible refine gate_callee (f := 61) rfl ?_);refine goesL_ (some 9) rfl rfl Try.func61 (by kernel_rfl) rfl #[.int .i64 t4] rfl (by (try simp only [List.map_toArray, List.map_cons, List.map_nil]);first|done|rfl|(simp only [List.length_drop, List.length_take];rfl)) ?_;(with_reducible refine (law1_Num.calls t4 t5 _ A2.out).mono ?_);rintro e w' ⟨rfl, ⟨nd, rfl⟩⟩;refine ⟨_, rfl, ?_⟩))
  go_ret
  exact ⟨by first|rfl|(simp [errW_none, errW_some] <;> rfl)|(simp [*, errW_none, errW_some] <;> rfl), by repeat (first|(with_reducible first|exact HB.out|apply below_alloc|apply pw_below_drewN|apply below_drew1)|exact HB.out)⟩
end Go.Proofs.Ytcgefpklljclgaa.Print
