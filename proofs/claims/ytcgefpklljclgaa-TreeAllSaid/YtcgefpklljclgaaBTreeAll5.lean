/- A part of the proof of TreeAll: the machine's side by the kit's print, contracts and lemmas by this session. -/
import Derived.Laws.Strings
import Derived.Deep.Slices
import Derived.Deep.Fields
import Derived.ChangeSame
import Derived.Shelf.Abstract
import Derived.WalkSpells
import Derived.Test.YtcgefpklljclgaaRows
import Derived.WalkKit
import Derived.ProofKit
import Derived.OpenShut
import Derived.JoinedOf
import Derived.SizedLaws
import Derived.ChangeSlices
import Derived.Test.YtcgefpklljclgaaBTreeAll1
import Derived.Test.YtcgefpklljclgaaBTreeAll2
import Derived.Test.YtcgefpklljclgaaBTreeAll3
import Derived.Test.YtcgefpklljclgaaBTreeAll4
namespace Go.Proofs.Ytcgefpklljclgaa.Print
open Go.RowKit Go.Proofs.YtcgefpklljclgaaW.PrintWords Go.Proofs.YtcgefpklljclgaaW.PrintLast Go.Proofs.YtcgefpklljclgaaW.PrintMore
attribute [local go_sem] max2_int min2_int max_two min_two max_three min_three max_four min_four   -- for this text's walks alone
set_option linter.unusedVariables false
set_option linter.unusedSimpArgs false
/-! ### r1_Texts: function 79 -/
def r1_Texts.l0 : Nat → List ByteArray → List ByteArray → Int → Option (Bool)
 | 0, _, _, _ => none
 | k + 1, x0, x1, x5 => if x5 < (x0.length : Int) then (if 0 ≤ x5 then (if x5 < (x1.length : Int) then (if (rdOf ByteArray.empty x0 x5).toList = (rdOf ByteArray.empty x1 x5).toList then (r1_Texts.l0 k x0 x1 (wrap64 (x5 + 1))) else (some false)) else (none)) else (none)) else (some true)
def r1_Texts.f (k : Nat) (l0 : List ByteArray) (l1 : List ByteArray) : Option (Bool) := if (l0.length : Int) = (l1.length : Int) then (r1_Texts.l0 k l0 l1 0) else (some false)
theorem r1_Texts.mono_l : ∀ k, (∀ y0 y1 y2, LeO (r1_Texts.l0 k y0 y1 y2) (r1_Texts.l0 (k + 1) y0 y1 y2))
 | 0 => fun _ _ _ r h => by simp [r1_Texts.l0] at h
 | k + 1 => by
  have ih0 := r1_Texts.mono_l k
  ·intro y0 y1 y2
   unfold r1_Texts.l0
   repeat' first
   | (with_reducible exact ih0 _ _ _)
   | (with_reducible exact LeO.refl _)
   | (with_reducible exact LeO.none _)
   | (with_reducible refine LeO.ite ?_ ?_)
   | (with_reducible refine LeO.bind ?_ (fun _ => ?_))
   | exact ih0 _ _ _
   | exact LeO.none _
   | refine LeO.ite ?_ ?_
   | refine LeO.bind ?_ (fun _ => ?_)
theorem r1_Texts.mono : ∀ a0 a1 k, LeO (r1_Texts.f k a0 a1) (r1_Texts.f (k + 1) a0 a1) := by
 intro a0 a1 k
 have ih0 := r1_Texts.mono_l k
 unfold r1_Texts.f
 repeat' first
   | (with_reducible exact ih0 _ _ _)
   | (with_reducible exact LeO.refl _)
   | (with_reducible exact LeO.none _)
   | (with_reducible refine LeO.ite ?_ ?_)
   | (with_reducible refine LeO.bind ?_ (fun _ => ?_))
   | exact ih0 _ _ _
   | exact LeO.none _
   | refine LeO.ite ?_ ?_
   | refine LeO.bind ?_ (fun _ => ?_)
set_option maxHeartbeats 8000000 in
set_option maxRecDepth 100000 in
theorem r1_Texts.calls (k : Nat) (A0 : Option Addr) (c0 : Nat) (l0 : List ByteArray) (A1 : Option Addr) (c1 : Nat) (l1 : List ByteArray) (r : Bool) (w : World) (hr0 : Kd.C Kd.string w A0 l0.length l0) (hc0 : l0.length ≤ c0) (hr1 : Kd.C Kd.string w A1 l1.length l1) (hc1 : l1.length ≤ c1) (h : r1_Texts.f k l0 l1 = some r) :
  Calls Try.prog 79 #[.slice A0 l0.length c0, .slice A1 l1.length c1] w fun e w' => e = .returned (.bool r) ∧ Drawn0 w w' := by
 have HR0 := Aside0.mk hr0
 have HC0 := Aside0.mk hc0
 clear hr0 hc0
 have HR1 := Aside0.mk hr1
 have HC1 := Aside0.mk hc1
 clear hr1 hc1
 have H : (if (l0.length : Int) = (l1.length : Int) then (r1_Texts.l0 k l0 l1 0) else (some false)) = some r := h
 clear h
 by_cases c3 : (l0.length : Int) = (l1.length : Int)
 ·rw [if_pos c3] at H
  have c3b0 : ((l0.length : Int) == (l1.length : Int)) = true := beq_iff_eq.mpr c3
  have c3b1 : ((l0.length : Int) != (l1.length : Int)) = false := bne_eq_false_iff_eq.mpr c3
  have c3b2 : (l0.length == l1.length) = true := by first | simpa using c3 | (simp at c3 ⊢; omega)
  clear c3
  have H' := Aside0.mk H
  clear H
  go_enter Try.func79, Try.ntmps79
  go_wp2
  repeat (go_quiet (fail); try go_wp2)
  go_loopg [5] k (fun kq v5 w' => ∃ (x5_1 : Int), v5 = .int .i64 x5_1 ∧ Aside0 (r1_Texts.l0 kq l0 l1 x5_1 = some r) ∧ Aside0 (kq ≤ k) ∧ Drawn0 w w')
  case atStart => exact ⟨(0), (by first | rfl | (simp; done) | (simp [*]; done)), H', ⟨Nat.le_refl _⟩, by repeat (first | exact Drawn0.refl _ | apply Drawn0.step)⟩
  case round =>
   clear H'
   try clear c1
   try clear p2
   try clear c3
   try clear c3b0
   try clear c3b1
   try clear c3b2
   obtain ⟨x5_1, rfl, HA, HK1, ⟨m1, rfl⟩⟩ := hrel
   cases gk with
   | zero => exact absurd HA.out (by simp [r1_Texts.l0])
   | succ k1 =>
    have H := HA.out
    clear HA
    simp only [r1_Texts.l0] at H
    by_cases c4 : x5_1 < (l0.length : Int)
    ·rw [if_pos c4] at H
     have c4b0 : decide (x5_1 < (l0.length : Int)) = true := decide_eq_true c4
     clear c4
     by_cases c5 : 0 ≤ x5_1
     ·rw [if_pos c5] at H
      have c5b0 : decide (0 ≤ x5_1) = true := decide_eq_true c5
      clear c5
      by_cases c6 : x5_1 < (l1.length : Int)
      ·rw [if_pos c6] at H
       have c6b0 : decide (x5_1 < (l1.length : Int)) = true := decide_eq_true c6
       clear c6
       by_cases c7 : (rdOf ByteArray.empty l0 x5_1).toList = (rdOf ByteArray.empty l1 x5_1).toList
       ·rw [if_pos c7] at H
        have c7b0 : ((rdOf ByteArray.empty l0 x5_1).toList == (rdOf ByteArray.empty l1 x5_1).toList) = true := beq_iff_eq.mpr c7
        have c7b1 : ((rdOf ByteArray.empty l0 x5_1).toList != (rdOf ByteArray.empty l1 x5_1).toList) = false := bne_eq_false_iff_eq.mpr c7
        clear c7
        have H' := Aside0.mk H
        clear H
        have p1 : 0 ≤ (x5_1 : Int) := of_decide_eq_true (by first|(with_reducible assumption)|assumption)
        have q1 : x5_1 < (l0.length : Int) := of_decide_eq_true (by first|(with_reducible assumption)|assumption)
        obtain ⟨ad1, e1, hx1_0⟩ := Kd.at_string HR0.out x5_1 p1 q1
        cases e1
        replace p1 := eq_true p1
        replace q1 := eq_true q1
        have p2 : 0 ≤ (x5_1 : Int) := of_decide_eq_true (by first|(with_reducible assumption)|assumption)
        have q2 : x5_1 < (l1.length : Int) := of_decide_eq_true (by first|(with_reducible assumption)|assumption)
        obtain ⟨ad2, e2, hx2_0⟩ := Kd.at_string HR1.out x5_1 p2 q2
        cases e2
        replace p2 := eq_true p2
        replace q2 := eq_true q2
        go_wp2
        repeat (go_quiet (fail); try go_wp2)
        go_roundg k1
        case measure => have := HK1.out; omega
        case rel => exact ⟨(wrap64 (x5_1 + 1)), (by first|rfl|(simp;done)|(simp [*];done)), H', ⟨by have := HK1.out;omega⟩, by repeat (first|exact Drawn0.refl _|apply Drawn0.step)⟩
       ·rw [if_neg c7] at H
        have c7b0 : ((rdOf ByteArray.empty l0 x5_1).toList == (rdOf ByteArray.empty l1 x5_1).toList) = false := beq_eq_false_iff_ne.mpr c7
        have c7b1 : ((rdOf ByteArray.empty l0 x5_1).toList != (rdOf ByteArray.empty l1 x5_1).toList) = true := bne_iff_ne.mpr c7
        obtain rfl := Option.some.inj H
        have p1 : 0 ≤ (x5_1 : Int) := of_decide_eq_true (by first|(with_reducible assumption)|assumption)
        have q1 : x5_1 < (l0.length : Int) := of_decide_eq_true (by first|(with_reducible assumption)|assumption)
        obtain ⟨ad1, e1, hx1_0⟩ := Kd.at_string HR0.out x5_1 p1 q1
        cases e1
        replace p1 := eq_true p1
        replace q1 := eq_true q1
        have p2 : 0 ≤ (x5_1 : Int) := of_decide_eq_true (by first|(with_reducible assumption)|assumption)
        have q2 : x5_1 < (l1.length : Int) := of_decide_eq_true (by first|(with_reducible assumption)|assumption)
        obtain ⟨ad2, e2, hx2_0⟩ := Kd.at_string HR1.out x5_1 p2 q2
        cases e2
        replace p2 := eq_true p2
        replace q2 := eq_true q2
        go_wp2
        repeat (go_quiet (fail); try go_wp2)
        go_ret
        exact ⟨by first | rfl | (simp; done) | (simp [*]; done), by repeat (first | exact Drawn0.refl _ | apply Drawn0.step)⟩
      ·rw [if_neg c6] at H
       exact absurd H (by simp)
     ·rw [if_neg c5] at H
      exact absurd H (by simp)
    ·rw [if_neg c4] at H
     have c4b0 : decide (x5_1 < (l0.length : Int)) = false := decide_eq_false c4
     clear c4
     obtain rfl := Option.some.inj H
     go_wp2
     repeat (go_quiet (fail); try go_wp2)
     go_ret
     exact ⟨by first | rfl | (simp; done) | (simp [*]; done), by repeat (first | exact Drawn0.refl _ | apply Drawn0.step)⟩
 ·rw [if_neg c3] at H
  have c3b0 : ((l0.length : Int) == (l1.length : Int)) = false := beq_eq_false_iff_ne.mpr c3
  have c3b1 : ((l0.length : Int) != (l1.length : Int)) = true := bne_iff_ne.mpr c3
  have c3b2 : (l0.length == l1.length) = false := by first | simpa using c3 | (simp at c3 ⊢; omega)
  obtain rfl := Option.some.inj H
  go_enter Try.func79, Try.ntmps79
  go_wp2
  repeat (go_quiet (fail); try go_wp2)
  go_ret
  exact ⟨by first | rfl | (simp; done) | (simp [*]; done), by repeat (first | exact Drawn0.refl _ | apply Drawn0.step)⟩
end Go.Proofs.Ytcgefpklljclgaa.Print

namespace Go.Proofs.Ytcgefpklljclgaa.Print
open Go.RowKit Go.Proofs.YtcgefpklljclgaaW.PrintWords Go.Proofs.YtcgefpklljclgaaW.PrintLast Go.Proofs.YtcgefpklljclgaaW.PrintMore
attribute [local go_sem] max2_int min2_int max_two min_two max_three min_three max_four min_four   -- for this text's walks alone
set_option linter.unusedVariables false
set_option linter.unusedSimpArgs false
/-! ### law12_same: function 69 -/
def law12_same.f (k : Nat) (l0 : List (S31)) (a1 : ByteArray) : Option (Bool) := (tree_Find.f l0 a1).bind fun t1 => ((r10_Find.f k l0 a1).bind fun t2 => (if t1 = t2 then ((tree_Up.f k l0 a1).bind fun t3 => ((r10_Up.f k l0 a1).bind fun t6 => ((r1_Texts.f k t3 t6).bind fun t9 => (if t9 = true then ((tree_Below.f k l0 a1).bind fun t10 => ((r10_Below.f k l0 a1).bind fun t13 => ((r1_Texts.f k t10 t13).bind fun t16 => (if t16 = true then ((tree_Depth.f k l0 a1).bind fun t17 => ((r10_Up.f k l0 a1).bind fun t18 => (some (t17 == (t18.length : Int))))) else (some false))))) else (some false))))) else (some false)))
theorem law12_same.mono : ∀ a0 a1 k, LeO (law12_same.f k a0 a1) (law12_same.f (k + 1) a0 a1) := by
 intro a0 a1 k
 unfold law12_same.f
 repeat' first
   | (with_reducible exact r10_Below.mono _ _ _)
   | (with_reducible exact r10_Find.mono _ _ _)
   | (with_reducible exact r10_Up.mono _ _ _)
   | (with_reducible exact r1_Texts.mono _ _ _)
   | (with_reducible exact tree_Below.mono _ _ _)
   | (with_reducible exact tree_Depth.mono _ _ _)
   | (with_reducible exact tree_Up.mono _ _ _)
   | (with_reducible exact LeO.refl _)
   | (with_reducible exact LeO.none _)
   | (with_reducible refine LeO.ite ?_ ?_)
   | (with_reducible refine LeO.bind ?_ (fun _ => ?_))
   | exact r10_Below.mono _ _ _
   | exact r10_Find.mono _ _ _
   | exact r10_Up.mono _ _ _
   | exact r1_Texts.mono _ _ _
   | exact tree_Below.mono _ _ _
   | exact tree_Depth.mono _ _ _
   | exact tree_Up.mono _ _ _
   | exact LeO.none _
   | refine LeO.ite ?_ ?_
   | refine LeO.bind ?_ (fun _ => ?_)
set_option maxHeartbeats 8000000 in
set_option maxRecDepth 100000 in
theorem law12_same.calls (k : Nat) (A0 : Option Addr) (c0 : Nat) (l0 : List (S31)) (a1 : ByteArray) (r : Bool) (w : World) (hr0 : Kd.C k31 w A0 l0.length l0) (hc0 : l0.length ≤ c0) (h : law12_same.f k l0 a1 = some r) :
  Calls Try.prog 69 #[.slice A0 l0.length c0, .string a1] w fun e w' => e = .returned (.bool r) ∧ Below w.heap.size w w' := by
 have HR0 := Aside0.mk hr0
 have HC0 := Aside0.mk hc0
 clear hr0 hc0
 have HB := Aside0.mk (Below.refl w.heap.size w)
 have H : ((tree_Find.f l0 a1).bind fun t1 => ((r10_Find.f k l0 a1).bind fun t2 => (if t1 = t2 then ((tree_Up.f k l0 a1).bind fun t3 => ((r10_Up.f k l0 a1).bind fun t6 => ((r1_Texts.f k t3 t6).bind fun t9 => (if t9 = true then ((tree_Below.f k l0 a1).bind fun t10 => ((r10_Below.f k l0 a1).bind fun t13 => ((r1_Texts.f k t10 t13).bind fun t16 => (if t16 = true then ((tree_Depth.f k l0 a1).bind fun t17 => ((r10_Up.f k l0 a1).bind fun t18 => (some (t17 == (t18.length : Int))))) else (some false))))) else (some false))))) else (some false)))) = some r := h
 clear h
 replace H := Option.bind_eq_some_iff.mp H
 obtain ⟨t1, A30, H⟩ := H
 replace H : ((r10_Find.f k l0 a1).bind fun t2 => (if t1 = t2 then ((tree_Up.f k l0 a1).bind fun t3 => ((r10_Up.f k l0 a1).bind fun t6 => ((r1_Texts.f k t3 t6).bind fun t9 => (if t9 = true then ((tree_Below.f k l0 a1).bind fun t10 => ((r10_Below.f k l0 a1).bind fun t13 => ((r1_Texts.f k t10 t13).bind fun t16 => (if t16 = true then ((tree_Depth.f k l0 a1).bind fun t17 => ((r10_Up.f k l0 a1).bind fun t18 => (some (t17 == (t18.length : Int))))) else (some false))))) else (some false))))) else (some false))) = some r := H
 have A3 := Aside0.mk A30
 clear A30
 replace H := Option.bind_eq_some_iff.mp H
 obtain ⟨t2, A40, H⟩ := H
 replace H : (if t1 = t2 then ((tree_Up.f k l0 a1).bind fun t3 => ((r10_Up.f k l0 a1).bind fun t6 => ((r1_Texts.f k t3 t6).bind fun t9 => (if t9 = true then ((tree_Below.f k l0 a1).bind fun t10 => ((r10_Below.f k l0 a1).bind fun t13 => ((r1_Texts.f k t10 t13).bind fun t16 => (if t16 = true then ((tree_Depth.f k l0 a1).bind fun t17 => ((r10_Up.f k l0 a1).bind fun t18 => (some (t17 == (t18.length : Int))))) else (some false))))) else (some false))))) else (some false)) = some r := H
 have A4 := Aside0.mk A40
 clear A40
 by_cases c5 : t1 = t2
 ·rw [if_pos c5] at H
  have c5b0 : (t1 == t2) = true := beq_iff_eq.mpr c5
  have c5b1 : (t1 != t2) = false := bne_eq_false_iff_eq.mpr c5
  clear c5
  replace H := Option.bind_eq_some_iff.mp H
  obtain ⟨t3, A60, H⟩ := H
  replace H : ((r10_Up.f k l0 a1).bind fun t6 => ((r1_Texts.f k t3 t6).bind fun t9 => (if t9 = true then ((tree_Below.f k l0 a1).bind fun t10 => ((r10_Below.f k l0 a1).bind fun t13 => ((r1_Texts.f k t10 t13).bind fun t16 => (if t16 = true then ((tree_Depth.f k l0 a1).bind fun t17 => ((r10_Up.f k l0 a1).bind fun t18 => (some (t17 == (t18.length : Int))))) else (some false))))) else (some false)))) = some r := H
  have A6 := Aside0.mk A60
  clear A60
  replace H := Option.bind_eq_some_iff.mp H
  obtain ⟨t6, A70, H⟩ := H
  replace H : ((r1_Texts.f k t3 t6).bind fun t9 => (if t9 = true then ((tree_Below.f k l0 a1).bind fun t10 => ((r10_Below.f k l0 a1).bind fun t13 => ((r1_Texts.f k t10 t13).bind fun t16 => (if t16 = true then ((tree_Depth.f k l0 a1).bind fun t17 => ((r10_Up.f k l0 a1).bind fun t18 => (some (t17 == (t18.length : Int))))) else (some false))))) else (some false))) = some r := H
  have A7 := Aside0.mk A70
  clear A70
  replace H := Option.bind_eq_some_iff.mp H
  obtain ⟨t9, A80, H⟩ := H
  replace H : (if t9 = true then ((tree_Below.f k l0 a1).bind fun t10 => ((r10_Below.f k l0 a1).bind fun t13 => ((r1_Texts.f k t10 t13).bind fun t16 => (if t16 = true then ((tree_Depth.f k l0 a1).bind fun t17 => ((r10_Up.f k l0 a1).bind fun t18 => (some (t17 == (t18.length : Int))))) else (some false))))) else (some false)) = some r := H
  have A8 := Aside0.mk A80
  clear A80
  by_cases c9 : t9 = true
  ·subst c9
   have H1 : ((tree_Below.f k l0 a1).bind fun t10 => ((r10_Below.f k l0 a1).bind fun t13 => ((r1_Texts.f k t10 t13).bind fun t16 => (if t16 = true then ((tree_Depth.f k l0 a1).bind fun t17 => ((r10_Up.f k l0 a1).bind fun t18 => (some (t17 == (t18.length : Int))))) else (some false))))) = some r := by rw [if_pos rfl] at H; exact H
   clear H
   have H := H1
   clear H1
   replace H := Option.bind_eq_some_iff.mp H
   obtain ⟨t10, A100, H⟩ := H
   replace H : ((r10_Below.f k l0 a1).bind fun t13 => ((r1_Texts.f k t10 t13).bind fun t16 => (if t16 = true then ((tree_Depth.f k l0 a1).bind fun t17 => ((r10_Up.f k l0 a1).bind fun t18 => (some (t17 == (t18.length : Int))))) else (some false)))) = some r := H
   have A10 := Aside0.mk A100
   clear A100
   replace H := Option.bind_eq_some_iff.mp H
   obtain ⟨t13, A110, H⟩ := H
   replace H : ((r1_Texts.f k t10 t13).bind fun t16 => (if t16 = true then ((tree_Depth.f k l0 a1).bind fun t17 => ((r10_Up.f k l0 a1).bind fun t18 => (some (t17 == (t18.length : Int))))) else (some false))) = some r := H
   have A11 := Aside0.mk A110
   clear A110
   replace H := Option.bind_eq_some_iff.mp H
   obtain ⟨t16, A120, H⟩ := H
   replace H : (if t16 = true then ((tree_Depth.f k l0 a1).bind fun t17 => ((r10_Up.f k l0 a1).bind fun t18 => (some (t17 == (t18.length : Int))))) else (some false)) = some r := H
   have A12 := Aside0.mk A120
   clear A120
   by_cases c13 : t16 = true
   ·subst c13
    have H1 : ((tree_Depth.f k l0 a1).bind fun t17 => ((r10_Up.f k l0 a1).bind fun t18 => (some (t17 == (t18.length : Int))))) = some r := by rw [if_pos rfl] at H; exact H
    clear H
    have H := H1
    clear H1
    replace H := Option.bind_eq_some_iff.mp H
    obtain ⟨t17, A140, H⟩ := H
    replace H : ((r10_Up.f k l0 a1).bind fun t18 => (some (t17 == (t18.length : Int)))) = some r := H
    have A14 := Aside0.mk A140
    clear A140
    replace H := Option.bind_eq_some_iff.mp H
    obtain ⟨t18, A150, H⟩ := H
    replace H : (some (t17 == (t18.length : Int))) = some r := H
    have A15 := Aside0.mk A150
    clear A150
    obtain rfl : t6 = t18 := Option.some.inj (A7.out.symm.trans A15.out)
    obtain rfl := Option.some.inj H
    go_enter Try.func69, Try.ntmps69
    go_wp2_with (first|((with_reducible refine gate_callee (f := 71) rfl ?_);refine goesL_ (some 7) rfl rfl Try.func71 (by kernel_rfl) rfl #[.slice A0 l0.length c0, .string a1] rfl (by (try simp only [List.map_toArray, List.map_cons, List.map_nil]);first|done|rfl|(simp only [List.length_drop, List.length_take];rfl)) ?_;(with_reducible refine (tree_Find.calls _ _ l0 a1 t1 _ ?side1 ?side2 A3.out).mono ?_);(case side1 => repeat (first|exact HR0.out|(with_reducible refine Kd.C_alloc ?_ _)|(with_reducible refine Kd.C_drewN ?_ _)|(with_reducible refine Kd.C_drew ?_)));(case side2 => exact HC0.out);rintro e w16 ⟨rfl, hb⟩;refine ⟨_, rfl, ?_⟩;have n0_ := Aside0.mk (below_step (by repeat (first|(with_reducible first|exact HB.out|apply below_alloc|apply pw_below_drewN|apply below_drew1)|exact HB.out)) hb);clear HB;have HB := n0_;clear n0_;(try clear hb);(try clear hb2);(try clear hk);(try clear hi))|((with_reducible refine gate_callee (f := 50) rfl ?_);refine goesL_ (some 10) rfl rfl Try.func50 (by kernel_rfl) rfl #[.slice A0 l0.length c0, .string a1] rfl (by (try simp only [List.map_toArray, List.map_cons, List.map_nil]);first|done|rfl|(simp only [List.length_drop, List.length_take];rfl)) ?_;(with_reducible refine (r10_Find.calls k _ _ l0 a1 t2 _ ?side1 ?side2 A4.out).mono ?_);(case side1 => repeat (first|exact (Kd.C_below HR0.out HB.out)|(with_reducible refine Kd.C_alloc ?_ _)|(with_reducible refine Kd.C_drewN ?_ _)|(with_reducible refine Kd.C_drew ?_)));(case side2 => exact HC0.out);rintro e w' ⟨rfl, ⟨nd, rfl⟩⟩;refine ⟨_, rfl, ?_⟩)|(go_at_call 70;(with_reducible refine (tree_Up.calls k _ _ l0 a1 t3 _ ?side1 ?side2 A6.out).mono ?_);(case side1 => repeat (first|exact (Kd.C_below HR0.out (by repeat (first|(with_reducible first|exact HB.out|apply below_alloc|apply pw_below_drewN|apply below_drew1)|exact HB.out)))|(with_reducible refine Kd.C_alloc ?_ _)|(with_reducible refine Kd.C_drewN ?_ _)|(with_reducible refine Kd.C_drew ?_)));(case side2 => exact HC0.out);rintro e w17 ⟨v4, rfl, ho0, hb⟩;have n0_ := Aside0.mk (Kd.R_lower ho0 (below_size (by repeat (first|(with_reducible first|exact HB.out|apply below_alloc|apply pw_below_drewN|apply below_drew1)|exact HB.out))));have n1_ := Aside0.mk (below_step (by repeat (first|(with_reducible first|exact HB.out|apply below_alloc|apply pw_below_drewN|apply below_drew1)|exact HB.out)) hb);clear HB;have HO5 := n0_;have HB := n1_;clear n0_ n1_;(try clear hb);(try clear hb2);(try clear hk);(try clear hi);(try clear ho0))|(have hg_ := HO5.out;clear hg_;go_at_call 106;(with_reducible refine (r10_Up.calls k _ _ l0 a1 t6 _ ?side1 ?side2 A15.out).mono ?_);(case side1 => repeat (first|exact (Kd.C_below HR0.out HB.out)|(with_reducible refine Kd.C_alloc ?_ _)|(with_reducible refine Kd.C_drewN ?_ _)|(with_reducible refine Kd.C_drew ?_)));(case side2 => exact HC0.out);rintro e w26 ⟨v19, rfl, ho0, hb⟩;have n0_ := Aside0.mk (Kd.R_elder' (by (with_reducible repeat (first|apply Kd.R_alloc|apply Kd.R_drewN|apply Kd.R_drew));exact HO5.out) (Kd.R_base ho0) hb);have n1_ := Aside0.mk (Kd.R_elder' (by (with_reducible repeat (first|apply Kd.R_alloc|apply Kd.R_drewN|apply Kd.R_drew));exact HO8.out) (Kd.R_base ho0) hb);have n2_ := Aside0.mk (Kd.R_elder' (by (with_reducible repeat (first|apply Kd.R_alloc|apply Kd.R_drewN|apply Kd.R_drew));exact HO12.out) (Kd.R_base ho0) hb);have n3_ := Aside0.mk (Kd.R_elder' (by (with_reducible repeat (first|apply Kd.R_alloc|apply Kd.R_drewN|apply Kd.R_drew));exact HO15.out) (Kd.R_base ho0) hb);have n4_ := Aside0.mk (Kd.R_lower (Kd.R_new' (Kd.R_new' (Kd.R_new' (Kd.R_new' ho0 (Kd.R_lt (by (with_reducible repeat (first|apply Kd.R_alloc|apply Kd.R_drewN|apply Kd.R_drew));exact HO5.out))) (Kd.R_lt (by (with_reducible repeat (first|apply Kd.R_alloc|apply Kd.R_drewN|apply Kd.R_drew));exact HO8.out))) (Kd.R_lt (by (with_reducible repeat (first|apply Kd.R_alloc|apply Kd.R_drewN|apply Kd.R_drew));exact HO12.out))) (Kd.R_lt (by (with_reducible repeat (first|apply Kd.R_alloc|apply Kd.R_drewN|apply Kd.R_drew));exact HO15.out))) (below_size (by repeat (first|(with_reducible first|exact HB.out|apply below_alloc|apply pw_below_drewN|apply below_drew1)|exact HB.out))));have n5_ := Aside0.mk (below_step (by repeat (first|(with_reducible first|exact HB.out|apply below_alloc|apply pw_below_drewN|apply below_drew1)|exact HB.out)) hb);clear HO5;clear HO8;clear HO12;clear HO15;clear HB;have HO5 := n0_;have HO8 := n1_;have HO12 := n2_;have HO15 := n3_;have HO20 := n4_;have HB := n5_;clear n0_ n1_ n2_ n3_ n4_ n5_;(try clear hb);(try clear hb2);(try clear hk);(try clear hi);(try clear ho0);obtain ⟨Ao27, co27, eo27⟩ := Kd.R_slice HO20.out;subst eo27)|(go_at_call 106;(with_reducible refine (r10_Up.calls k _ _ l0 a1 t6 _ ?side1 ?side2 A7.out).mono ?_);(case side1 => repeat (first|exact (Kd.C_below HR0.out HB.out)|(with_reducible refine Kd.C_alloc ?_ _)|(with_reducible refine Kd.C_drewN ?_ _)|(with_reducible refine Kd.C_drew ?_)));(case side2 => exact HC0.out);rintro e w18 ⟨v7, rfl, ho0, hb⟩;have n0_ := Aside0.mk (Kd.R_elder' (by (with_reducible repeat (first|apply Kd.R_alloc|apply Kd.R_drewN|apply Kd.R_drew));exact HO5.out) (Kd.R_base ho0) hb);have n1_ := Aside0.mk (Kd.R_lower (Kd.R_new' ho0 (Kd.R_lt (by (with_reducible repeat (first|apply Kd.R_alloc|apply Kd.R_drewN|apply Kd.R_drew));exact HO5.out))) (below_size (by repeat (first|(with_reducible first|exact HB.out|apply below_alloc|apply pw_below_drewN|apply below_drew1)|exact HB.out))));have n2_ := Aside0.mk (below_step (by repeat (first|(with_reducible first|exact HB.out|apply below_alloc|apply pw_below_drewN|apply below_drew1)|exact HB.out)) hb);clear HO5;clear HB;have HO5 := n0_;have HO8 := n1_;have HB := n2_;clear n0_ n1_ n2_;(try clear hb);(try clear hb2);(try clear hk);(try clear hi);(try clear ho0);obtain ⟨Ao19, co19, eo19⟩ := Kd.R_slice HO5.out;subst eo19;obtain ⟨Ao20, co20, eo20⟩ := Kd.R_slice HO8.out;subst eo20)|(go_at_call 79;(with_reducible refine (r1_Texts.calls k _ _ t3 _ _ t6 true _ ?side1 ?side2 ?side3 ?side4 A8.out).mono ?_);(case side1 => repeat (first|exact (Kd.R_reads' HO5.out).2.2|(with_reducible refine Kd.C_alloc ?_ _)|(with_reducible refine Kd.C_drewN ?_ _)|(with_reducible refine Kd.C_drew ?_)));(case side2 => exact (Kd.R_reads' HO5.out).2.1);(case side3 => repeat (first|exact (Kd.R_reads' HO8.out).2.2|(with_reducible refine Kd.C_alloc ?_ _)|(with_reducible refine Kd.C_drewN ?_ _)|(with_reducible refine Kd.C_drew ?_)));(case side4 => exact (Kd.R_reads' HO8.out).2.1);rintro e w' ⟨rfl, ⟨nd, rfl⟩⟩)|(go_at_call 73;(with_reducible refine (tree_Below.calls k _ _ l0 a1 t10 _ ?side1 ?side2 A10.out).mono ?_);(case side1 => repeat (first|exact (Kd.C_below HR0.out (by repeat (first|(with_reducible first|exact HB.out|apply below_alloc|apply pw_below_drewN|apply below_drew1)|exact HB.out)))|(with_reducible refine Kd.C_alloc ?_ _)|(with_reducible refine Kd.C_drewN ?_ _)|(with_reducible refine Kd.C_drew ?_)));(case side2 => exact HC0.out);rintro e w21 ⟨v11, rfl, ho0, hb⟩;have n0_ := Aside0.mk (Kd.R_elder' (by (with_reducible repeat (first|apply Kd.R_alloc|apply Kd.R_drewN|apply Kd.R_drew));exact HO5.out) (Kd.R_base ho0) hb);have n1_ := Aside0.mk (Kd.R_elder' (by (with_reducible repeat (first|apply Kd.R_alloc|apply Kd.R_drewN|apply Kd.R_drew));exact HO8.out) (Kd.R_base ho0) hb);have n2_ := Aside0.mk (Kd.R_lower (Kd.R_new' (Kd.R_new' ho0 (Kd.R_lt (by (with_reducible repeat (first|apply Kd.R_alloc|apply Kd.R_drewN|apply Kd.R_drew));exact HO5.out))) (Kd.R_lt (by (with_reducible repeat (first|apply Kd.R_alloc|apply Kd.R_drewN|apply Kd.R_drew));exact HO8.out))) (below_size (by repeat (first|(with_reducible first|exact HB.out|apply below_alloc|apply pw_below_drewN|apply below_drew1)|exact HB.out))));have n3_ := Aside0.mk (below_step (by repeat (first|(with_reducible first|exact HB.out|apply below_alloc|apply pw_below_drewN|apply below_drew1)|exact HB.out)) hb);clear HO5;clear HO8;clear HB;have HO5 := n0_;have HO8 := n1_;have HO12 := n2_;have HB := n3_;clear n0_ n1_ n2_ n3_;(try clear hb);(try clear hb2);(try clear hk);(try clear hi);(try clear ho0))|(go_at_call 75;(with_reducible refine (r10_Below.calls k _ _ l0 a1 t13 _ ?side1 ?side2 A11.out).mono ?_);(case side1 => repeat (first|exact (Kd.C_below HR0.out HB.out)|(with_reducible refine Kd.C_alloc ?_ _)|(with_reducible refine Kd.C_drewN ?_ _)|(with_reducible refine Kd.C_drew ?_)));(case side2 => exact HC0.out);rintro e w22 ⟨v14, rfl, ho0, hb⟩;have n0_ := Aside0.mk (Kd.R_elder' (by (with_reducible repeat (first|apply Kd.R_alloc|apply Kd.R_drewN|apply Kd.R_drew));exact HO5.out) (Kd.R_base ho0) hb);have n1_ := Aside0.mk (Kd.R_elder' (by (with_reducible repeat (first|apply Kd.R_alloc|apply Kd.R_drewN|apply Kd.R_drew));exact HO8.out) (Kd.R_base ho0) hb);have n2_ := Aside0.mk (Kd.R_elder' (by (with_reducible repeat (first|apply Kd.R_alloc|apply Kd.R_drewN|apply Kd.R_drew));exact HO12.out) (Kd.R_base ho0) hb);have n3_ := Aside0.mk (Kd.R_lower (Kd.R_new' (Kd.R_new' (Kd.R_new' ho0 (Kd.R_lt (by (with_reducible repeat (first|apply Kd.R_alloc|apply Kd.R_drewN|apply Kd.R_drew));exact HO5.out))) (Kd.R_lt (by (with_reducible repeat (first|apply Kd.R_alloc|apply Kd.R_drewN|apply Kd.R_drew));exact HO8.out))) (Kd.R_lt (by (with_reducible repeat (first|apply Kd.R_alloc|apply Kd.R_drewN|apply Kd.R_drew));exact HO12.out))) (below_size (by repeat (first|(with_reducible first|exact HB.out|apply below_alloc|apply pw_below_drewN|apply below_drew1)|exact HB.out))));have n4_ := Aside0.mk (below_step (by repeat (first|(with_reducible first|exact HB.out|apply below_alloc|apply pw_below_drewN|apply below_drew1)|exact HB.out)) hb);clear HO5;clear HO8;clear HO12;clear HB;have HO5 := n0_;have HO8 := n1_;have HO12 := n2_;have HO15 := n3_;have HB := n4_;clear n0_ n1_ n2_ n3_ n4_;(try clear hb);(try clear hb2);(try clear hk);(try clear hi);(try clear ho0);obtain ⟨Ao23, co23, eo23⟩ := Kd.R_slice HO12.out;subst eo23;obtain ⟨Ao24, co24, eo24⟩ := Kd.R_slice HO15.out;subst eo24)|(go_at_call 79;(with_reducible refine (r1_Texts.calls k _ _ t10 _ _ t13 true _ ?side1 ?side2 ?side3 ?side4 A12.out).mono ?_);(case side1 => repeat (first|exact (Kd.R_reads' HO12.out).2.2|(with_reducible refine Kd.C_alloc ?_ _)|(with_reducible refine Kd.C_drewN ?_ _)|(with_reducible refine Kd.C_drew ?_)));(case side2 => exact (Kd.R_reads' HO12.out).2.1);(case side3 => repeat (first|exact (Kd.R_reads' HO15.out).2.2|(with_reducible refine Kd.C_alloc ?_ _)|(with_reducible refine Kd.C_drewN ?_ _)|(with_reducible refine Kd.C_drew ?_)));(case side4 => exact (Kd.R_reads' HO15.out).2.1);rintro e w' ⟨rfl, ⟨nd, rfl⟩⟩)|(go_at_call 72;(with_reducible refine (tree_Depth.calls k _ _ l0 a1 t17 _ ?side1 ?side2 A14.out).mono ?_);(case side1 => repeat (first|exact (Kd.C_below HR0.out (by repeat (first|(with_reducible first|exact HB.out|apply below_alloc|apply pw_below_drewN|apply below_drew1)|exact HB.out)))|(with_reducible refine Kd.C_alloc ?_ _)|(with_reducible refine Kd.C_drewN ?_ _)|(with_reducible refine Kd.C_drew ?_)));(case side2 => exact HC0.out);rintro e w25 ⟨rfl, hb⟩;have n0_ := Aside0.mk (Kd.R_below (by (with_reducible repeat (first|apply Kd.R_alloc|apply Kd.R_drewN|apply Kd.R_drew));exact HO5.out) hb);have n1_ := Aside0.mk (Kd.R_below (by (with_reducible repeat (first|apply Kd.R_alloc|apply Kd.R_drewN|apply Kd.R_drew));exact HO8.out) hb);have n2_ := Aside0.mk (Kd.R_below (by (with_reducible repeat (first|apply Kd.R_alloc|apply Kd.R_drewN|apply Kd.R_drew));exact HO12.out) hb);have n3_ := Aside0.mk (Kd.R_below (by (with_reducible repeat (first|apply Kd.R_alloc|apply Kd.R_drewN|apply Kd.R_drew));exact HO15.out) hb);have n4_ := Aside0.mk (below_step (by repeat (first|(with_reducible first|exact HB.out|apply below_alloc|apply pw_below_drewN|apply below_drew1)|exact HB.out)) hb);clear HO5;clear HO8;clear HO12;clear HO15;clear HB;have HO5 := n0_;have HO8 := n1_;have HO12 := n2_;have HO15 := n3_;have HB := n4_;clear n0_ n1_ n2_ n3_ n4_;(try clear hb);(try clear hb2);(try clear hk);(try clear hi)))
    go_ret
    exact ⟨by first|rfl|(simp [errW_none, errW_some] <;> rfl)|(simp [*, errW_none, errW_some] <;> rfl), by repeat (first|(with_reducible first|exact HB.out|apply below_alloc|apply pw_below_drewN|apply below_drew1)|exact HB.out)⟩
   ·replace c13 := Bool.eq_false_iff.mpr c13
    subst c13
    have H1 : (some false) = some r := by rw [if_neg (show ¬ (false = true) by decide)] at H; exact H
    clear H
    have H := H1
    clear H1
    obtain rfl := Option.some.inj H
    go_enter Try.func69, Try.ntmps69
    go_wp2_with (first|((with_reducible refine gate_callee (f := 71) rfl ?_);refine goesL_ (some 7) rfl rfl Try.func71 (by kernel_rfl) rfl #[.slice A0 l0.length c0, .string a1] rfl (by (try simp only [List.map_toArray, List.map_cons, List.map_nil]);first|done|rfl|(simp only [List.length_drop, List.length_take];rfl)) ?_;(with_reducible refine (tree_Find.calls _ _ l0 a1 t1 _ ?side1 ?side2 A3.out).mono ?_);(case side1 => repeat (first|exact HR0.out|(with_reducible refine Kd.C_alloc ?_ _)|(with_reducible refine Kd.C_drewN ?_ _)|(with_reducible refine Kd.C_drew ?_)));(case side2 => exact HC0.out);rintro e w28 ⟨rfl, hb⟩;refine ⟨_, rfl, ?_⟩;have n0_ := Aside0.mk (below_step (by repeat (first|(with_reducible first|exact HB.out|apply below_alloc|apply pw_below_drewN|apply below_drew1)|exact HB.out)) hb);clear HB;have HB := n0_;clear n0_;(try clear hb);(try clear hb2);(try clear hk);(try clear hi))|((with_reducible refine gate_callee (f := 50) rfl ?_);refine goesL_ (some 10) rfl rfl Try.func50 (by kernel_rfl) rfl #[.slice A0 l0.length c0, .string a1] rfl (by (try simp only [List.map_toArray, List.map_cons, List.map_nil]);first|done|rfl|(simp only [List.length_drop, List.length_take];rfl)) ?_;(with_reducible refine (r10_Find.calls k _ _ l0 a1 t2 _ ?side1 ?side2 A4.out).mono ?_);(case side1 => repeat (first|exact (Kd.C_below HR0.out HB.out)|(with_reducible refine Kd.C_alloc ?_ _)|(with_reducible refine Kd.C_drewN ?_ _)|(with_reducible refine Kd.C_drew ?_)));(case side2 => exact HC0.out);rintro e w' ⟨rfl, ⟨nd, rfl⟩⟩;refine ⟨_, rfl, ?_⟩)|(go_at_call 70;(with_reducible refine (tree_Up.calls k _ _ l0 a1 t3 _ ?side1 ?side2 A6.out).mono ?_);(case side1 => repeat (first|exact (Kd.C_below HR0.out (by repeat (first|(with_reducible first|exact HB.out|apply below_alloc|apply pw_below_drewN|apply below_drew1)|exact HB.out)))|(with_reducible refine Kd.C_alloc ?_ _)|(with_reducible refine Kd.C_drewN ?_ _)|(with_reducible refine Kd.C_drew ?_)));(case side2 => exact HC0.out);rintro e w29 ⟨v4, rfl, ho0, hb⟩;have n0_ := Aside0.mk (Kd.R_lower ho0 (below_size (by repeat (first|(with_reducible first|exact HB.out|apply below_alloc|apply pw_below_drewN|apply below_drew1)|exact HB.out))));have n1_ := Aside0.mk (below_step (by repeat (first|(with_reducible first|exact HB.out|apply below_alloc|apply pw_below_drewN|apply below_drew1)|exact HB.out)) hb);clear HB;have HO5 := n0_;have HB := n1_;clear n0_ n1_;(try clear hb);(try clear hb2);(try clear hk);(try clear hi);(try clear ho0))|(go_at_call 106;(with_reducible refine (r10_Up.calls k _ _ l0 a1 t6 _ ?side1 ?side2 A7.out).mono ?_);(case side1 => repeat (first|exact (Kd.C_below HR0.out HB.out)|(with_reducible refine Kd.C_alloc ?_ _)|(with_reducible refine Kd.C_drewN ?_ _)|(with_reducible refine Kd.C_drew ?_)));(case side2 => exact HC0.out);rintro e w30 ⟨v7, rfl, ho0, hb⟩;have n0_ := Aside0.mk (Kd.R_elder' (by (with_reducible repeat (first|apply Kd.R_alloc|apply Kd.R_drewN|apply Kd.R_drew));exact HO5.out) (Kd.R_base ho0) hb);have n1_ := Aside0.mk (Kd.R_lower (Kd.R_new' ho0 (Kd.R_lt (by (with_reducible repeat (first|apply Kd.R_alloc|apply Kd.R_drewN|apply Kd.R_drew));exact HO5.out))) (below_size (by repeat (first|(with_reducible first|exact HB.out|apply below_alloc|apply pw_below_drewN|apply below_drew1)|exact HB.out))));have n2_ := Aside0.mk (below_step (by repeat (first|(with_reducible first|exact HB.out|apply below_alloc|apply pw_below_drewN|apply below_drew1)|exact HB.out)) hb);clear HO5;clear HB;have HO5 := n0_;have HO8 := n1_;have HB := n2_;clear n0_ n1_ n2_;(try clear hb);(try clear hb2);(try clear hk);(try clear hi);(try clear ho0);obtain ⟨Ao31, co31, eo31⟩ := Kd.R_slice HO5.out;subst eo31;obtain ⟨Ao32, co32, eo32⟩ := Kd.R_slice HO8.out;subst eo32)|(go_at_call 79;(with_reducible refine (r1_Texts.calls k _ _ t3 _ _ t6 true _ ?side1 ?side2 ?side3 ?side4 A8.out).mono ?_);(case side1 => repeat (first|exact (Kd.R_reads' HO5.out).2.2|(with_reducible refine Kd.C_alloc ?_ _)|(with_reducible refine Kd.C_drewN ?_ _)|(with_reducible refine Kd.C_drew ?_)));(case side2 => exact (Kd.R_reads' HO5.out).2.1);(case side3 => repeat (first|exact (Kd.R_reads' HO8.out).2.2|(with_reducible refine Kd.C_alloc ?_ _)|(with_reducible refine Kd.C_drewN ?_ _)|(with_reducible refine Kd.C_drew ?_)));(case side4 => exact (Kd.R_reads' HO8.out).2.1);rintro e w' ⟨rfl, ⟨nd, rfl⟩⟩)|(go_at_call 73;(with_reducible refine (tree_Below.calls k _ _ l0 a1 t10 _ ?side1 ?side2 A10.out).mono ?_);(case side1 => repeat (first|exact (Kd.C_below HR0.out (by repeat (first|(with_reducible first|exact HB.out|apply below_alloc|apply pw_below_drewN|apply below_drew1)|exact HB.out)))|(with_reducible refine Kd.C_alloc ?_ _)|(with_reducible refine Kd.C_drewN ?_ _)|(with_reducible refine Kd.C_drew ?_)));(case side2 => exact HC0.out);rintro e w33 ⟨v11, rfl, ho0, hb⟩;have n0_ := Aside0.mk (Kd.R_elder' (by (with_reducible repeat (first|apply Kd.R_alloc|apply Kd.R_drewN|apply Kd.R_drew));exact HO5.out) (Kd.R_base ho0) hb);have n1_ := Aside0.mk (Kd.R_elder' (by (with_reducible repeat (first|apply Kd.R_alloc|apply Kd.R_drewN|apply Kd.R_drew));exact HO8.out) (Kd.R_base ho0) hb);have n2_ := Aside0.mk (Kd.R_lower (Kd.R_new' (Kd.R_new' ho0 (Kd.R_lt (by (with_reducible repeat (first|apply Kd.R_alloc|apply Kd.R_drewN|apply Kd.R_drew));exact HO5.out))) (Kd.R_lt (by (with_reducible repeat (first|apply Kd.R_alloc|apply Kd.R_drewN|apply Kd.R_drew));exact HO8.out))) (below_size (by repeat (first|(with_reducible first|exact HB.out|apply below_alloc|apply pw_below_drewN|apply below_drew1)|exact HB.out))));have n3_ := Aside0.mk (below_step (by repeat (first|(with_reducible first|exact HB.out|apply below_alloc|apply pw_below_drewN|apply below_drew1)|exact HB.out)) hb);clear HO5;clear HO8;clear HB;have HO5 := n0_;have HO8 := n1_;have HO12 := n2_;have HB := n3_;clear n0_ n1_ n2_ n3_;(try clear hb);(try clear hb2);(try clear hk);(try clear hi);(try clear ho0))|(go_at_call 75;(with_reducible refine (r10_Below.calls k _ _ l0 a1 t13 _ ?side1 ?side2 A11.out).mono ?_);(case side1 => repeat (first|exact (Kd.C_below HR0.out HB.out)|(with_reducible refine Kd.C_alloc ?_ _)|(with_reducible refine Kd.C_drewN ?_ _)|(with_reducible refine Kd.C_drew ?_)));(case side2 => exact HC0.out);rintro e w34 ⟨v14, rfl, ho0, hb⟩;have n0_ := Aside0.mk (Kd.R_elder' (by (with_reducible repeat (first|apply Kd.R_alloc|apply Kd.R_drewN|apply Kd.R_drew));exact HO5.out) (Kd.R_base ho0) hb);have n1_ := Aside0.mk (Kd.R_elder' (by (with_reducible repeat (first|apply Kd.R_alloc|apply Kd.R_drewN|apply Kd.R_drew));exact HO8.out) (Kd.R_base ho0) hb);have n2_ := Aside0.mk (Kd.R_elder' (by (with_reducible repeat (first|apply Kd.R_alloc|apply Kd.R_drewN|apply Kd.R_drew));exact HO12.out) (Kd.R_base ho0) hb);have n3_ := Aside0.mk (Kd.R_lower (Kd.R_new' (Kd.R_new' (Kd.R_new' ho0 (Kd.R_lt (by (with_reducible repeat (first|apply Kd.R_alloc|apply Kd.R_drewN|apply Kd.R_drew));exact HO5.out))) (Kd.R_lt (by (with_reducible repeat (first|apply Kd.R_alloc|apply Kd.R_drewN|apply Kd.R_drew));exact HO8.out))) (Kd.R_lt (by (with_reducible repeat (first|apply Kd.R_alloc|apply Kd.R_drewN|apply Kd.R_drew));exact HO12.out))) (below_size (by repeat (first|(with_reducible first|exact HB.out|apply below_alloc|apply pw_below_drewN|apply below_drew1)|exact HB.out))));have n4_ := Aside0.mk (below_step (by repeat (first|(with_reducible first|exact HB.out|apply below_alloc|apply pw_below_drewN|apply below_drew1)|exact HB.out)) hb);clear HO5;clear HO8;clear HO12;clear HB;have HO5 := n0_;have HO8 := n1_;have HO12 := n2_;have HO15 := n3_;have HB := n4_;clear n0_ n1_ n2_ n3_ n4_;(try clear hb);(try clear hb2);(try clear hk);(try clear hi);(try clear ho0);obtain ⟨Ao35, co35, eo35⟩ := Kd.R_slice HO12.out;subst eo35;obtain ⟨Ao36, co36, eo36⟩ := Kd.R_slice HO15.out;subst eo36)|(go_at_call 79;(with_reducible refine (r1_Texts.calls k _ _ t10 _ _ t13 false _ ?side1 ?side2 ?side3 ?side4 A12.out).mono ?_);(case side1 => repeat (first|exact (Kd.R_reads' HO12.out).2.2|(with_reducible refine Kd.C_alloc ?_ _)|(with_reducible refine Kd.C_drewN ?_ _)|(with_reducible refine Kd.C_drew ?_)));(case side2 => exact (Kd.R_reads' HO12.out).2.1);(case side3 => repeat (first|exact (Kd.R_reads' HO15.out).2.2|(with_reducible refine Kd.C_alloc ?_ _)|(with_reducible refine Kd.C_drewN ?_ _)|(with_reducible refine Kd.C_drew ?_)));(case side4 => exact (Kd.R_reads' HO15.out).2.1);rintro e w' ⟨rfl, ⟨nd, rfl⟩⟩))
    go_ret
    exact ⟨by first|rfl|(simp [errW_none, errW_some] <;> rfl)|(simp [*, errW_none, errW_some] <;> rfl), by repeat (first|(with_reducible first|exact HB.out|apply below_alloc|apply pw_below_drewN|apply below_drew1)|exact HB.out)⟩
  ·replace c9 := Bool.eq_false_iff.mpr c9
   subst c9
   have H1 : (some false) = some r := by rw [if_neg (show ¬ (false = true) by decide)] at H; exact H
   clear H
   have H := H1
   clear H1
   obtain rfl := Option.some.inj H
   go_enter Try.func69, Try.ntmps69
   go_wp2_with (first|((with_reducible refine gate_callee (f := 71) rfl ?_);refine goesL_ (some 7) rfl rfl Try.func71 (by kernel_rfl) rfl #[.slice A0 l0.length c0, .string a1] rfl (by (try simp only [List.map_toArray, List.map_cons, List.map_nil]);first|done|rfl|(simp only [List.length_drop, List.length_take];rfl)) ?_;(with_reducible refine (tree_Find.calls _ _ l0 a1 t1 _ ?side1 ?side2 A3.out).mono ?_);(case side1 => repeat (first|exact HR0.out|(with_reducible refine Kd.C_alloc ?_ _)|(with_reducible refine Kd.C_drewN ?_ _)|(with_reducible refine Kd.C_drew ?_)));(case side2 => exact HC0.out);rintro e w37 ⟨rfl, hb⟩;refine ⟨_, rfl, ?_⟩;have n0_ := Aside0.mk (below_step (by repeat (first|(with_reducible first|exact HB.out|apply below_alloc|apply pw_below_drewN|apply below_drew1)|exact HB.out)) hb);clear HB;have HB := n0_;clear n0_;(try clear hb);(try clear hb2);(try clear hk);(try clear hi))|((with_reducible refine gate_callee (f := 50) rfl ?_);refine goesL_ (some 10) rfl rfl Try.func50 (by kernel_rfl) rfl #[.slice A0 l0.length c0, .string a1] rfl (by (try simp only [List.map_toArray, List.map_cons, List.map_nil]);first|done|rfl|(simp only [List.length_drop, List.length_take];rfl)) ?_;(with_reducible refine (r10_Find.calls k _ _ l0 a1 t2 _ ?side1 ?side2 A4.out).mono ?_);(case side1 => repeat (first|exact (Kd.C_below HR0.out HB.out)|(with_reducible refine Kd.C_alloc ?_ _)|(with_reducible refine Kd.C_drewN ?_ _)|(with_reducible refine Kd.C_drew ?_)));(case side2 => exact HC0.out);rintro e w' ⟨rfl, ⟨nd, rfl⟩⟩;refine ⟨_, rfl, ?_⟩)|(go_at_call 70;(with_reducible refine (tree_Up.calls k _ _ l0 a1 t3 _ ?side1 ?side2 A6.out).mono ?_);(case side1 => repeat (first|exact (Kd.C_below HR0.out (by repeat (first|(with_reducible first|exact HB.out|apply below_alloc|apply pw_below_drewN|apply below_drew1)|exact HB.out)))|(with_reducible refine Kd.C_alloc ?_ _)|(with_reducible refine Kd.C_drewN ?_ _)|(with_reducible refine Kd.C_drew ?_)));(case side2 => exact HC0.out);rintro e w38 ⟨v4, rfl, ho0, hb⟩;have n0_ := Aside0.mk (Kd.R_lower ho0 (below_size (by repeat (first|(with_reducible first|exact HB.out|apply below_alloc|apply pw_below_drewN|apply below_drew1)|exact HB.out))));have n1_ := Aside0.mk (below_step (by repeat (first|(with_reducible first|exact HB.out|apply below_alloc|apply pw_below_drewN|apply below_drew1)|exact HB.out)) hb);clear HB;have HO5 := n0_;have HB := n1_;clear n0_ n1_;(try clear hb);(try clear hb2);(try clear hk);(try clear hi);(try clear ho0))|(go_at_call 106;(with_reducible refine (r10_Up.calls k _ _ l0 a1 t6 _ ?side1 ?side2 A7.out).mono ?_);(case side1 => repeat (first|exact (Kd.C_below HR0.out HB.out)|(with_reducible refine Kd.C_alloc ?_ _)|(with_reducible refine Kd.C_drewN ?_ _)|(with_reducible refine Kd.C_drew ?_)));(case side2 => exact HC0.out);rintro e w39 ⟨v7, rfl, ho0, hb⟩;have n0_ := Aside0.mk (Kd.R_elder' (by (with_reducible repeat (first|apply Kd.R_alloc|apply Kd.R_drewN|apply Kd.R_drew));exact HO5.out) (Kd.R_base ho0) hb);have n1_ := Aside0.mk (Kd.R_lower (Kd.R_new' ho0 (Kd.R_lt (by (with_reducible repeat (first|apply Kd.R_alloc|apply Kd.R_drewN|apply Kd.R_drew));exact HO5.out))) (below_size (by repeat (first|(with_reducible first|exact HB.out|apply below_alloc|apply pw_below_drewN|apply below_drew1)|exact HB.out))));have n2_ := Aside0.mk (below_step (by repeat (first|(with_reducible first|exact HB.out|apply below_alloc|apply pw_below_drewN|apply below_drew1)|exact HB.out)) hb);clear HO5;clear HB;have HO5 := n0_;have HO8 := n1_;have HB := n2_;clear n0_ n1_ n2_;(try clear hb);(try clear hb2);(try clear hk);(try clear hi);(try clear ho0);obtain ⟨Ao40, co40, eo40⟩ := Kd.R_slice HO5.out;subst eo40;obtain ⟨Ao41, co41, eo41⟩ := Kd.R_slice HO8.out;subst eo41)|(go_at_call 79;(with_reducible refine (r1_Texts.calls k _ _ t3 _ _ t6 false _ ?side1 ?side2 ?side3 ?side4 A8.out).mono ?_);(case side1 => repeat (first|exact (Kd.R_reads' HO5.out).2.2|(with_reducible refine Kd.C_alloc ?_ _)|(with_reducible refine Kd.C_drewN ?_ _)|(with_reducible refine Kd.C_drew ?_)));(case side2 => exact (Kd.R_reads' HO5.out).2.1);(case side3 => repeat (first|exact (Kd.R_reads' HO8.out).2.2|(with_reducible refine Kd.C_alloc ?_ _)|(with_reducible refine Kd.C_drewN ?_ _)|(with_reducible refine Kd.C_drew ?_)));(case side4 => exact (Kd.R_reads' HO8.out).2.1);rintro e w' ⟨rfl, ⟨nd, rfl⟩⟩))
   go_ret
   exact ⟨by first|rfl|(simp [errW_none, errW_some] <;> rfl)|(simp [*, errW_none, errW_some] <;> rfl), by repeat (first|(with_reducible first|exact HB.out|apply below_alloc|apply pw_below_drewN|apply below_drew1)|exact HB.out)⟩
 ·rw [if_neg c5] at H
  have c5b0 : (t1 == t2) = false := beq_eq_false_iff_ne.mpr c5
  have c5b1 : (t1 != t2) = true := bne_iff_ne.mpr c5
  obtain rfl := Option.some.inj H
  go_enter Try.func69, Try.ntmps69
  go_wp2_with (first|((with_reducible refine gate_callee (f := 71) rfl ?_);refine goesL_ (some 7) rfl rfl Try.func71 (by kernel_rfl) rfl #[.slice A0 l0.length c0, .string a1] rfl (by (try simp only [List.map_toArray, List.map_cons, List.map_nil]);first|done|rfl|(simp only [List.length_drop, List.length_take];rfl)) ?_;(with_reducible refine (tree_Find.calls _ _ l0 a1 t1 _ ?side1 ?side2 A3.out).mono ?_);(case side1 => repeat (first|exact HR0.out|(with_reducible refine Kd.C_alloc ?_ _)|(with_reducible refine Kd.C_drewN ?_ _)|(with_reducible refine Kd.C_drew ?_)));(case side2 => exact HC0.out);rintro e w42 ⟨rfl, hb⟩;refine ⟨_, rfl, ?_⟩;have n0_ := Aside0.mk (below_step (by repeat (first|(with_reducible first|exact HB.out|apply below_alloc|apply pw_below_drewN|apply below_drew1)|exact HB.out)) hb);clear HB;have HB := n0_;clear n0_;(try clear hb);(try clear hb2);(try clear hk);(try clear hi))|((with_reducible refine gate_callee (f := 50) rfl ?_);refine goesL_ (some 10) rfl rfl Try.func50 (by kernel_rfl) rfl #[.slice A0 l0.length c0, .string a1] rfl (by (try simp only [List.map_toArray, List.map_cons, List.map_nil]);first|done|rfl|(simp only [List.length_drop, List.length_take];rfl)) ?_;(with_reducible refine (r10_Find.calls k _ _ l0 a1 t2 _ ?side1 ?side2 A4.out).mono ?_);(case side1 => repeat (first|exact (Kd.C_below HR0.out HB.out)|(with_reducible refine Kd.C_alloc ?_ _)|(with_reducible refine Kd.C_drewN ?_ _)|(with_reducible refine Kd.C_drew ?_)));(case side2 => exact HC0.out);rintro e w' ⟨rfl, ⟨nd, rfl⟩⟩;refine ⟨_, rfl, ?_⟩))
  go_ret
  exact ⟨by first|rfl|(simp [errW_none, errW_some] <;> rfl)|(simp [*, errW_none, errW_some] <;> rfl), by repeat (first|(with_reducible first|exact HB.out|apply below_alloc|apply pw_below_drewN|apply below_drew1)|exact HB.out)⟩
end Go.Proofs.Ytcgefpklljclgaa.Print

namespace Go.Proofs.Ytcgefpklljclgaa.Print
open Go.RowKit Go.Proofs.YtcgefpklljclgaaW.PrintWords Go.Proofs.YtcgefpklljclgaaW.PrintLast Go.Proofs.YtcgefpklljclgaaW.PrintMore
attribute [local go_sem] max2_int min2_int max_two min_two max_three min_three max_four min_four   -- for this text's walks alone
set_option linter.unusedVariables false
set_option linter.unusedSimpArgs false
/-! ### law12_TreeAll: function 11 -/
/-- the law, where it answers true -/
def law12_TreeAll.f (k : Nat) (l0 : List S31) (a1 : ByteArray) : Option Bool :=
  (law12_Great.f k l0).bind fun g => if g = true then law12_awake.f k else if (a1.size : Int) > 100 then law12_awake.f k else
    (tree_Right.f k l0).bind fun p => (r10_Right.f k l0).bind fun q => if p = q then (if q = true then ((law12_same.f k l0 a1).bind fun s => if s = true then law12_awake.f k else none) else some true) else none
set_option maxHeartbeats 4000000 in
set_option maxRecDepth 100000 in
theorem law12_TreeAll.calls (k : Nat) (A0 : Option Addr) (c0 : Nat) (l0 : List S31) (a1 : ByteArray) (w : World) (hr0 : Kd.C k31 w A0 l0.length l0) (hc0 : l0.length ≤ c0) (h : law12_TreeAll.f k l0 a1 = some true) :
    Calls Try.prog 11 #[.slice A0 l0.length c0, .string a1] w fun e w' => e = .returned (.bool true) ∧ Below w.heap.size w w' := by
  unfold law12_TreeAll.f at h
  obtain ⟨g, hg, h⟩ := Option.bind_eq_some_iff.1 h
  have HR0 := Aside0.mk hr0
  have HC0 := Aside0.mk hc0
  have HB := Aside0.mk (Below.refl w.heap.size w)
  have HG := Aside0.mk (fun (W : World) (hb : Below w.heap.size w W) => law12_Great.calls k A0 c0 l0 g W (Kd.C_below hr0 hb) hc0 hg)
  have HAW := Aside0.mk (fun (W : World) (ha : law12_awake.f k = some true) => law12_awake.calls k true W ha)
  clear hr0 hc0 hg
  cases g with
  | true =>
    have HA := Aside0.mk ((if_pos rfl).symm.trans h)
    clear h
    go_enter Try.func11, Try.ntmps11
    go_wp2_with (first
      | (go_at_call 36; refine (HG.out _ HB.out).mono ?_; rintro e w1 ⟨rfl, hd⟩; have hb := hd.below; clear hd; have HB1 := Aside0.mk (below_step HB.out hb); clear hb)
      | (go_at_call 67; refine (HAW.out _ HA.out).mono ?_; rintro e w2 ⟨rfl, hb⟩; have HB2 := Aside0.mk (below_step HB1.out hb); clear hb))
    go_ret
    exact ⟨rfl, HB2.out⟩
  | false =>
    replace h := (if_neg Bool.false_ne_true).symm.trans h
    by_cases hs : (a1.size : Int) > 100
    · have HA := Aside0.mk ((if_pos hs).symm.trans h)
      have c0b : decide (100 < (a1.size : Int)) = true := decide_eq_true hs
      have c1b : decide (100 < a1.size) = true := decide_eq_true (by omega)
      clear h hs
      go_enter Try.func11, Try.ntmps11
      go_wp2_with (first
        | (go_at_call 36; refine (HG.out _ HB.out).mono ?_; rintro e w1 ⟨rfl, hd⟩; have hb := hd.below; clear hd; have HB1 := Aside0.mk (below_step HB.out hb); clear hb)
        | (go_at_call 67; refine (HAW.out _ HA.out).mono ?_; rintro e w2 ⟨rfl, hb⟩; have HB2 := Aside0.mk (below_step HB1.out hb); clear hb))
      go_ret
      exact ⟨rfl, HB2.out⟩
    replace h := (if_neg hs).symm.trans h
    have c0b : decide (100 < (a1.size : Int)) = false := decide_eq_false hs
    have c1b : decide (100 < a1.size) = false := decide_eq_false (by omega)
    clear hs
    obtain ⟨p, hp, h⟩ := Option.bind_eq_some_iff.1 h
    obtain ⟨q, hq, h⟩ := Option.bind_eq_some_iff.1 h
    by_cases hpq : p = q
    case neg => rw [if_neg hpq] at h; cases h
    rw [if_pos hpq] at h
    subst hpq
    have HP := Aside0.mk hp
    have HQ := Aside0.mk hq
    clear hp hq
    cases p with
    | false =>
      clear h
      go_enter Try.func11, Try.ntmps11
      go_wp2_with (first
        | (go_at_call 36; refine (HG.out _ HB.out).mono ?_; rintro e w1 ⟨rfl, hd⟩; have hb := hd.below; clear hd; have HB1 := Aside0.mk (below_step HB.out hb); clear hb)
        | (go_at_call 68; refine (tree_Right.calls k _ _ l0 false _ (Kd.C_below HR0.out HB1.out) HC0.out HP.out).mono ?_; rintro e w2 ⟨rfl, hb⟩; have HB2 := Aside0.mk (below_step HB1.out hb); clear hb HP)
        | (go_at_call 41; refine (r10_Right.calls k _ _ l0 false _ (Kd.C_below HR0.out HB3.out) HC0.out HQ.out).mono ?_; rintro e w4 ⟨rfl, hb⟩; have HB4 := Aside0.mk (below_step HB3.out hb); clear hb)
        | (go_at_call 41; refine (r10_Right.calls k _ _ l0 false _ (Kd.C_below HR0.out HB2.out) HC0.out HQ.out).mono ?_; rintro e w3 ⟨rfl, hb⟩; have HB3 := Aside0.mk (below_step HB2.out hb); clear hb))
      go_ret
      exact ⟨rfl, HB4.out⟩
    | true =>
      replace h := (if_pos rfl).symm.trans h
      obtain ⟨s, hs, h⟩ := Option.bind_eq_some_iff.1 h
      by_cases hs1 : s = true
      case neg => rw [if_neg hs1] at h; cases h
      rw [if_pos hs1] at h
      subst hs1
      have HS := Aside0.mk hs
      have HA := Aside0.mk h
      clear hs h
      go_enter Try.func11, Try.ntmps11
      go_wp2_with (first
        | (go_at_call 36; refine (HG.out _ HB.out).mono ?_; rintro e w1 ⟨rfl, hd⟩; have hb := hd.below; clear hd; have HB1 := Aside0.mk (below_step HB.out hb); clear hb)
        | (go_at_call 68; refine (tree_Right.calls k _ _ l0 true _ (Kd.C_below HR0.out HB1.out) HC0.out HP.out).mono ?_; rintro e w2 ⟨rfl, hb⟩; have HB2 := Aside0.mk (below_step HB1.out hb); clear hb HP)
        | (go_at_call 41; refine (r10_Right.calls k _ _ l0 true _ (Kd.C_below HR0.out HB3.out) HC0.out HQ.out).mono ?_; rintro e w4 ⟨rfl, hb⟩; have HB4 := Aside0.mk (below_step HB3.out hb); clear hb)
        | (go_at_call 41; refine (r10_Right.calls k _ _ l0 true _ (Kd.C_below HR0.out HB2.out) HC0.out HQ.out).mono ?_; rintro e w3 ⟨rfl, hb⟩; have HB3 := Aside0.mk (below_step HB2.out hb); clear hb)
        | (go_at_call 69; refine (law12_same.calls k _ _ l0 a1 true _ (Kd.C_below HR0.out HB4.out) HC0.out HS.out).mono ?_; rintro e w5 ⟨rfl, hb⟩; have HB5 := Aside0.mk (below_step HB4.out hb); clear hb)
        | (go_at_call 67; refine (HAW.out _ HA.out).mono ?_; rintro e w6 ⟨rfl, hb⟩; have HB6 := Aside0.mk (below_step HB5.out hb); clear hb))
      go_ret
      exact ⟨rfl, HB6.out⟩
end Go.Proofs.Ytcgefpklljclgaa.Print

namespace Go.Proofs.Ytcgefpklljclgaa.Print
open Go.RowKit Go.Proofs.YtcgefpklljclgaaW.PrintWords Go.Proofs.YtcgefpklljclgaaW.PrintLast
set_option linter.unusedVariables false
set_option linter.unusedSimpArgs false
abbrev Item := S31
abbrev Vec := S27
abbrev zItem : Item := z31
theorem rd_item (l : List Item) (i : Int) : rd_T31 l i = l.getD i.toNat zItem := rfl
instance baLawful : LawfulBEq ByteArray where
  eq_of_beq {a b} h := by
    obtain ⟨a⟩ := a
    obtain ⟨b⟩ := b
    have : (a == b) = true := h
    rw [eq_of_beq this]
  rfl {a} := by
    obtain ⟨a⟩ := a
    show (a == a) = true
    exact beq_self_eq_true a
/-- a name is its bytes -/
theorem nm_inj {a b : ByteArray} : a.toList = b.toList ↔ a = b := by
  constructor
  · intro h
    rw [ByteArray.toList_eq, ByteArray.toList_eq] at h
    exact ByteArray.ext (Array.toList_inj.1 h)
  · rintro rfl; rfl
theorem nm_beq (a b : ByteArray) : (a.toList == b.toList) = decide (a = b) := by
  rw [Bool.eq_iff_iff, beq_iff_eq, nm_inj, decide_eq_true_iff]
theorem nm_empty {a : ByteArray} : a.toList = ([] : List UInt8) ↔ a = ⟨#[]⟩ := by
  rw [← nm_inj]; rw [show (ByteArray.mk #[]).toList = [] from by rw [ByteArray.toList_eq]]
theorem w64 {n : Int} (h0 : -9223372036854775808 ≤ n) (h1 : n ≤ 9223372036854775807) : wrap64 n = n := by unfold wrap64; omega
/-! the place of a name -/
def look (l : List Item) (n : ByteArray) : Option Item := l.find? (fun x => x.f0 = n)
def fnd (l : List Item) (n : ByteArray) : Int := fidx (fun x : Item => x.f0.toList == n.toList) l 0
theorem fidx_none {α : Type} {p : α → Bool} : ∀ {l : List α} {i : Int}, (∀ x ∈ l, p x = false) → fidx p l i = -1
  | [], _, _ => rfl
  | x :: l, i, h => by
    unfold fidx
    rw [if_neg (by rw [h x (by simp)]; simp)]
    exact fidx_none (fun y hy => h y (by simp [hy]))
theorem fidx_some {α : Type} {p : α → Bool} (z : α) : ∀ {l : List α} {i : Int} {x : α}, l.find? p = some x → ∃ j : Nat, j < l.length ∧ fidx p l i = i + j ∧ l.getD j z = x ∧ p x = true ∧ ∀ m, m < j → p (l.getD m z) = false
  | [], _, _, h => by simp at h
  | y :: l, i, x, h => by
    unfold fidx
    by_cases hy : p y = true
    · rw [if_pos hy]
      simp only [List.find?_cons, hy] at h
      obtain rfl := Option.some.inj h
      exact ⟨0, by simp, by simp, by simp, hy, fun m hm => by omega⟩
    · rw [if_neg hy]
      have hy' : p y = false := by simpa using hy
      simp only [List.find?_cons, hy'] at h
      obtain ⟨j, hj, h1, h2, h3, h4⟩ := fidx_some z (i := i + 1) h
      refine ⟨j + 1, by simp; omega, by rw [h1]; omega, by simpa using h2, h3, fun m hm => ?_⟩
      cases m with
      | zero => simpa using hy'
      | succ m => simpa using h4 m (by omega)
theorem look_pred (n : ByteArray) : (fun x : Item => x.f0.toList == n.toList) = (fun x : Item => decide (x.f0 = n)) := by
  funext x; exact nm_beq _ _
theorem look_mem {l : List Item} {n : ByteArray} {x : Item} (h : look l n = some x) : x ∈ l ∧ x.f0 = n := by
  unfold look at h
  exact ⟨List.mem_of_find?_eq_some h, by simpa using List.find?_some h⟩
theorem look_none {l : List Item} {n : ByteArray} : look l n = none ↔ ∀ x ∈ l, x.f0 ≠ n := by
  unfold look
  simp
theorem fnd_none {l : List Item} {n : ByteArray} (h : look l n = none) : fnd l n = -1 := by
  unfold fnd
  refine fidx_none fun x hx => ?_
  rw [nm_beq]
  simpa using look_none.1 h x hx
theorem fnd_some {l : List Item} {n : ByteArray} {x : Item} (h : look l n = some x) : ∃ j : Nat, j < l.length ∧ fnd l n = j ∧ l.getD j zItem = x ∧ x.f0 = n ∧ ∀ m, m < j → (l.getD m zItem).f0 ≠ n := by
  have h' : l.find? (fun x : Item => x.f0.toList == n.toList) = some x := by rw [look_pred]; exact h
  obtain ⟨j, h1, h2, h3, h4, h5⟩ := fidx_some zItem (i := 0) h'
  refine ⟨j, h1, by unfold fnd; rw [h2]; omega, h3, by simpa [nm_beq] using h4, fun m hm => ?_⟩
  simpa [nm_beq] using h5 m hm
theorem fnd_lt (l : List Item) (n : ByteArray) : fnd l n < l.length := by
  cases h : look l n with
  | none => rw [fnd_none h]; omega
  | some x => obtain ⟨j, h1, h2, _⟩ := fnd_some h; omega
theorem fnd_neg {l : List Item} {n : ByteArray} : fnd l n < 0 ↔ look l n = none := by
  cases h : look l n with
  | none => rw [fnd_none h]; simp
  | some x => obtain ⟨j, h1, h2, _⟩ := fnd_some h; simp; omega
theorem fnd_ge {l : List Item} {n : ByteArray} : 0 ≤ fnd l n ↔ ∃ x, look l n = some x := by
  cases h : look l n with
  | none => rw [fnd_none h]; simp
  | some x => obtain ⟨j, h1, h2, _⟩ := fnd_some h; simp; omega
theorem fnd_rd {l : List Item} {n : ByteArray} {x : Item} (h : look l n = some x) : rd_T31 l (fnd l n) = x := by
  obtain ⟨j, h1, h2, h3, _⟩ := fnd_some h
  rw [rd_item, h2, Int.toNat_natCast]; exact h3
theorem tree_Find_eq (l : List Item) (n : ByteArray) : tree_Find.f l n = some (fnd l n) := rfl
/-! the way up -/
inductive Chain (l : List Item) : ByteArray → List ByteArray → Prop where
  | nil {n : ByteArray} : look l n = none → Chain l n []
  | cons {n : ByteArray} {x : Item} {us : List ByteArray} : look l n = some x → Chain l x.f1 us → Chain l n (n :: us)
def upGo (l : List Item) : Nat → ByteArray → List ByteArray
  | 0, _ => []
  | m + 1, n => match look l n with
    | none => []
    | some x => n :: upGo l m x.f1
def up (l : List Item) (n : ByteArray) : List ByteArray := upGo l (l.length + 1) n
theorem upGo_len (l : List Item) : ∀ (m : Nat) (n : ByteArray), (upGo l m n).length ≤ m
  | 0, _ => by simp [upGo]
  | m + 1, n => by
    unfold upGo
    cases look l n with
    | none => simp
    | some x => have := upGo_len l m x.f1; simp; omega
theorem up_len (l : List Item) (n : ByteArray) : (up l n).length ≤ l.length + 1 := upGo_len l _ n
theorem upGo_none {l : List Item} {n : ByteArray} (h : look l n = none) (m : Nat) : upGo l m n = [] := by
  cases m with
  | zero => rfl
  | succ m => unfold upGo; rw [h]
theorem upGo_some {l : List Item} {n : ByteArray} {x : Item} (h : look l n = some x) (m : Nat) : upGo l (m + 1) n = n :: upGo l m x.f1 := by
  rw [upGo.eq_2, h]
theorem Chain.det {l : List Item} {n : ByteArray} {us : List ByteArray} (h : Chain l n us) : ∀ {vs : List ByteArray}, Chain l n vs → us = vs := by
  induction h with
  | nil h =>
    intro vs k
    cases k with
    | nil _ => rfl
    | cons k _ => rw [h] at k; cases k
  | cons h _ ih =>
    intro vs k
    cases k with
    | nil k => rw [h] at k; cases k
    | cons k k2 =>
      rw [h] at k
      cases k
      rw [ih k2]
theorem Chain.upGo {l : List Item} {n : ByteArray} {us : List ByteArray} (h : Chain l n us) : ∀ m, us.length ≤ m → upGo l m n = us := by
  induction h with
  | nil h => intro m _; exact upGo_none h m
  | cons h _ ih =>
    intro m hm
    cases m with
    | zero => simp at hm
    | succ m =>
      rw [upGo_some h, ih m (by simpa using hm)]
theorem upGo_chain (l : List Item) : ∀ (m : Nat) (n : ByteArray), (upGo l m n).length < m → Chain l n (upGo l m n)
  | 0, _, h => by simp [upGo] at h
  | m + 1, n, h => by
    cases hl : look l n with
    | none => rw [upGo_none hl]; exact .nil hl
    | some x =>
      rw [upGo_some hl] at h ⊢
      exact .cons hl (upGo_chain l m x.f1 (by simpa using h))
theorem up_chain {l : List Item} {n : ByteArray} (h : (up l n).length ≤ l.length) : Chain l n (up l n) := upGo_chain l _ n (by unfold up at h; omega)
theorem Chain.suffix {l : List Item} {n : ByteArray} {us : List ByteArray} (h : Chain l n us) : ∀ {m : ByteArray}, m ∈ us → ∃ vs ws, us = ws ++ vs ∧ Chain l m vs ∧ ∃ vt, vs = m :: vt := by
  induction h with
  | nil _ => intro m hm; cases hm
  | @cons n x us h k ih =>
    intro m hm
    rcases List.mem_cons.1 hm with rfl | hm
    · exact ⟨_, [], rfl, .cons h k, _, rfl⟩
    · obtain ⟨vs, ws, e, hc, he⟩ := ih hm
      exact ⟨vs, n :: ws, by rw [e]; rfl, hc, he⟩
theorem Chain.mem_look {l : List Item} {n : ByteArray} {us : List ByteArray} (h : Chain l n us) {m : ByteArray} (hm : m ∈ us) : ∃ x, look l m = some x := by
  obtain ⟨vs, ws, _, hc, vt, rfl⟩ := h.suffix hm
  cases hc with
  | cons h _ => exact ⟨_, h⟩
theorem Chain.nodup {l : List Item} {n : ByteArray} {us : List ByteArray} (h : Chain l n us) : us.Nodup := by
  induction h with
  | nil _ => simp
  | @cons n x us h k ih =>
    rw [List.nodup_cons]
    refine ⟨fun hm => ?_, ih⟩
    obtain ⟨vs, ws, e, hc, _⟩ := k.suffix hm
    have := hc.det (.cons h k)
    rw [this] at e
    have := congrArg List.length e
    simp at this
    omega
theorem Chain.len {l : List Item} {n : ByteArray} {us : List ByteArray} (h : Chain l n us) : us.length ≤ l.length := by
  have := h.nodup.length_le_of_subset (l₂ := l.map (·.f0)) (fun m hm => by
    obtain ⟨x, hx⟩ := h.mem_look hm
    obtain ⟨h1, rfl⟩ := look_mem hx
    exact List.mem_map_of_mem h1)
  simpa using this
theorem Chain.up {l : List Item} {n : ByteArray} {us : List ByteArray} (h : Chain l n us) : up l n = us := h.upGo _ (by have := h.len; omega)
theorem up_len_iff {l : List Item} {n : ByteArray} : (up l n).length ≤ l.length ↔ ∃ us, Chain l n us :=
  ⟨fun h => ⟨_, up_chain h⟩, fun ⟨us, h⟩ => by rw [h.up]; exact h.len⟩
end Go.Proofs.Ytcgefpklljclgaa.Print

namespace Go.Proofs.Ytcgefpklljclgaa.Print
open Go.RowKit Go.Proofs.YtcgefpklljclgaaW.PrintWords Go.Proofs.YtcgefpklljclgaaW.PrintLast
open Go.ChangeShapes Go.WideShapes Go.Deep
set_option linter.unusedVariables false
set_option linter.unusedSimpArgs false
section
variable {H : Type} {enc : TypeId × Value → H} {w : World} {base : Nat} {spare : Nat → Bool} {held : Bool}
theorem cells_i : Try.prog.cellsOf 3 = 1 := by kernel_rfl
theorem cells_s : Try.prog.cellsOf 9 = 1 := by kernel_rfl
theorem cells_v : Try.prog.cellsOf 27 = 3 := by kernel_rfl
theorem cells_it : Try.prog.cellsOf 31 = 12 := by kernel_rfl
theorem open_i {fuel : Nat} {c : Value} {x : DataW H × List MemPlace} (h : DataW.trod enc Try.prog w base spare held fuel 3 [c] = some x) : ∃ n : Int, c = .int .i64 n := by
  obtain ⟨n, e, _, _⟩ := DataW.trod_int Try.underlying3 h
  exact ⟨n, (List.cons.inj e).1⟩
theorem open_s {fuel : Nat} {c : Value} {x : DataW H × List MemPlace} (h : DataW.trod enc Try.prog w base spare held fuel 9 [c] = some x) : ∃ s : ByteArray, c = .string s := by
  obtain ⟨n, e, _, _⟩ := DataW.trod_string Try.underlying9 h
  exact ⟨n, (List.cons.inj e).1⟩
/-- an amount's cells -/
theorem open_vec {fuel : Nat} {cs : List Value} {x : DataW H × List MemPlace} (h : DataW.trod enc Try.prog w base spare held fuel 27 cs = some x) : ∃ v : Vec, cs = [.int .i64 v.f0, .int .i64 v.f1, .int .i64 v.f2] := by
  obtain ⟨xs, n, _, hx, hl, hlen, hf⟩ := DataW.trod_struct Try.underlying27 h
  replace hl : cs.length = 3 := hl.trans cells_v
  replace hlen : xs.length = 3 := hlen
  clear h hx
  obtain ⟨c0, c1, c2, rfl⟩ : ∃ c0 c1 c2, cs = [c0, c1, c2] := by
    clear hf
    match cs, hl with
    | [c0, c1, c2], _ => exact ⟨_, _, _, rfl⟩
  obtain ⟨y0, y1, y2, rfl⟩ : ∃ y0 y1 y2, xs = [y0, y1, y2] := by
    clear hf
    match xs, hlen with
    | [y0, y1, y2], _ => exact ⟨_, _, _, rfl⟩
  have g0 : DataW.trod enc Try.prog w base spare held n 3 (List.take (Try.prog.cellsOf 3) (List.drop 0 [c0, c1, c2])) = some y0 := hf 0 _ rfl
  have g1 : DataW.trod enc Try.prog w base spare held n 3 (List.take (Try.prog.cellsOf 3) (List.drop 1 [c0, c1, c2])) = some y1 := hf 1 _ rfl
  have g2 : DataW.trod enc Try.prog w base spare held n 3 (List.take (Try.prog.cellsOf 3) (List.drop 2 [c0, c1, c2])) = some y2 := hf 2 _ rfl
  rw [cells_i] at g0 g1 g2
  obtain ⟨n0, rfl⟩ := open_i (c := c0) g0
  obtain ⟨n1, rfl⟩ := open_i (c := c1) g1
  obtain ⟨n2, rfl⟩ := open_i (c := c2) g2
  exact ⟨⟨n0, n1, n2⟩, rfl⟩
/-- an item's cells -/
theorem open_item {fuel : Nat} {cs : List Value} {x : DataW H × List MemPlace} (h : DataW.trod enc Try.prog w base spare held fuel 31 cs = some x) : ∃ it : Item, cs = [.string it.f0, .string it.f1, .int .i64 it.f2.f0, .int .i64 it.f2.f1, .int .i64 it.f2.f2, .int .i64 it.f3.f0, .int .i64 it.f3.f1, .int .i64 it.f3.f2, .int .i64 it.f4.f0, .int .i64 it.f4.f1, .int .i64 it.f4.f2, .int .i64 it.f5] := by
  obtain ⟨xs, n, _, hx, hl, hlen, hf⟩ := DataW.trod_struct Try.underlying31 h
  replace hl : cs.length = 12 := hl.trans cells_it
  replace hlen : xs.length = 6 := hlen
  clear h hx
  obtain ⟨c0, c1, c2, c3, c4, c5, c6, c7, c8, c9, c10, c11, rfl⟩ : ∃ c0 c1 c2 c3 c4 c5 c6 c7 c8 c9 c10 c11, cs = [c0, c1, c2, c3, c4, c5, c6, c7, c8, c9, c10, c11] := by
    clear hf
    match cs, hl with
    | [c0, c1, c2, c3, c4, c5, c6, c7, c8, c9, c10, c11], _ => exact ⟨_, _, _, _, _, _, _, _, _, _, _, _, rfl⟩
  obtain ⟨y0, y1, y2, y3, y4, y5, rfl⟩ : ∃ y0 y1 y2 y3 y4 y5, xs = [y0, y1, y2, y3, y4, y5] := by
    clear hf
    match xs, hlen with
    | [y0, y1, y2, y3, y4, y5], _ => exact ⟨_, _, _, _, _, _, rfl⟩
  have g0 : DataW.trod enc Try.prog w base spare held n 9 (List.take (Try.prog.cellsOf 9) (List.drop 0 [c0, c1, c2, c3, c4, c5, c6, c7, c8, c9, c10, c11])) = some y0 := hf 0 _ rfl
  have g1 : DataW.trod enc Try.prog w base spare held n 9 (List.take (Try.prog.cellsOf 9) (List.drop 1 [c0, c1, c2, c3, c4, c5, c6, c7, c8, c9, c10, c11])) = some y1 := hf 1 _ rfl
  have g2 : DataW.trod enc Try.prog w base spare held n 27 (List.take (Try.prog.cellsOf 27) (List.drop 2 [c0, c1, c2, c3, c4, c5, c6, c7, c8, c9, c10, c11])) = some y2 := hf 2 _ rfl
  have g3 : DataW.trod enc Try.prog w base spare held n 27 (List.take (Try.prog.cellsOf 27) (List.drop 5 [c0, c1, c2, c3, c4, c5, c6, c7, c8, c9, c10, c11])) = some y3 := hf 3 _ rfl
  have g4 : DataW.trod enc Try.prog w base spare held n 27 (List.take (Try.prog.cellsOf 27) (List.drop 8 [c0, c1, c2, c3, c4, c5, c6, c7, c8, c9, c10, c11])) = some y4 := hf 4 _ rfl
  have g5 : DataW.trod enc Try.prog w base spare held n 3 (List.take (Try.prog.cellsOf 3) (List.drop 11 [c0, c1, c2, c3, c4, c5, c6, c7, c8, c9, c10, c11])) = some y5 := hf 5 _ rfl
  rw [cells_s] at g0 g1
  rw [cells_v] at g2 g3 g4
  rw [cells_i] at g5
  obtain ⟨n0, rfl⟩ := open_s (c := c0) g0
  obtain ⟨n1, rfl⟩ := open_s (c := c1) g1
  obtain ⟨v2, e2⟩ := open_vec (cs := [c2, c3, c4]) g2
  obtain ⟨v3, e3⟩ := open_vec (cs := [c5, c6, c7]) g3
  obtain ⟨v4, e4⟩ := open_vec (cs := [c8, c9, c10]) g4
  obtain ⟨n5, rfl⟩ := open_i (c := c11) g5
  simp only [List.cons.injEq, and_true] at e2 e3 e4
  obtain ⟨rfl, rfl, rfl⟩ := e2
  obtain ⟨rfl, rfl, rfl⟩ := e3
  obtain ⟨rfl, rfl, rfl⟩ := e4
  exact ⟨⟨n0, n1, v2, v3, v4, n5⟩, rfl⟩
/-- a row of items -/
theorem open_items {t : TypeId} (ht : Try.prog.underlying t = some (.slice 31)) {v : Value} {d : DataW H} {p : List MemPlace} {A : Option Addr} {len cap : Nat} (hv : v = .slice A len cap) (h : DataW.Trod enc Try.prog w base spare held t v d p) :
    ∃ zs : List Item, len = zs.length ∧ len ≤ cap ∧ Kd.C k31 w A zs.length zs := by
  subst hv
  obtain ⟨fuel, hf⟩ := h
  rcases open_slice ht hf with ⟨e, _⟩ | ⟨a, len', cap', m, n, D, Pl, e, _, hl, hm, hmm, _, hi⟩
  · simp only [Value.cells, List.cons.injEq, Value.slice.injEq, and_true] at e
    obtain ⟨rfl, rfl, rfl⟩ := e
    exact ⟨[], rfl, Nat.le_refl _, Kd.C_nil _ _⟩
  · simp only [Value.cells, List.cons.injEq, Value.slice.injEq, and_true] at e
    obtain ⟨rfl, rfl, rfl⟩ := e
    have hlm : len ≤ m := by rw [hmm]; split <;> omega
    have key : ∀ i, i < len → ∃ it : Item, ∀ j u, [Value.string it.f0, .string it.f1, .int .i64 it.f2.f0, .int .i64 it.f2.f1, .int .i64 it.f2.f2, .int .i64 it.f3.f0, .int .i64 it.f3.f1, .int .i64 it.f3.f2, .int .i64 it.f4.f0, .int .i64 it.f4.f1, .int .i64 it.f4.f2, .int .i64 it.f5][j]? = some u → w.cell? (a.add (i * 12 + j)) = some u := by
      intro i hil
      obtain ⟨cs', h1, h2⟩ := hi i (by omega)
      rw [cells_it] at h1
      obtain ⟨_, hcl, hat⟩ := World.cells?_some h1
      obtain ⟨it, rfl⟩ := open_item h2
      refine ⟨it, fun j u hj => ?_⟩
      have hj12 : j < 12 := by
        have := (List.getElem?_eq_some_iff.1 hj).1
        simpa using this
      have := hat j hj12
      rw [Go.Deep.add_add, hj] at this
      exact this
    have hg : ∃ g : Nat → Item, ∀ i, i < len → ∀ j u, [Value.string (g i).f0, .string (g i).f1, .int .i64 (g i).f2.f0, .int .i64 (g i).f2.f1, .int .i64 (g i).f2.f2, .int .i64 (g i).f3.f0, .int .i64 (g i).f3.f1, .int .i64 (g i).f3.f2, .int .i64 (g i).f4.f0, .int .i64 (g i).f4.f1, .int .i64 (g i).f4.f2, .int .i64 (g i).f5][j]? = some u → w.cell? (a.add (i * 12 + j)) = some u := by
      refine ⟨fun i => if q : i < len then Classical.choose (key i q) else zItem, fun i q => ?_⟩
      have := Classical.choose_spec (key i q)
      simp only [q, dif_pos]
      exact this
    obtain ⟨g, hg⟩ := hg
    refine ⟨(List.range len).map g, by simp, hl, ?_⟩
    have hml : maxLen = 9223372036854775807 := rfl
    refine ⟨rfl, by simp; omega, fun _ => ⟨a, rfl, fun j p hj => ?_⟩⟩
    rw [List.getElem?_map] at hj
    obtain ⟨i, hi1, rfl⟩ := Option.map_eq_some_iff.1 hj
    obtain ⟨hjl, e⟩ := List.getElem?_eq_some_iff.1 hi1
    rw [List.getElem_range] at e
    subst e
    rw [List.length_range] at hjl
    exact ⟨_, rfl, k31_mk w (g j), fun i u hu => hg j hjl i u hu⟩
end
end Go.Proofs.Ytcgefpklljclgaa.Print

namespace Go.Proofs.Ytcgefpklljclgaa.Print
open Go.RowKit Go.Proofs.YtcgefpklljclgaaW.PrintWords Go.Proofs.YtcgefpklljclgaaW.PrintLast
set_option linter.unusedVariables false
set_option linter.unusedSimpArgs false
/-! names in order -/
def lt (a b : ByteArray) : Bool := Op.bytesLess a.toList b.toList
theorem bl_irrefl : ∀ a : List UInt8, Op.bytesLess a a = false
  | [] => rfl
  | x :: a => by unfold Op.bytesLess; simp [bl_irrefl a]
theorem bl_trans : ∀ {a b c : List UInt8}, Op.bytesLess a b = true → Op.bytesLess b c = true → Op.bytesLess a c = true
  | [], [], _, h, _ => by simp [Op.bytesLess] at h
  | [], _ :: _, [], _, k => by simp [Op.bytesLess] at k
  | [], _ :: _, _ :: _, _, _ => by simp [Op.bytesLess]
  | _ :: _, [], _, h, _ => by simp [Op.bytesLess] at h
  | _ :: _, _ :: _, [], _, k => by simp [Op.bytesLess] at k
  | x :: a, y :: b, z :: c, h, k => by
    simp only [Op.bytesLess, Bool.or_eq_true, Bool.and_eq_true, decide_eq_true_eq, beq_iff_eq] at h k ⊢
    rcases h with h | ⟨rfl, h⟩
    · rcases k with k | ⟨rfl, k⟩
      · exact .inl (UInt8.lt_trans h k)
      · exact .inl h
    · rcases k with k | ⟨rfl, k⟩
      · exact .inl k
      · exact .inr ⟨rfl, bl_trans h k⟩
theorem lt_irrefl (a : ByteArray) : lt a a = false := bl_irrefl _
theorem lt_trans {a b c : ByteArray} (h : lt a b = true) (k : lt b c = true) : lt a c = true := bl_trans h k
theorem lt_ne {a b : ByteArray} (h : lt a b = true) : a ≠ b := by rintro rfl; rw [lt_irrefl] at h; cases h
/-! amounts -/
inductive Comp where | cpu | mem | pods
def Comp.of : Comp → Vec → Int | .cpu, v => v.f0 | .mem, v => v.f1 | .pods, v => v.f2
theorem vec_ext {a b : Vec} (h : ∀ c : Comp, c.of a = c.of b) : a = b := by
  cases a; cases b
  have h0 := h .cpu; have h1 := h .mem; have h2 := h .pods
  simp [Comp.of] at h0 h1 h2
  simp [h0, h1, h2]
def vadd (a b : Vec) : Vec := ⟨a.f0 + b.f0, a.f1 + b.f1, a.f2 + b.f2⟩
theorem of_vadd (c : Comp) (a b : Vec) : c.of (vadd a b) = c.of a + c.of b := by cases c <;> rfl
def MayP (v : Vec) : Prop := ∀ c : Comp, 0 ≤ c.of v ∧ c.of v ≤ 1099511627776
def LeP (a b : Vec) : Prop := ∀ c : Comp, c.of a ≤ c.of b
theorem comp_all {p : Comp → Prop} : (∀ c, p c) ↔ p .cpu ∧ p .mem ∧ p .pods :=
  ⟨fun h => ⟨h _, h _, h _⟩, fun ⟨a, b, d⟩ c => by cases c <;> assumption⟩
instance (v : Vec) : Decidable (MayP v) := decidable_of_iff _ comp_all.symm
instance (a b : Vec) : Decidable (LeP a b) := decidable_of_iff _ comp_all.symm
theorem mayP_iff {a b d : Int} : MayP ⟨a, b, d⟩ ↔ (0 ≤ a ∧ a ≤ 1099511627776) ∧ (0 ≤ b ∧ b ≤ 1099511627776) ∧ (0 ≤ d ∧ d ≤ 1099511627776) := comp_all
theorem leP_iff {a b d a' b' d' : Int} : LeP ⟨a, b, d⟩ ⟨a', b', d'⟩ ↔ a ≤ a' ∧ b ≤ b' ∧ d ≤ d' := comp_all
/-! sums over a tree -/
def sumBy (g : Item → Int) (l : List Item) : Int := (l.map g).sum
theorem sumBy_nil (g : Item → Int) : sumBy g [] = 0 := rfl
theorem sumBy_cons (g : Item → Int) (x : Item) (l : List Item) : sumBy g (x :: l) = g x + sumBy g l := by simp [sumBy]
theorem sumBy_append (g : Item → Int) (l m : List Item) : sumBy g (l ++ m) = sumBy g l + sumBy g m := by simp [sumBy]
theorem sumBy_nonneg {g : Item → Int} : ∀ {l : List Item}, (∀ x ∈ l, 0 ≤ g x) → 0 ≤ sumBy g l
  | [], _ => by simp [sumBy_nil]
  | x :: l, e => by rw [sumBy_cons]; have := e x (by simp); have := sumBy_nonneg (l := l) (fun y hy => e y (by simp [hy])); omega
theorem sumBy_le {g : Item → Int} {B : Int} : ∀ {l : List Item}, (∀ x ∈ l, g x ≤ B) → sumBy g l ≤ B * l.length
  | [], _ => by simp [sumBy_nil]
  | x :: l, e => by
    rw [sumBy_cons]; have := e x (by simp); have := sumBy_le (l := l) (fun y hy => e y (by simp [hy]))
    simp only [List.length_cons, Int.natCast_succ, Int.mul_add, Int.mul_one]; omega
/-- what the children have -/
def csum (c : Comp) (l : List Item) (n : ByteArray) : Int := sumBy (fun y => if y.f1 = n then c.of y.f4 else 0) l
/-! right trees -/
structure ItemOK (x : Item) : Prop where
  name : x.f0 ≠ ⟨#[]⟩
  size : x.f0.size ≤ 24
  lim : MayP x.f2
  own : MayP x.f3
  sub : MayP x.f4
  fit : LeP x.f4 x.f2
  ver : 1 ≤ x.f5 ∧ x.f5 ≤ 9007199254740992
structure RightP (l : List Item) : Prop where
  len : l.length ≤ 120
  ok : ∀ x ∈ l, ItemOK x
  sorted : l.Pairwise (fun x y => lt x.f0 y.f0 = true)
  par : ∀ x ∈ l, x.f1 = ⟨#[]⟩ ∨ ∃ y, look l x.f1 = some y
  sum : ∀ c : Comp, ∀ x ∈ l, c.of x.f4 = c.of x.f3 + csum c l x.f0
  chain : ∀ x ∈ l, ∃ us, Chain l x.f0 us
theorem sorted_nodup {l : List Item} (h : l.Pairwise (fun x y => lt x.f0 y.f0 = true)) : (l.map (·.f0)).Nodup := by
  rw [List.Nodup, List.pairwise_map]
  exact h.imp (fun hxy => lt_ne hxy)
theorem RightP.nodup {l : List Item} (h : RightP l) : (l.map (·.f0)).Nodup := sorted_nodup h.sorted
theorem look_of_mem {l : List Item} (hn : (l.map (·.f0)).Nodup) {x : Item} (hx : x ∈ l) : look l x.f0 = some x := by
  induction l with
  | nil => cases hx
  | cons y l ih =>
    rw [List.map_cons, List.nodup_cons] at hn
    unfold look
    rw [List.find?_cons]
    rcases List.mem_cons.1 hx with rfl | hx
    · simp
    · have : y.f0 ≠ x.f0 := fun e => hn.1 (by rw [e]; exact List.mem_map_of_mem hx)
      simp only [this, decide_false]
      exact ih hn.2 hx
theorem RightP.look {l : List Item} (h : RightP l) {x : Item} (hx : x ∈ l) : look l x.f0 = some x := look_of_mem h.nodup hx
end Go.Proofs.Ytcgefpklljclgaa.Print

namespace Go.Proofs.Ytcgefpklljclgaa.Print
open Go.RowKit Go.Proofs.YtcgefpklljclgaaW.PrintWords Go.Proofs.YtcgefpklljclgaaW.PrintLast
set_option linter.unusedVariables false
set_option linter.unusedSimpArgs false
/-! a tree whose items change, but neither their names nor parents -/
theorem look_map {f : Item → Item} (hf : ∀ x, (f x).f0 = x.f0) (l : List Item) (n : ByteArray) : look (l.map f) n = (look l n).map f := by
  unfold look
  rw [List.find?_map]
  congr 2
  funext x
  simp [hf]
theorem Chain.map {f : Item → Item} (hf : ∀ x, (f x).f0 = x.f0) (hp : ∀ x, (f x).f1 = x.f1) {l : List Item} {n : ByteArray} {us : List ByteArray} (h : Chain l n us) : Chain (l.map f) n us := by
  induction h with
  | nil h => exact .nil (by rw [look_map hf, h]; rfl)
  | @cons n x us h k ih => exact .cons (x := f x) (by rw [look_map hf, h]; rfl) (by rw [hp]; exact ih)
end Go.Proofs.Ytcgefpklljclgaa.Print

namespace Go.Proofs.Ytcgefpklljclgaa.Print
open Go.RowKit Go.Proofs.YtcgefpklljclgaaW.PrintWords Go.Proofs.YtcgefpklljclgaaW.PrintLast Go.Proofs.YtcgefpklljclgaaW.PrintMore
attribute [local go_sem] max2_int min2_int max_two min_two max_three min_three max_four min_four   -- for this text's walks alone
set_option linter.unusedVariables false
set_option linter.unusedSimpArgs false
end Go.Proofs.Ytcgefpklljclgaa.Print

namespace Go.Proofs.Ytcgefpklljclgaa.Print
open Go.RowKit Go.Proofs.YtcgefpklljclgaaW.PrintWords Go.Proofs.YtcgefpklljclgaaW.PrintLast Go.Proofs.YtcgefpklljclgaaW.PrintMore
attribute [local go_sem] max2_int min2_int max_two min_two max_three min_three max_four min_four   -- for this text's walks alone
set_option linter.unusedVariables false
set_option linter.unusedSimpArgs false
end Go.Proofs.Ytcgefpklljclgaa.Print

namespace Go.Proofs.Ytcgefpklljclgaa.Print
open Go.RowKit Go.Proofs.YtcgefpklljclgaaW.PrintWords Go.Proofs.YtcgefpklljclgaaW.PrintLast Go.Proofs.YtcgefpklljclgaaW.PrintMore
attribute [local go_sem] max2_int min2_int max_two min_two max_three min_three max_four min_four   -- for this text's walks alone
set_option linter.unusedVariables false
set_option linter.unusedSimpArgs false
end Go.Proofs.Ytcgefpklljclgaa.Print

namespace Go.Proofs.Ytcgefpklljclgaa.Print
open Go.RowKit Go.Proofs.YtcgefpklljclgaaW.PrintWords Go.Proofs.YtcgefpklljclgaaW.PrintLast Go.Proofs.YtcgefpklljclgaaW.PrintMore
attribute [local go_sem] max2_int min2_int max_two min_two max_three min_three max_four min_four   -- for this text's walks alone
set_option linter.unusedVariables false
set_option linter.unusedSimpArgs false
end Go.Proofs.Ytcgefpklljclgaa.Print

namespace Go.Proofs.Ytcgefpklljclgaa.Print
open Go.RowKit Go.Proofs.YtcgefpklljclgaaW.PrintWords Go.Proofs.YtcgefpklljclgaaW.PrintLast Go.Proofs.YtcgefpklljclgaaW.PrintMore
attribute [local go_sem] max2_int min2_int max_two min_two max_three min_three max_four min_four   -- for this text's walks alone
set_option linter.unusedVariables false
set_option linter.unusedSimpArgs false
end Go.Proofs.Ytcgefpklljclgaa.Print

namespace Go.Proofs.Ytcgefpklljclgaa.Print
open Go.RowKit Go.Proofs.YtcgefpklljclgaaW.PrintWords Go.Proofs.YtcgefpklljclgaaW.PrintLast
set_option linter.unusedVariables false
set_option linter.unusedSimpArgs false
/-! the document's small functions -/
theorem r10_Le_eq (a b d a' b' d' : Int) : r10_Le.f a b d a' b' d' = some (decide (LeP ⟨a, b, d⟩ ⟨a', b', d'⟩)) := by
  unfold r10_Le.f
  by_cases h0 : a ≤ a' <;> by_cases h1 : b ≤ b' <;> simp [h0, h1, leP_iff]
theorem r10_unit_eq (a : Int) : r10_unit.f a = some (decide (0 ≤ a ∧ a ≤ 1099511627776)) := by
  unfold r10_unit.f
  by_cases h0 : 0 ≤ a
  · rw [if_pos (by omega)]; simp [h0]
  · rw [if_neg (by omega)]; simp [h0]
theorem r10_MayVec_eq (a b d : Int) : r10_MayVec.f a b d = some (decide (MayP ⟨a, b, d⟩)) := by
  unfold r10_MayVec.f
  simp only [r10_unit_eq, Option.bind_some]
  by_cases h0 : 0 ≤ a ∧ a ≤ 1099511627776 <;> by_cases h1 : 0 ≤ b ∧ b ≤ 1099511627776 <;> simp [h0, h1, mayP_iff]
theorem r10_MayName_eq (n : ByteArray) : r10_MayName.f n = some (decide (n ≠ ⟨#[]⟩ ∧ n.size ≤ 24)) := by
  unfold r10_MayName.f
  by_cases h : n = ⟨#[]⟩
  · rw [if_pos (nm_empty.2 h)]; simp [h]
  · rw [if_neg (fun q => h (nm_empty.1 q))]; simp [h]; omega
theorem r10_Find_l0 (l : List Item) (n : ByteArray) (hl : l.length < 1000000) : ∀ (d i : Nat), l.length - i = d → i ≤ l.length →
    Ev (fun k => r10_Find.l0 k l n i) (fidx (fun x : Item => x.f0.toList == n.toList) (l.drop i) i)
  | 0, i, hd, hi => by
    obtain rfl : i = l.length := by omega
    refine Ev.step (f := fun _ => some (-1)) (fun k => ?_) (by rw [List.drop_length]; exact Ev.now _)
    simp only [r10_Find.l0]
    rw [if_neg (by omega)]
  | d + 1, i, hd, hi => by
    have hlt : i < l.length := by omega
    rw [fidx_drop _ zItem l i hlt]
    have hrd : rd_T31 l (i : Int) = l.getD i zItem := by rw [rd_item, Int.toNat_natCast]
    by_cases e : (l.getD i zItem).f0.toList = n.toList
    · rw [if_pos (beq_iff_eq.2 e)]
      refine Ev.step (f := fun _ => some (i : Int)) (fun k => ?_) (Ev.now _)
      simp only [r10_Find.l0]
      rw [if_pos (by omega), if_pos (by omega), hrd, if_pos e]
    · rw [if_neg (fun q => e (beq_iff_eq.1 q))]
      refine Ev.step (f := fun k => r10_Find.l0 k l n ((i + 1 : Nat) : Int)) (fun k => ?_) (r10_Find_l0 l n hl d (i + 1) (by omega) (by omega))
      simp only [r10_Find.l0]
      rw [if_pos (by omega), if_pos (by omega), hrd, if_neg e, w64 (by omega) (by omega)]
      rfl
theorem r10_Find_ev (l : List Item) (n : ByteArray) (hl : l.length < 1000000) : Ev (fun k => r10_Find.f k l n) (fnd l n) := r10_Find_l0 l n hl _ 0 rfl (by omega)
theorem r10_Up_l0 (l : List Item) (hl : l.length < 1000000) : ∀ (m : Nat) (n : ByteArray) (out : List ByteArray), out.length + m = l.length + 1 →
    Ev (fun k => r10_Up.l0 k l out (fnd l n)) (out ++ upGo l m n)
  | 0, n, out, hm => by
    rw [upGo.eq_1, List.append_nil]
    refine Ev.step (f := fun _ => some out) (fun k => ?_) (Ev.now _)
    simp only [r10_Up.l0]
    by_cases h : 0 ≤ fnd l n
    · rw [if_pos h, if_neg (by omega)]
    · rw [if_neg h]
  | m + 1, n, out, hm => by
    cases h : look l n with
    | none =>
      rw [upGo_none h, List.append_nil]
      refine Ev.step (f := fun _ => some out) (fun k => ?_) (Ev.now _)
      simp only [r10_Up.l0]
      rw [fnd_none h, if_neg (by omega)]
    | some x =>
      rw [upGo_some h]
      have h0 := fnd_ge.2 ⟨x, h⟩
      have h1 := fnd_lt l n
      obtain ⟨hx, hn⟩ := look_mem h
      refine Ev.step (f := fun k => (r10_Find.f k l x.f1).bind fun t => r10_Up.l0 k l (out ++ [n]) t) (fun k => ?_) (Ev.bind (r10_Find_ev l x.f1 hl) ?_)
      · simp only [r10_Up.l0]
        rw [if_pos h0, if_pos (by omega), if_pos h0, if_pos h1, if_pos (by omega), fnd_rd h, hn]
      · have := r10_Up_l0 l hl m x.f1 (out ++ [n]) (by simp; omega)
        simpa using this
theorem r10_Up_ev (l : List Item) (n : ByteArray) (hl : l.length < 1000000) : Ev (fun k => r10_Up.f k l n) (up l n) :=
  Ev.bind (r10_Find_ev l n hl) (by have := r10_Up_l0 l hl (l.length + 1) n [] (by simp); rw [List.nil_append] at this; exact this)
end Go.Proofs.Ytcgefpklljclgaa.Print

namespace Go.Proofs.Ytcgefpklljclgaa.Print
open Go.RowKit Go.Proofs.YtcgefpklljclgaaW.PrintWords Go.Proofs.YtcgefpklljclgaaW.PrintLast
set_option linter.unusedVariables false
set_option linter.unusedSimpArgs false
def Bytes (ns : List Int) : Prop := ∀ x ∈ ns, 0 ≤ x ∧ x ≤ 255
theorem Bytes.rd {ns : List Int} (h : Bytes ns) (i : Int) : 0 ≤ rd ns i ∧ rd ns i ≤ 255 := by
  unfold Go.Proofs.YtcgefpklljclgaaW.PrintWords.rd
  rw [List.getD_eq_getElem?_getD]
  cases e : ns[i.toNat]? with
  | none => simp
  | some x => exact h x (List.mem_of_getElem? e)
/-- a name of one byte -/
def one (c : Int) : ByteArray := strOfNums [c]
structure MadeP (l : List Item) : Prop where
  right : RightP l
  len : l.length ≤ 24
  name : ∀ x ∈ l, ∃ c : Int, 97 ≤ c ∧ c ≤ 120 ∧ x.f0 = one c
  ver : ∀ x ∈ l, x.f5 = 1
  lim : ∀ x ∈ l, ∀ c : Comp, 20 ≤ c.of x.f2 ∧ c.of x.f2 ≤ 275
end Go.Proofs.Ytcgefpklljclgaa.Print

namespace Go.Proofs.Ytcgefpklljclgaa.Print
open Go.RowKit Go.Proofs.YtcgefpklljclgaaW.PrintWords Go.Proofs.YtcgefpklljclgaaW.PrintLast Go.Proofs.YtcgefpklljclgaaW.PrintMore
attribute [local go_sem] max2_int min2_int max_two min_two max_three min_three max_four min_four   -- for this text's walks alone
set_option linter.unusedVariables false
set_option linter.unusedSimpArgs false
end Go.Proofs.Ytcgefpklljclgaa.Print

namespace Go.Proofs.Ytcgefpklljclgaa.Print
open Go.RowKit Go.Proofs.YtcgefpklljclgaaW.PrintWords Go.Proofs.YtcgefpklljclgaaW.PrintLast Go.Proofs.YtcgefpklljclgaaW.PrintMore
attribute [local go_sem] max2_int min2_int max_two min_two max_three min_three max_four min_four   -- for this text's walks alone
set_option linter.unusedVariables false
set_option linter.unusedSimpArgs false
end Go.Proofs.Ytcgefpklljclgaa.Print

namespace Go.Proofs.Ytcgefpklljclgaa.Print
open Go.RowKit Go.Proofs.YtcgefpklljclgaaW.PrintWords Go.Proofs.YtcgefpklljclgaaW.PrintLast Go.Proofs.YtcgefpklljclgaaW.PrintMore
attribute [local go_sem] max2_int min2_int max_two min_two max_three min_three max_four min_four   -- for this text's walks alone
set_option linter.unusedVariables false
set_option linter.unusedSimpArgs false
end Go.Proofs.Ytcgefpklljclgaa.Print

namespace Go.Proofs.Ytcgefpklljclgaa.Print
open Go.RowKit Go.Proofs.YtcgefpklljclgaaW.PrintWords Go.Proofs.YtcgefpklljclgaaW.PrintLast Go.Proofs.YtcgefpklljclgaaW.PrintMore
attribute [local go_sem] max2_int min2_int max_two min_two max_three min_three max_four min_four   -- for this text's walks alone
set_option linter.unusedVariables false
set_option linter.unusedSimpArgs false
end Go.Proofs.Ytcgefpklljclgaa.Print

namespace Go.Proofs.Ytcgefpklljclgaa.Print
open Go.RowKit Go.Proofs.YtcgefpklljclgaaW.PrintWords Go.Proofs.YtcgefpklljclgaaW.PrintLast Go.Proofs.YtcgefpklljclgaaW.PrintMore
attribute [local go_sem] max2_int min2_int max_two min_two max_three min_three max_four min_four   -- for this text's walks alone
set_option linter.unusedVariables false
set_option linter.unusedSimpArgs false
end Go.Proofs.Ytcgefpklljclgaa.Print

namespace Go.Proofs.Ytcgefpklljclgaa.Print
open Go.RowKit Go.Proofs.YtcgefpklljclgaaW.PrintWords Go.Proofs.YtcgefpklljclgaaW.PrintLast Go.Proofs.YtcgefpklljclgaaW.PrintMore
attribute [local go_sem] max2_int min2_int max_two min_two max_three min_three max_four min_four   -- for this text's walks alone
set_option linter.unusedVariables false
set_option linter.unusedSimpArgs false
end Go.Proofs.Ytcgefpklljclgaa.Print

namespace Go.Proofs.Ytcgefpklljclgaa.Print
open Go.RowKit Go.Proofs.YtcgefpklljclgaaW.PrintWords Go.Proofs.YtcgefpklljclgaaW.PrintLast Go.Proofs.YtcgefpklljclgaaW.PrintMore
set_option linter.unusedVariables false
set_option linter.unusedSimpArgs false
/-! the program's way up -/
theorem tree_Up_l0 (l : List Item) (hl : l.length < 1000000) : ∀ (m : Nat) (n : ByteArray) (out : List ByteArray), out.length + m = l.length + 1 →
    Ev (fun k => tree_Up.l0 k l out (fnd l n)) (out ++ upGo l m n)
  | 0, n, out, hm => by
    rw [upGo.eq_1, List.append_nil]
    refine Ev.step (f := fun _ => some out) (fun k => ?_) (Ev.now _)
    simp only [tree_Up.l0]
    by_cases h : 0 ≤ fnd l n
    · rw [if_pos h, if_neg (by omega)]
    · rw [if_neg h]
  | m + 1, n, out, hm => by
    cases h : look l n with
    | none =>
      rw [upGo_none h, List.append_nil]
      refine Ev.step (f := fun _ => some out) (fun k => ?_) (Ev.now _)
      simp only [tree_Up.l0]
      rw [fnd_none h, if_neg (by omega)]
    | some x =>
      rw [upGo_some h]
      have h0 := fnd_ge.2 ⟨x, h⟩
      have h1 := fnd_lt l n
      obtain ⟨hx, hn⟩ := look_mem h
      refine Ev.step (f := fun k => tree_Up.l0 k l (out ++ [n]) (fnd l x.f1)) (fun k => ?_) ?_
      · simp only [tree_Up.l0]
        rw [if_pos h0, if_pos (by omega), if_pos h0, if_pos h1, if_pos (by omega), fnd_rd h, hn, tree_Find_eq]
        rfl
      · have := tree_Up_l0 l hl m x.f1 (out ++ [n]) (by simp; omega)
        simpa using this
theorem tree_Up_ev (l : List Item) (n : ByteArray) (hl : l.length < 1000000) : Ev (fun k => tree_Up.f k l n) (up l n) := by
  have := tree_Up_l0 l hl (l.length + 1) n [] (by simp)
  rw [List.nil_append] at this
  exact this
end Go.Proofs.Ytcgefpklljclgaa.Print

namespace Go.Proofs.Ytcgefpklljclgaa.Print
open Go.RowKit Go.Proofs.YtcgefpklljclgaaW.PrintWords Go.Proofs.YtcgefpklljclgaaW.PrintLast Go.Proofs.YtcgefpklljclgaaW.PrintMore
set_option linter.unusedVariables false
set_option linter.unusedSimpArgs false
end Go.Proofs.Ytcgefpklljclgaa.Print

namespace Go.Proofs.Ytcgefpklljclgaa.Print
open Go.RowKit Go.Proofs.YtcgefpklljclgaaW.PrintWords Go.Proofs.YtcgefpklljclgaaW.PrintLast Go.Proofs.YtcgefpklljclgaaW.PrintMore
set_option linter.unusedVariables false
set_option linter.unusedSimpArgs false
/-! when a tree is right: place by place -/
def Ok1 (l : List Item) (i : Nat) : Prop := ItemOK (rd_T31 l i) ∧ (0 < i → lt (rd_T31 l ((i : Int) - 1)).f0 (rd_T31 l i).f0 = true) ∧ ((rd_T31 l i).f1 = ⟨#[]⟩ ∨ ∃ y, look l (rd_T31 l i).f1 = some y)
def Ok2 (l : List Item) (i : Nat) : Prop := (∀ c : Comp, c.of (rd_T31 l i).f4 = c.of (rd_T31 l i).f3 + csum c l (rd_T31 l i).f0)
def Ok3 (l : List Item) (i : Nat) : Prop := (up l (rd_T31 l i).f0).length ≤ l.length
theorem rd_get {l : List Item} {i : Nat} (h : i < l.length) : rd_T31 l (i : Int) = l[i] := by rw [rd_item, Int.toNat_natCast]; simp [h]
theorem rd_mem {l : List Item} {i : Nat} (h : i < l.length) : rd_T31 l (i : Int) ∈ l := by rw [rd_get h]; exact List.getElem_mem h
theorem rightP_iff (l : List Item) : RightP l ↔ l.length ≤ 120 ∧ (∀ i, i < l.length → Ok1 l i) ∧ (∀ i, i < l.length → Ok2 l i) ∧ (∀ i, i < l.length → Ok3 l i) := by
  constructor
  · intro h
    refine ⟨h.len, fun i hi => ⟨h.ok _ (rd_mem hi), fun h0 => ?_, h.par _ (rd_mem hi)⟩, fun i hi c => h.sum c _ (rd_mem hi), fun i hi => up_len_iff.2 (h.chain _ (rd_mem hi))⟩
    have := List.pairwise_iff_getElem.1 h.sorted (i - 1) i (by omega) hi (by omega)
    rw [show ((i : Int) - 1) = ((i - 1 : Nat) : Int) from by omega, rd_get (show i - 1 < l.length by omega), rd_get hi]
    exact this
  · rintro ⟨h1, h2, h3, h4⟩
    have hx : ∀ x ∈ l, ∃ i, i < l.length ∧ rd_T31 l (i : Int) = x := fun x hx => by
      obtain ⟨i, hi, e⟩ := List.getElem_of_mem hx
      exact ⟨i, hi, by rw [rd_get hi]; exact e⟩
    refine ⟨h1, fun x hx' => ?_, ?_, fun x hx' => ?_, fun c x hx' => ?_, fun x hx' => ?_⟩
    · obtain ⟨i, hi, rfl⟩ := hx x hx'
      exact (h2 i hi).1
    · rw [List.pairwise_iff_getElem]
      intro i j hi hj hij
      have step : ∀ d : Nat, ∀ hd : i + 1 + d < l.length, lt l[i].f0 (l[i + 1 + d]).f0 = true := by
        intro d
        induction d with
        | zero =>
          intro hd
          have := (h2 (i + 1) (by omega)).2.1 (by omega)
          rw [show (((i + 1 : Nat) : Int) - 1) = (i : Int) from by omega, rd_get hi, rd_get (show i + 1 < l.length by omega)] at this
          exact this
        | succ d ih =>
          intro hd
          have := (h2 (i + 1 + (d + 1)) hd).2.1 (by omega)
          rw [show (((i + 1 + (d + 1) : Nat) : Int) - 1) = ((i + 1 + d : Nat) : Int) from by omega, rd_get (show i + 1 + d < l.length by omega), rd_get hd] at this
          exact lt_trans (ih (by omega)) this
      have := step (j - (i + 1)) (by omega)
      simpa [show i + 1 + (j - (i + 1)) = j by omega] using this
    · obtain ⟨i, hi, rfl⟩ := hx x hx'
      exact (h2 i hi).2.2
    · obtain ⟨i, hi, rfl⟩ := hx x hx'
      exact h3 i hi c
    · obtain ⟨i, hi, rfl⟩ := hx x hx'
      exact up_len_iff.1 (h4 i hi)
end Go.Proofs.Ytcgefpklljclgaa.Print

namespace Go.Proofs.Ytcgefpklljclgaa.Print
open Go.RowKit Go.Proofs.YtcgefpklljclgaaW.PrintWords Go.Proofs.YtcgefpklljclgaaW.PrintLast Go.Proofs.YtcgefpklljclgaaW.PrintMore
attribute [local go_sem] max2_int min2_int max_two min_two max_three min_three max_four min_four   -- for this text's walks alone
set_option linter.unusedVariables false
set_option linter.unusedSimpArgs false
-- uses fidx
end Go.Proofs.Ytcgefpklljclgaa.Print

namespace Go.Proofs.Ytcgefpklljclgaa.Print
open Go.RowKit Go.Proofs.YtcgefpklljclgaaW.PrintWords Go.Proofs.YtcgefpklljclgaaW.PrintLast Go.Proofs.YtcgefpklljclgaaW.PrintMore
attribute [local go_sem] max2_int min2_int max_two min_two max_three min_three max_four min_four   -- for this text's walks alone
set_option linter.unusedVariables false
set_option linter.unusedSimpArgs false
end Go.Proofs.Ytcgefpklljclgaa.Print

namespace Go.Proofs.Ytcgefpklljclgaa.Print
open Go.RowKit Go.Proofs.YtcgefpklljclgaaW.PrintWords Go.Proofs.YtcgefpklljclgaaW.PrintLast Go.Proofs.YtcgefpklljclgaaW.PrintMore
attribute [local go_sem] max2_int min2_int max_two min_two max_three min_three max_four min_four   -- for this text's walks alone
set_option linter.unusedVariables false
set_option linter.unusedSimpArgs false
end Go.Proofs.Ytcgefpklljclgaa.Print

namespace Go.Proofs.Ytcgefpklljclgaa.Print
open Go.RowKit Go.Proofs.YtcgefpklljclgaaW.PrintWords Go.Proofs.YtcgefpklljclgaaW.PrintLast Go.Proofs.YtcgefpklljclgaaW.PrintMore
attribute [local go_sem] max2_int min2_int max_two min_two max_three min_three max_four min_four   -- for this text's walks alone
set_option linter.unusedVariables false
set_option linter.unusedSimpArgs false
end Go.Proofs.Ytcgefpklljclgaa.Print

namespace Go.Proofs.Ytcgefpklljclgaa.Print
open Go.RowKit Go.Proofs.YtcgefpklljclgaaW.PrintWords Go.Proofs.YtcgefpklljclgaaW.PrintLast Go.Proofs.YtcgefpklljclgaaW.PrintMore
attribute [local go_sem] max2_int min2_int max_two min_two max_three min_three max_four min_four   -- for this text's walks alone
set_option linter.unusedVariables false
set_option linter.unusedSimpArgs false
end Go.Proofs.Ytcgefpklljclgaa.Print

namespace Go.Proofs.Ytcgefpklljclgaa.Print
open Go.RowKit Go.Proofs.YtcgefpklljclgaaW.PrintWords Go.Proofs.YtcgefpklljclgaaW.PrintLast Go.Proofs.YtcgefpklljclgaaW.PrintMore
attribute [local go_sem] max2_int min2_int max_two min_two max_three min_three max_four min_four   -- for this text's walks alone
set_option linter.unusedVariables false
set_option linter.unusedSimpArgs false
end Go.Proofs.Ytcgefpklljclgaa.Print

namespace Go.Proofs.Ytcgefpklljclgaa.Print
open Go.RowKit Go.Proofs.YtcgefpklljclgaaW.PrintWords Go.Proofs.YtcgefpklljclgaaW.PrintLast Go.Proofs.YtcgefpklljclgaaW.PrintMore
attribute [local go_sem] max2_int min2_int max_two min_two max_three min_three max_four min_four   -- for this text's walks alone
set_option linter.unusedVariables false
set_option linter.unusedSimpArgs false
end Go.Proofs.Ytcgefpklljclgaa.Print

namespace Go.Proofs.Ytcgefpklljclgaa.Print
open Go.RowKit Go.Proofs.YtcgefpklljclgaaW.PrintWords Go.Proofs.YtcgefpklljclgaaW.PrintLast Go.Proofs.YtcgefpklljclgaaW.PrintMore
set_option linter.unusedVariables false
set_option linter.unusedSimpArgs false
def addV (a : Vec) (ws : List Item) : Vec := ⟨a.f0 + sumBy (fun x => x.f4.f0) ws, a.f1 + sumBy (fun x => x.f4.f1) ws, a.f2 + sumBy (fun x => x.f4.f2) ws⟩
theorem addV_nil (a : Vec) : addV a [] = a := by unfold addV; simp [sumBy_nil]
theorem addV_cons (a : Vec) (x : Item) (ws : List Item) : addV a (x :: ws) = addV (vadd a x.f4) ws := by
  unfold addV vadd
  simp only [sumBy_cons]
  congr 1 <;> omega
def SmallV (a : Vec) (n : Nat) : Prop := ∀ c : Comp, 0 ≤ c.of a ∧ c.of a ≤ 1099511627776 * n
theorem small_zero : SmallV ⟨0, 0, 0⟩ 0 := fun c => by cases c <;> simp [Comp.of]
theorem small_add {a b : Vec} {n : Nat} (ha : SmallV a n) (hb : MayP b) : SmallV (vadd a b) (n + 1) := fun c => by
  have h1 := ha c; have h2 := hb c
  rw [of_vadd]; omega
theorem small_wrap {a b : Vec} {n : Nat} (ha : SmallV a n) (hb : MayP b) (hn : n ≤ 1000) : wrap64 (a.f0 + b.f0) = (vadd a b).f0 ∧ wrap64 (a.f1 + b.f1) = (vadd a b).f1 ∧ wrap64 (a.f2 + b.f2) = (vadd a b).f2 := by
  have a0 := ha .cpu; have a1 := ha .mem; have a2 := ha .pods
  have b0 := hb .cpu; have b1 := hb .mem; have b2 := hb .pods
  simp only [Comp.of] at a0 a1 a2 b0 b1 b2
  exact ⟨w64 (by omega) (by omega), w64 (by omega) (by omega), w64 (by omega) (by omega)⟩
theorem vecAdd_items : ∀ (ws : List Item) (a : Vec) (n : Nat), SmallV a n → (∀ x ∈ ws, MayP x.f4) → n + ws.length ≤ 1000 → vecByF (fun x y => wrap64 (x + y)) (ws.map (·.f4)) a.f0 a.f1 a.f2 = ((addV a ws).f0, (addV a ws).f1, (addV a ws).f2)
  | [], a, n, ha, hw, hn => by rw [addV_nil]; rfl
  | x :: ws, a, n, ha, hw, hn => by
    rw [addV_cons]
    obtain ⟨e0, e1, e2⟩ := small_wrap ha (hw x (by simp)) (by simp at hn; omega)
    have := vecAdd_items ws (vadd a x.f4) (n + 1) (small_add ha (hw x (by simp))) (fun y hy => hw y (by simp [hy])) (by simp at hn; omega)
    rw [← this]
    show vecByF (fun x y => wrap64 (x + y)) (ws.map (·.f4)) (wrap64 (a.f0 + x.f4.f0)) (wrap64 (a.f1 + x.f4.f1)) (wrap64 (a.f2 + x.f4.f2)) = _
    rw [e0, e1, e2]
end Go.Proofs.Ytcgefpklljclgaa.Print

namespace Go.Proofs.Ytcgefpklljclgaa.Print
open Go.RowKit Go.Proofs.YtcgefpklljclgaaW.PrintWords Go.Proofs.YtcgefpklljclgaaW.PrintLast Go.Proofs.YtcgefpklljclgaaW.PrintMore
set_option linter.unusedVariables false
set_option linter.unusedSimpArgs false
theorem sumBy_filter (g : Item → Int) (p : Item → Bool) : ∀ l : List Item, sumBy g (l.filter p) = sumBy (fun x => if p x = true then g x else 0) l
  | [] => rfl
  | x :: l => by
    rw [sumBy_cons]
    by_cases h : p x = true
    · rw [List.filter_cons_of_pos h, sumBy_cons, sumBy_filter g p l, if_pos h]
    · rw [List.filter_cons_of_neg h, sumBy_filter g p l, if_neg h]; omega
theorem below_l0 (l : List Item) (n : ByteArray) (hl : l.length < 1000000) : ∀ (d i : Nat) (acc : List ByteArray), l.length - i = d → i ≤ l.length → acc.length ≤ i → Ev (fun k => r10_Below.l0 k l n acc i) (acc ++ ((l.drop i).filter (fun x => decide (x.f1 = n))).map (·.f0))
  | 0, i, acc, hd, hi, ha => by
    obtain rfl : i = l.length := by omega
    rw [List.drop_length]
    refine Ev.step (f := fun _ => some acc) (fun k => ?_) (by rw [show acc ++ (([] : List Item).filter (fun x => decide (x.f1 = n))).map (·.f0) = acc from List.append_nil _]; exact Ev.now _)
    rw [r10_Below.l0, if_neg (by omega)]
  | d + 1, i, acc, hd, hi, ha => by
    have hlt : i < l.length := by omega
    have hrd : rd_T31 l (i : Int) = l[i] := by rw [rd_item, Int.toNat_natCast]; simp [hlt]
    rw [List.drop_eq_getElem_cons hlt]
    generalize l[i] = x at *
    by_cases h : x.f1 = n
    · rw [List.filter_cons_of_pos (by exact decide_eq_true h)]
      refine Ev.step (f := fun k => r10_Below.l0 k l n (acc ++ [x.f0]) ((i + 1 : Nat) : Int)) (fun k => ?_) ?_
      · rw [r10_Below.l0, if_pos (by omega), if_pos (by omega), hrd, if_pos (nm_inj.2 h), if_pos (by omega), w64 (by omega) (by omega)]
        rfl
      · have := below_l0 l n hl d (i + 1) (acc ++ [x.f0]) (by omega) (by omega) (by simp; omega)
        rw [List.append_assoc] at this
        exact this
    · rw [List.filter_cons_of_neg (by simpa using h)]
      refine Ev.step (f := fun k => r10_Below.l0 k l n acc ((i + 1 : Nat) : Int)) (fun k => ?_) (below_l0 l n hl d (i + 1) acc (by omega) (by omega) (by omega))
      rw [r10_Below.l0, if_pos (by omega), if_pos (by omega), hrd, if_neg (fun q => h (nm_inj.1 q)), w64 (by omega) (by omega)]
      rfl
def kids (l : List Item) (n : ByteArray) : List ByteArray := (l.filter (fun x => decide (x.f1 = n))).map (·.f0)
theorem below_ev (l : List Item) (n : ByteArray) (hl : l.length < 1000000) : Ev (fun k => r10_Below.f k l n) (kids l n) := by
  have h := below_l0 l n hl _ 0 [] rfl (by omega) (by simp)
  rw [List.drop_zero, List.nil_append] at h
  exact h
theorem kids_len (l : List Item) (n : ByteArray) : (kids l n).length ≤ l.length := by unfold kids; rw [List.length_map]; exact List.length_filter_le _ _
end Go.Proofs.Ytcgefpklljclgaa.Print

namespace Go.Proofs.Ytcgefpklljclgaa.Print
open Go.RowKit Go.Proofs.YtcgefpklljclgaaW.PrintWords Go.Proofs.YtcgefpklljclgaaW.PrintLast Go.Proofs.YtcgefpklljclgaaW.PrintMore
set_option linter.unusedVariables false
set_option linter.unusedSimpArgs false
/-! the document's answer of any tree -/
theorem of_addV_ (c : Comp) (a : Vec) (ws : List Item) : c.of (addV a ws) = c.of a + sumBy (fun x => c.of x.f4) ws := by cases c <;> rfl
theorem addV_snoc_ (a : Vec) (ws : List Item) (y : Item) : addV a (ws ++ [y]) = vadd (addV a ws) y.f4 := vec_ext fun c => by
  rw [of_vadd, of_addV_, of_addV_, sumBy_append, sumBy_cons, sumBy_nil]; omega
theorem small_addV_ {a : Vec} {n : Nat} (ha : SmallV a n) {ws : List Item} (hw : ∀ y ∈ ws, MayP y.f4) : SmallV (addV a ws) (n + ws.length) := fun c => by
  have h1 := ha c
  have h2 := sumBy_nonneg (g := fun x => c.of x.f4) (l := ws) (fun y hy => (hw y hy c).1)
  have h3 := sumBy_le (g := fun x => c.of x.f4) (B := 1099511627776) (l := ws) (fun y hy => (hw y hy c).2)
  rw [of_addV_]
  omega
theorem r10_add_small_ {a b : Vec} {n : Nat} (ha : SmallV a n) (hb : MayP b) (hn : n ≤ 1000) : r10_Add.f a.f0 a.f1 a.f2 b.f0 b.f1 b.f2 = some ((vadd a b).f0, (vadd a b).f1, (vadd a b).f2) := by
  obtain ⟨e0, e1, e2⟩ := small_wrap ha hb hn
  unfold r10_Add.f
  rw [e0, e1, e2]
theorem ok2_iff {l : List Item} {i : Nat} {x : Item} (hx : rd_T31 l i = x) : Ok2 l i ↔ addV x.f3 (l.filter (fun y => decide (y.f1 = x.f0))) = x.f4 := by
  have key : ∀ c : Comp, c.of (addV x.f3 (l.filter (fun y => decide (y.f1 = x.f0)))) = c.of x.f3 + csum c l x.f0 := fun c => by
    rw [of_addV_, sumBy_filter]
    simp only [decide_eq_true_eq]
    rfl
  unfold Ok2
  rw [hx]
  constructor
  · intro h
    exact vec_ext fun c => by rw [key c, h c]
  · intro h c
    rw [← key c, h]
theorem r10_full_l2 {l : List Item} (hlen : l.length ≤ 120) (h1 : ∀ i, i < l.length → Ok1 l i) {i : Nat} (hi : i < l.length) {x : Item} (hx : rd_T31 l i = x) {b : Bool} (hno : ¬ (Ok2 l i ∧ Ok3 l i) → b = false)
    (rest : Ok2 l i ∧ Ok3 l i → Ev (fun k => r10_Right.l1 k l ((i + 1 : Nat) : Int)) b) : ∀ (d j : Nat), l.length - j = d → j ≤ l.length →
    Ev (fun k => r10_Right.l2 k l i j (addV x.f3 ((l.take j).filter (fun y => decide (y.f1 = x.f0)))).f0 (addV x.f3 ((l.take j).filter (fun y => decide (y.f1 = x.f0)))).f1 (addV x.f3 ((l.take j).filter (fun y => decide (y.f1 = x.f0)))).f2) b
  | 0, j, hd, hj => by
    obtain rfl : j = l.length := by omega
    rw [List.take_length]
    have hok := ok2_iff (l := l) (i := i) hx
    generalize addV x.f3 (l.filter (fun y => decide (y.f1 = x.f0))) = s at hok
    refine Ev.step (fun k => r10_Right.l2.eq_2 (k := k) ..) ?_
    have e1 : ((i : Int) < (l.length : Int)) = True := eq_true (by omega)
    have e2 : ((0 : Int) ≤ (i : Int)) = True := eq_true (by omega)
    have e3 : wrap64 ((i : Int) + 1) = ((i + 1 : Nat) : Int) := by rw [w64 (by omega) (by omega)]; rfl
    simp only [Int.lt_irrefl, if_false, e1, e2, if_true, hx, e3]
    by_cases hs : s = x.f4
    · subst hs
      refine Ev.congr (fun k => if_neg (by simp)) ?_
      refine Ev.bind (r10_Up_ev l x.f0 (by omega)) ?_
      by_cases hu : (up l x.f0).length ≤ l.length
      · exact Ev.congr (fun k => if_neg (by omega)) (rest ⟨hok.2 rfl, by unfold Ok3; rw [hx]; exact hu⟩)
      · refine Ev.congr (fun k => if_pos (by omega)) ?_
        rw [hno (fun q => hu (by have := q.2; unfold Ok3 at this; rw [hx] at this; exact this))]
        exact Ev.now _
    · refine Ev.congr (fun k => if_pos ?_) ?_
      · have : ¬ (s.f0 = x.f4.f0 ∧ s.f1 = x.f4.f1 ∧ s.f2 = x.f4.f2) := fun ⟨a, b, c⟩ => hs (vec_ext fun d => by cases d <;> assumption)
        by_cases a : s.f0 = x.f4.f0 <;> by_cases b : s.f1 = x.f4.f1 <;> by_cases c : s.f2 = x.f4.f2 <;> simp_all
      · rw [hno (fun q => hs (hok.1 q.1))]
        exact Ev.now _
  | d + 1, j, hd, hj => by
    have hlt : j < l.length := by omega
    have ih := r10_full_l2 hlen h1 hi hx hno rest d (j + 1) (by omega) (by omega)
    have hrd := rd_get hlt
    have hall : ∀ y ∈ l, ItemOK y := fun y hy => by
      obtain ⟨m, hm, e⟩ := List.getElem_of_mem hy
      have := (h1 m hm).1
      rw [rd_get hm, e] at this
      exact this
    have hym : MayP (l[j]).f4 := (hall _ (List.getElem_mem hlt)).sub
    rw [List.take_succ_eq_append_getElem hlt, List.filter_append] at ih
    have hxm : ItemOK x := by rw [← hx]; exact (h1 i hi).1
    have hsm := small_addV_ (a := x.f3) (n := 1) (fun c => by have := hxm.own c; omega) (ws := (l.take j).filter (fun y => decide (y.f1 = x.f0))) (fun y hy => (hall y (List.mem_of_mem_take (List.mem_filter.1 hy).1)).sub)
    have hfl := List.length_filter_le (fun y : Item => decide (y.f1 = x.f0)) (l.take j)
    rw [List.length_take] at hfl
    generalize l[j] = y at hrd ih hym
    refine Ev.step (fun k => r10_Right.l2.eq_2 (k := k) ..) ?_
    have e1 : ((i : Int) < (l.length : Int)) = True := eq_true (by omega)
    have e2 : ((0 : Int) ≤ (i : Int)) = True := eq_true (by omega)
    have e4 : ((j : Int) < (l.length : Int)) = True := eq_true (by omega)
    have e5 : ((0 : Int) ≤ (j : Int)) = True := eq_true (by omega)
    have e3 : wrap64 ((j : Int) + 1) = ((j + 1 : Nat) : Int) := by rw [w64 (by omega) (by omega)]; rfl
    simp only [e1, e2, e4, e5, if_true, hx, hrd, e3]
    by_cases hy : y.f1 = x.f0
    · have e6 : (y.f1.toList = x.f0.toList) = True := eq_true (nm_inj.2 hy)
      rw [List.filter_cons_of_pos (by simpa using hy), List.filter_nil, addV_snoc_] at ih
      simp only [e6, if_true, r10_add_small_ hsm hym (by omega), Option.bind_some]
      exact ih
    · have e6 : (y.f1.toList = x.f0.toList) = False := eq_false (fun q => hy (nm_inj.1 q))
      rw [List.filter_cons_of_neg (by simpa using hy), List.filter_nil, List.append_nil] at ih
      simp only [e6, if_false]
      exact ih
theorem r10_full_l1 {l : List Item} (hlen : l.length ≤ 120) (h1 : ∀ i, i < l.length → Ok1 l i) {b : Bool} (hb : b = true ↔ RightP l) : ∀ (d i : Nat), l.length - i = d → i ≤ l.length → (∀ j, j < i → Ok2 l j ∧ Ok3 l j) → Ev (fun k => r10_Right.l1 k l i) b
  | 0, i, hd, hi, hp => by
    obtain rfl : i = l.length := by omega
    refine Ev.step (fun k => r10_Right.l1.eq_2 (k := k) ..) ?_
    simp only [Int.lt_irrefl, if_false]
    rw [hb.2 ((rightP_iff l).2 ⟨hlen, h1, fun j hj => (hp j hj).1, fun j hj => (hp j hj).2⟩)]
    exact Ev.now _
  | d + 1, i, hd, hi, hp => by
    have hlt : i < l.length := by omega
    refine Ev.step (fun k => r10_Right.l1.eq_2 (k := k) ..) ?_
    have e1 : ((i : Int) < (l.length : Int)) = True := eq_true (by omega)
    have e2 : ((0 : Int) ≤ (i : Int)) = True := eq_true (by omega)
    simp only [e1, e2, if_true]
    have := r10_full_l2 hlen h1 hlt (x := rd_T31 l i) rfl (b := b) (fun q => by
      cases b with
      | false => rfl
      | true =>
        obtain ⟨_, _, a, c⟩ := (rightP_iff l).1 (hb.1 rfl)
        exact absurd ⟨a i hlt, c i hlt⟩ q) (fun q => r10_full_l1 hlen h1 hb d (i + 1) (by omega) (by omega) (fun j hj => by
        by_cases e : j = i
        · rw [e]; exact q
        · exact hp j (by omega))) _ 0 rfl (by omega)
    rw [List.take_zero, List.filter_nil, addV_nil] at this
    exact this
theorem r10_full_l0 {l : List Item} (hlen : l.length ≤ 120) {b : Bool} (hb : b = true ↔ RightP l) : ∀ (d i : Nat), l.length - i = d → i ≤ l.length → (∀ j, j < i → Ok1 l j) → Ev (fun k => r10_Right.l0 k l i) b
  | 0, i, hd, hi, hp => by
    obtain rfl : i = l.length := by omega
    refine Ev.step (fun k => r10_Right.l0.eq_2 (k := k) ..) ?_
    simp only [Int.lt_irrefl, if_false]
    exact r10_full_l1 hlen hp hb _ 0 rfl (by omega) (fun j hj => absurd hj (by omega))
  | d + 1, i, hd, hi, hp => by
    have hlt : i < l.length := by omega
    have hbad : ¬ Ok1 l i → Ev (fun _ => some false) b := fun q => by
      cases b with
      | false => exact Ev.now _
      | true => exact absurd (((rightP_iff l).1 (hb.1 rfl)).2.1 i hlt) q
    have hnext : Ok1 l i → Ev (fun k => r10_Right.l0 k l ((i + 1 : Nat) : Int)) b := fun q => r10_full_l0 hlen hb d (i + 1) (by omega) (by omega) (fun j hj => by
      by_cases e : j = i
      · rw [e]; exact q
      · exact hp j (by omega))
    obtain ⟨x, hx⟩ : ∃ x, rd_T31 l (i : Int) = x := ⟨_, rfl⟩
    have hOk : Ok1 l i ↔ ItemOK x ∧ (0 < i → lt (rd_T31 l ((i : Int) - 1)).f0 x.f0 = true) ∧ (x.f1 = ⟨#[]⟩ ∨ ∃ y, look l x.f1 = some y) := by unfold Ok1; rw [hx]
    have e1 : ((i : Int) < (l.length : Int)) = True := eq_true (by omega)
    have e2 : ((0 : Int) ≤ (i : Int)) = True := eq_true (by omega)
    have e3 : wrap64 ((i : Int) + 1) = ((i + 1 : Nat) : Int) := by rw [w64 (by omega) (by omega)]; rfl
    have n0 : r10_MayName.f x.f0 = some (decide (x.f0 ≠ ⟨#[]⟩ ∧ x.f0.size ≤ 24)) := r10_MayName_eq _
    have n1 : r10_MayVec.f x.f2.f0 x.f2.f1 x.f2.f2 = some (decide (MayP x.f2)) := r10_MayVec_eq _ _ _
    have n2 : r10_MayVec.f x.f3.f0 x.f3.f1 x.f3.f2 = some (decide (MayP x.f3)) := r10_MayVec_eq _ _ _
    have n3 : r10_Le.f x.f4.f0 x.f4.f1 x.f4.f2 x.f2.f0 x.f2.f1 x.f2.f2 = some (decide (LeP x.f4 x.f2)) := r10_Le_eq _ _ _ _ _ _
    have n4 : r10_MayVec.f x.f4.f0 x.f4.f1 x.f4.f2 = some (decide (MayP x.f4)) := r10_MayVec_eq _ _ _
    refine Ev.step (fun k => r10_Right.l0.eq_2 (k := k) ..) ?_
    simp only [e1, e2, if_true, hx, n0, n1, n2, n3, n4, Option.bind_some, e3, decide_eq_true_eq]
    by_cases m0 : x.f0 ≠ ⟨#[]⟩ ∧ x.f0.size ≤ 24
    case neg => exact Ev.congr (fun k => if_neg m0) (hbad fun q => m0 ⟨(hOk.1 q).1.name, (hOk.1 q).1.size⟩)
    refine Ev.congr (fun k => if_pos m0) ?_
    have hver : (0 < i → lt (rd_T31 l ((i : Int) - 1)).f0 x.f0 = true) → MayP x.f2 → MayP x.f3 → (x.f1 = ⟨#[]⟩ ∨ ∃ y, look l x.f1 = some y) →
        Ev (fun k => if x.f5 < 1 then some false else if x.f5 > 9007199254740992 then some false else if LeP x.f4 x.f2 then (if MayP x.f4 then r10_Right.l0 k l ((i + 1 : Nat) : Int) else some false) else some false) b := fun ho ml mo hpar => by
      by_cases v1 : x.f5 < 1
      · exact Ev.congr (fun k => if_pos v1) (hbad fun q => by have := (hOk.1 q).1.ver; omega)
      refine Ev.congr (fun k => if_neg v1) ?_
      by_cases v2 : x.f5 > 9007199254740992
      · exact Ev.congr (fun k => if_pos v2) (hbad fun q => by have := (hOk.1 q).1.ver; omega)
      refine Ev.congr (fun k => if_neg v2) ?_
      by_cases v3 : LeP x.f4 x.f2
      case neg => exact Ev.congr (fun k => if_neg v3) (hbad fun q => v3 (hOk.1 q).1.fit)
      refine Ev.congr (fun k => if_pos v3) ?_
      by_cases v4 : MayP x.f4
      case neg => exact Ev.congr (fun k => if_neg v4) (hbad fun q => v4 (hOk.1 q).1.sub)
      exact Ev.congr (fun k => if_pos v4) (hnext (hOk.2 ⟨⟨m0.1, m0.2, ml, mo, v4, v3, by omega⟩, ho, hpar⟩))
    have hpar : (0 < i → lt (rd_T31 l ((i : Int) - 1)).f0 x.f0 = true) → Ev (fun k => if MayP x.f2 then (if MayP x.f3 then (if x.f1.toList = ([] : List UInt8) then (if x.f5 < 1 then some false else if x.f5 > 9007199254740992 then some false else if LeP x.f4 x.f2 then (if MayP x.f4 then r10_Right.l0 k l ((i + 1 : Nat) : Int) else some false) else some false) else ((r10_Find.f k l x.f1).bind fun t9 => (if t9 < 0 then some false else (if x.f5 < 1 then some false else if x.f5 > 9007199254740992 then some false else if LeP x.f4 x.f2 then (if MayP x.f4 then r10_Right.l0 k l ((i + 1 : Nat) : Int) else some false) else some false)))) else some false) else some false) b := fun ho => by
      by_cases ml : MayP x.f2
      case neg => exact Ev.congr (fun k => if_neg ml) (hbad fun q => ml (hOk.1 q).1.lim)
      refine Ev.congr (fun k => if_pos ml) ?_
      by_cases mo : MayP x.f3
      case neg => exact Ev.congr (fun k => if_neg mo) (hbad fun q => mo (hOk.1 q).1.own)
      refine Ev.congr (fun k => if_pos mo) ?_
      by_cases hp : x.f1 = ⟨#[]⟩
      · exact Ev.congr (fun k => if_pos (nm_empty.2 hp)) (hver ho ml mo (.inl hp))
      · refine Ev.congr (fun k => if_neg (fun z => hp (nm_empty.1 z))) (Ev.bind (r10_Find_ev l x.f1 (by omega)) ?_)
        by_cases hf : fnd l x.f1 < 0
        · refine Ev.congr (fun k => if_pos hf) (hbad fun q => ?_)
          rcases (hOk.1 q).2.2 with z | ⟨y, hy⟩
          · exact hp z
          · rw [fnd_neg.1 hf] at hy; cases hy
        · exact Ev.congr (fun k => if_neg hf) (hver ho ml mo (.inr (fnd_ge.1 (by omega))))
    by_cases hi0 : (i : Int) > 0
    · have e4 : wrap64 ((i : Int) - 1) = (i : Int) - 1 := w64 (by omega) (by omega)
      have e5 : ((i : Int) > 0) = True := eq_true hi0
      have e6 : (0 ≤ (i : Int) - 1) = True := eq_true (by omega)
      have e7 : ((i : Int) - 1 < (l.length : Int)) = True := eq_true (by omega)
      simp only [e4, e5, e6, e7, if_true]
      by_cases m2 : lt (rd_T31 l ((i : Int) - 1)).f0 x.f0 = true
      · exact Ev.congr (fun k => if_pos m2) (hpar (fun _ => m2))
      · exact Ev.congr (fun k => if_neg m2) (hbad fun q => m2 ((hOk.1 q).2.1 (by omega)))
    · have e5 : ((i : Int) > 0) = False := eq_false hi0
      simp only [e5, if_false]
      exact hpar (fun q => absurd q (by omega))
theorem r10_Right_ev (l : List Item) {b : Bool} (hb : b = true ↔ RightP l) : Ev (fun k => r10_Right.f k l) b := by
  unfold r10_Right.f
  by_cases h : (l.length : Int) > 120
  · refine Ev.congr (fun k => if_pos h) ?_
    cases b with
    | false => exact Ev.now _
    | true => exact absurd (hb.1 rfl).len (by omega)
  · exact Ev.congr (fun k => if_neg h) (r10_full_l0 (by omega) hb _ 0 rfl (by omega) (fun j hj => absurd hj (by omega)))
end Go.Proofs.Ytcgefpklljclgaa.Print

namespace Go.Proofs.Ytcgefpklljclgaa.Print
open Go.RowKit Go.Proofs.YtcgefpklljclgaaW.PrintWords Go.Proofs.YtcgefpklljclgaaW.PrintLast Go.Proofs.YtcgefpklljclgaaW.PrintMore
set_option linter.unusedVariables false
set_option linter.unusedSimpArgs false
/-! more than a statement goes through? -/
theorem great_l0 (l : List Item) : ∀ (d i : Nat), 150 - i = d → i ≤ 150 → i ≤ l.length → ∃ g, Ev (fun k => law12_Great.l0 k l i) g ∧ (g = false → l.length ≤ 130)
  | 0, i, hd, hi, hl => by
    obtain rfl : i = 150 := by omega
    have hj : Ev (fun k => law12_Great.j1 k l ((150 : Nat) : Int) false) (decide ((l.length : Int) > 130)) := by
      refine Ev.step (fun k => law12_Great.j1.eq_2 (k := k) ..) ?_
      simp only [Bool.false_eq_true, if_false]
      exact Ev.now _
    refine ⟨decide ((l.length : Int) > 130), ?_, fun h => by have := of_decide_eq_false h; omega⟩
    refine Ev.step (fun k => law12_Great.l0.eq_2 (k := k) ..) ?_
    rw [show decide (((150 : Nat) : Int) < 150) = false from by decide]
    by_cases h : ((150 : Nat) : Int) < (l.length : Int)
    · exact Ev.congr (fun k => if_pos h) hj
    · exact Ev.congr (fun k => if_neg h) hj
  | d + 1, i, hd, hi, hl => by
    by_cases h : (i : Int) < (l.length : Int)
    · have hj : ∃ g, Ev (fun k => law12_Great.j1 k l (i : Int) true) g ∧ (g = false → l.length ≤ 130) := by
        have e1 : ((0 : Int) ≤ (i : Int)) = True := eq_true (by omega)
        have e2 : ((i : Int) < (l.length : Int)) = True := eq_true h
        have e3 : wrap64 ((i : Int) + 1) = ((i + 1 : Nat) : Int) := by rw [w64 (by omega) (by omega)]; rfl
        by_cases h1 : ((rd_T31 l (i : Int)).f0.size : Int) > 100
        · refine ⟨true, ?_, fun q => by cases q⟩
          refine Ev.step (fun k => law12_Great.j1.eq_2 (k := k) ..) ?_
          simp only [e1, e2, if_true]
          exact Ev.congr (fun k => if_pos h1) (Ev.now _)
        by_cases h2 : ((rd_T31 l (i : Int)).f1.size : Int) > 100
        · refine ⟨true, ?_, fun q => by cases q⟩
          refine Ev.step (fun k => law12_Great.j1.eq_2 (k := k) ..) ?_
          simp only [e1, e2, if_true]
          exact Ev.congr (fun k => (if_neg h1).trans (if_pos h2)) (Ev.now _)
        · obtain ⟨g, hg, hg2⟩ := great_l0 l d (i + 1) (by omega) (by omega) (by omega)
          refine ⟨g, ?_, hg2⟩
          refine Ev.step (fun k => law12_Great.j1.eq_2 (k := k) ..) ?_
          simp only [e1, e2, e3, if_true]
          exact Ev.congr (fun k => (if_neg h1).trans (if_neg h2)) hg
      obtain ⟨g, hg, hg2⟩ := hj
      refine ⟨g, ?_, hg2⟩
      refine Ev.step (fun k => law12_Great.l0.eq_2 (k := k) ..) ?_
      rw [show decide ((i : Int) < 150) = true from decide_eq_true (by omega)]
      exact Ev.congr (fun k => if_pos h) hg
    · refine ⟨decide ((l.length : Int) > 130), ?_, fun h => by have := of_decide_eq_false h; omega⟩
      refine Ev.step (fun k => law12_Great.l0.eq_2 (k := k) ..) ?_
      refine Ev.congr (fun k => if_neg h) ?_
      refine Ev.step (fun k => law12_Great.j1.eq_2 (k := k) ..) ?_
      simp only [Bool.false_eq_true, if_false]
      exact Ev.now _
theorem great_ev (l : List Item) : ∃ g, Ev (fun k => law12_Great.f k l) g ∧ (g = false → l.length ≤ 130) := great_l0 l _ 0 rfl (by omega) (by omega)
/-- the document's answer, true or not -/
theorem r10_Right_some (l : List Item) : ∃ b, Ev (fun k => r10_Right.f k l) b ∧ (b = true ↔ RightP l) := by
  by_cases h : RightP l
  · exact ⟨true, r10_Right_ev l (by simp [h]), by simp [h]⟩
  · exact ⟨false, r10_Right_ev l (by simp [h]), by simp [h]⟩
end Go.Proofs.Ytcgefpklljclgaa.Print

namespace Go.Proofs.Ytcgefpklljclgaa.Print
open Go.RowKit Go.Proofs.YtcgefpklljclgaaW.PrintWords Go.Proofs.YtcgefpklljclgaaW.PrintLast Go.Proofs.YtcgefpklljclgaaW.PrintMore
attribute [local go_sem] max2_int min2_int max_two min_two max_three min_three max_four min_four   -- for this text's walks alone
set_option linter.unusedVariables false
set_option linter.unusedSimpArgs false
end Go.Proofs.Ytcgefpklljclgaa.Print

namespace Go.Proofs.Ytcgefpklljclgaa.Print
open Go.RowKit Go.Proofs.YtcgefpklljclgaaW.PrintWords Go.Proofs.YtcgefpklljclgaaW.PrintLast Go.Proofs.YtcgefpklljclgaaW.PrintMore
attribute [local go_sem] max2_int min2_int max_two min_two max_three min_three max_four min_four   -- for this text's walks alone
set_option linter.unusedVariables false
set_option linter.unusedSimpArgs false
end Go.Proofs.Ytcgefpklljclgaa.Print

namespace Go.Proofs.Ytcgefpklljclgaa.Print
open Go.RowKit Go.Proofs.YtcgefpklljclgaaW.PrintWords Go.Proofs.YtcgefpklljclgaaW.PrintLast Go.Proofs.YtcgefpklljclgaaW.PrintMore
attribute [local go_sem] max2_int min2_int max_two min_two max_three min_three max_four min_four   -- for this text's walks alone
set_option linter.unusedVariables false
set_option linter.unusedSimpArgs false
end Go.Proofs.Ytcgefpklljclgaa.Print

namespace Go.Proofs.Ytcgefpklljclgaa.Print
open Go.RowKit Go.Proofs.YtcgefpklljclgaaW.PrintWords Go.Proofs.YtcgefpklljclgaaW.PrintLast Go.Proofs.YtcgefpklljclgaaW.PrintMore
attribute [local go_sem] max2_int min2_int max_two min_two max_three min_three max_four min_four   -- for this text's walks alone
set_option linter.unusedVariables false
set_option linter.unusedSimpArgs false
end Go.Proofs.Ytcgefpklljclgaa.Print

namespace Go.Proofs.Ytcgefpklljclgaa.Print
open Go.RowKit Go.Proofs.YtcgefpklljclgaaW.PrintWords Go.Proofs.YtcgefpklljclgaaW.PrintLast Go.Proofs.YtcgefpklljclgaaW.PrintMore
attribute [local go_sem] max2_int min2_int max_two min_two max_three min_three max_four min_four   -- for this text's walks alone
set_option linter.unusedVariables false
set_option linter.unusedSimpArgs false
end Go.Proofs.Ytcgefpklljclgaa.Print

namespace Go.Proofs.Ytcgefpklljclgaa.Print
open Go.RowKit Go.Proofs.YtcgefpklljclgaaW.PrintWords Go.Proofs.YtcgefpklljclgaaW.PrintLast Go.Proofs.YtcgefpklljclgaaW.PrintMore
attribute [local go_sem] max2_int min2_int max_two min_two max_three min_three max_four min_four   -- for this text's walks alone
set_option linter.unusedVariables false
set_option linter.unusedSimpArgs false
theorem eqA31 (d : Nat) (w : World) (x0 y0 : ByteArray) (x1 y1 : ByteArray) (x2 y2 : Int) (x3 y3 : Int) (x4 y4 : Int) (x5 y5 : Int) (x6 y6 : Int) (x7 y7 : Int) (x8 y8 : Int) (x9 y9 : Int) (x10 y10 : Int) (x11 y11 : Int) :
    (Op.equalIn (d + 3) 31 (.agg #[.string x0, .string x1, .int .i64 x2, .int .i64 x3, .int .i64 x4, .int .i64 x5, .int .i64 x6, .int .i64 x7, .int .i64 x8, .int .i64 x9, .int .i64 x10, .int .i64 x11]) (.agg #[.string y0, .string y1, .int .i64 y2, .int .i64 y3, .int .i64 y4, .int .i64 y5, .int .i64 y6, .int .i64 y7, .int .i64 y8, .int .i64 y9, .int .i64 y10, .int .i64 y11])).run Try.prog w = .ok (x0.toList == y0.toList && (x1.toList == y1.toList && ((x2 == y2 && (x3 == y3 && (x4 == y4))) && ((x5 == y5 && (x6 == y6 && (x7 == y7))) && ((x8 == y8 && (x9 == y9 && (x10 == y10))) && (x11 == y11)))))) w := by
  refine eqA_of Try.underlying31 (by kernel_rfl) ?_
  refine eqf_cons (by rfl) (by go_simp; rfl) (by go_simp; rfl) (by go_simp) ?_
  refine eqf_cons (by rfl) (by go_simp; rfl) (by go_simp; rfl) (by go_simp) ?_
  refine eqf_cons (by rfl) (by go_simp) (by go_simp) (eqA27 (d + 0) w _ _ _ _ _ _) ?_
  refine eqf_cons (by rfl) (by go_simp) (by go_simp) (eqA27 (d + 0) w _ _ _ _ _ _) ?_
  refine eqf_cons (by rfl) (by go_simp) (by go_simp) (eqA27 (d + 0) w _ _ _ _ _ _) ?_
  exact eqf_last (by rfl) (by go_simp; rfl) (by go_simp; rfl) (by go_simp)
end Go.Proofs.Ytcgefpklljclgaa.Print

namespace Go.Proofs.Ytcgefpklljclgaa.Print
open Go.RowKit Go.Proofs.YtcgefpklljclgaaW.PrintWords Go.Proofs.YtcgefpklljclgaaW.PrintLast Go.Proofs.YtcgefpklljclgaaW.PrintMore
attribute [local go_sem] max2_int min2_int max_two min_two max_three min_three max_four min_four   -- for this text's walks alone
set_option linter.unusedVariables false
set_option linter.unusedSimpArgs false
attribute [local go_sem high] eqA31
end Go.Proofs.Ytcgefpklljclgaa.Print

namespace Go.Proofs.Ytcgefpklljclgaa.Print
open Go.RowKit Go.Proofs.YtcgefpklljclgaaW.PrintWords Go.Proofs.YtcgefpklljclgaaW.PrintLast Go.Proofs.YtcgefpklljclgaaW.PrintMore
set_option linter.unusedVariables false
set_option linter.unusedSimpArgs false
/-! letting in, as the program does it -/
theorem vec_Le_eq (a b d a' b' d' : Int) : vec_Le.f a b d a' b' d' = some (decide (LeP ⟨a, b, d⟩ ⟨a', b', d'⟩)) := by
  unfold vec_Le.f
  by_cases h0 : a ≤ a' <;> by_cases h1 : b ≤ b' <;> simp [h0, h1, leP_iff]
theorem vec_May_eq (a b d : Int) : vec_May.f a b d = some (decide (MayP ⟨a, b, d⟩)) := by
  unfold vec_May.f vec_Most.f
  simp only [vec_Le_eq, Option.bind_some]
  by_cases h : LeP ⟨0, 0, 0⟩ ⟨a, b, d⟩
  · rw [if_pos (by exact decide_eq_true h)]
    congr 1
    rw [Bool.eq_iff_iff, decide_eq_true_iff, decide_eq_true_iff, mayP_iff, leP_iff]
    rw [leP_iff] at h
    constructor <;> intro k <;> omega
  · rw [if_neg (by simpa using h)]
    congr 1
    symm
    rw [decide_eq_false_iff_not, mayP_iff]
    rw [leP_iff] at h
    omega
end Go.Proofs.Ytcgefpklljclgaa.Print

namespace Go.Proofs.Ytcgefpklljclgaa.Print
open Go.RowKit Go.Proofs.YtcgefpklljclgaaW.PrintWords Go.Proofs.YtcgefpklljclgaaW.PrintLast Go.Proofs.YtcgefpklljclgaaW.PrintMore
set_option linter.unusedVariables false
set_option linter.unusedSimpArgs false
/-! the program's answer whether a tree is right -/
def MayN (x : Item) : Prop := x.f0 ≠ ⟨#[]⟩ ∧ x.f0.size ≤ 24 ∧ MayP x.f2 ∧ MayP x.f3 ∧ 1 ≤ x.f5 ∧ x.f5 ≤ 9007199254740992
instance (x : Item) : Decidable (MayN x) := by unfold MayN; infer_instance
theorem node_may_eq (x : Item) : tree_node_may.f x.f0 x.f1 x.f2.f0 x.f2.f1 x.f2.f2 x.f3.f0 x.f3.f1 x.f3.f2 x.f4.f0 x.f4.f1 x.f4.f2 x.f5 ([] : List Vec) = some (decide (MayN x)) := by
  unfold tree_node_may.f MayN
  simp only [vec_May_eq, Option.bind_some]
  by_cases h0 : x.f0 = ⟨#[]⟩
  · rw [if_pos (nm_empty.2 h0)]; simp [h0]
  rw [if_neg (fun q => h0 (nm_empty.1 q))]
  by_cases h1 : x.f0.size ≤ 24
  · rw [if_pos (by omega)]
    by_cases h2 : MayP x.f2
    · rw [if_pos (by exact decide_eq_true h2)]
      by_cases h3 : MayP x.f3
      · rw [if_pos (by exact decide_eq_true h3)]
        by_cases h4 : 1 ≤ x.f5
        · rw [if_pos h4]; simp [h0, h1, h2, h3, h4]
        · rw [if_neg h4]; simp [h4]
      · rw [if_neg (by simpa using h3)]; simp [h3]
    · rw [if_neg (by simpa using h2)]; simp [h2]
  · rw [if_neg (by omega)]; simp [h1]
/-- what the first pass asks of a place -/
def PA (l : List Item) (i : Nat) : Prop := MayN (rd_T31 l i) ∧ (0 < i → lt (rd_T31 l ((i : Int) - 1)).f0 (rd_T31 l i).f0 = true) ∧ ((rd_T31 l i).f1 = ⟨#[]⟩ ∨ ∃ y, look l (rd_T31 l i).f1 = some y) ∧ Ok3 l i ∧ MayP (rd_T31 l i).f4
/-- and the second -/
def PB (l : List Item) (i : Nat) : Prop := Ok2 l i ∧ LeP (rd_T31 l i).f4 (rd_T31 l i).f2
theorem right_PA {l : List Item} (h : RightP l) {i : Nat} (hi : i < l.length) : PA l i ∧ PB l i := by
  obtain ⟨h1, h2, h3, h4⟩ := (rightP_iff l).1 h
  obtain ⟨a, b, d⟩ := h2 i hi
  exact ⟨⟨⟨a.name, a.size, a.lim, a.own, a.ver⟩, b, d, h4 i hi, a.sub⟩, h3 i hi, a.fit⟩
theorem PA_right {l : List Item} (h1 : l.length ≤ 120) (ha : ∀ i, i < l.length → PA l i) (hb : ∀ i, i < l.length → PB l i) : RightP l :=
  (rightP_iff l).2 ⟨h1, fun i hi => by
    obtain ⟨⟨a1, a2, a3, a4, a5⟩, b, d, e, f⟩ := ha i hi
    exact ⟨⟨a1, a2, a3, a4, f, (hb i hi).2, a5⟩, b, d⟩, fun i hi => (hb i hi).1, fun i hi => (ha i hi).2.2.2.1⟩
theorem kids_sum (l : List Item) (n : ByteArray) : addV ⟨0, 0, 0⟩ (l.filter (fun y => decide (y.f1 = n))) = ⟨csum .cpu l n, csum .mem l n, csum .pods l n⟩ := by
  unfold addV csum
  simp only [sumBy_filter, decide_eq_true_eq, Comp.of, Int.zero_add]
theorem node_fits_eq {l : List Item} (hlen : l.length ≤ 120) (ha : ∀ i, i < l.length → PA l i) {i : Nat} (hi : i < l.length) {x : Item} (hx : rd_T31 l i = x) {b : Bool} (hb : b = true ↔ PB l i) :
    tree_node_fits.f x.f0 x.f1 x.f2.f0 x.f2.f1 x.f2.f2 x.f3.f0 x.f3.f1 x.f3.f2 x.f4.f0 x.f4.f1 x.f4.f2 x.f5 ((l.filter (fun y => decide (y.f1 = x.f0))).map (·.f4)) = some b := by
  have hfl := List.length_filter_le (fun y : Item => decide (y.f1 = x.f0)) l
  have hsub : ∀ y ∈ l, MayP y.f4 := fun y hy => by
    obtain ⟨j, hj, e⟩ := List.getElem_of_mem hy
    have := (ha j hj).2.2.2.2
    rw [rd_get hj, e] at this
    exact this
  have hown : MayP x.f3 := by rw [← hx]; exact (ha i hi).1.2.2.2.1
  unfold tree_node_fits.f
  rw [if_pos (by rw [List.length_map]; omega)]
  unfold vec_Add.f
  rw [vecByF_snoc]
  have h := vecAdd_items (l.filter (fun y => decide (y.f1 = x.f0))) ⟨0, 0, 0⟩ 0 small_zero (fun y hy => hsub y (List.mem_filter.1 hy).1) (by omega)
  dsimp only at h
  rw [h, kids_sum]
  have hcs : ∀ c : Comp, 0 ≤ csum c l x.f0 ∧ csum c l x.f0 ≤ 1099511627776 * l.length := fun c => by
    refine ⟨sumBy_nonneg fun y hy => ?_, sumBy_le fun y hy => ?_⟩
    · split
      · exact (hsub y hy c).1
      · omega
    · split
      · exact (hsub y hy c).2
      · omega
  have c0 := hcs .cpu; have c1 := hcs .mem; have c2 := hcs .pods
  have o0 := hown .cpu; have o1 := hown .mem; have o2 := hown .pods
  simp only [Comp.of] at o0 o1 o2
  dsimp only
  rw [w64 (n := csum .cpu l x.f0 + x.f3.f0) (by omega) (by omega), w64 (n := csum .mem l x.f0 + x.f3.f1) (by omega) (by omega), w64 (n := csum .pods l x.f0 + x.f3.f2) (by omega) (by omega)]
  simp only [Option.bind_some, vec_Le_eq]
  have hok : Ok2 l i ↔ x.f4.f0 = csum .cpu l x.f0 + x.f3.f0 ∧ x.f4.f1 = csum .mem l x.f0 + x.f3.f1 ∧ x.f4.f2 = csum .pods l x.f0 + x.f3.f2 := by
    unfold Ok2
    rw [hx, comp_all]
    simp only [Comp.of]
    constructor
    · rintro ⟨a, b, d⟩; omega
    · rintro ⟨a, b, d⟩; omega
  have hle : PB l i ↔ Ok2 l i ∧ LeP x.f4 x.f2 := by unfold PB; rw [hx]
  rw [hle, hok] at hb
  by_cases q : x.f4.f0 = csum .cpu l x.f0 + x.f3.f0 ∧ x.f4.f1 = csum .mem l x.f0 + x.f3.f1 ∧ x.f4.f2 = csum .pods l x.f0 + x.f3.f2
  · obtain ⟨q0, q1, q2⟩ := q
    rw [if_pos (by simp [q0, q1, q2])]
    congr 1
    rw [Bool.eq_iff_iff, hb, decide_eq_true_iff]
    exact ⟨fun z => ⟨⟨q0, q1, q2⟩, z⟩, fun z => z.2⟩
  · rw [if_neg (by simpa using q)]
    congr 1
    cases b with
    | false => rfl
    | true => exact absurd (hb.1 rfl).1 q
theorem tree_Right_l2 {l : List Item} (hlen : l.length ≤ 120) (ha : ∀ i, i < l.length → PA l i) {i : Nat} (hi : i < l.length) {x : Item} (hx : rd_T31 l i = x) {b : Bool} (h0 : ¬ PB l i → b = false)
    (h1 : PB l i → Ev (fun k => tree_Right.l1 k l l (l.length : Int) ((i + 1 : Nat) : Int)) b) : ∀ (d j : Nat), l.length - j = d → j ≤ l.length →
    Ev (fun k => tree_Right.l2 k l l (l.length : Int) i l (l.length : Int) j x.f0 x.f1 x.f2.f0 x.f2.f1 x.f2.f2 x.f3.f0 x.f3.f1 x.f3.f2 x.f4.f0 x.f4.f1 x.f4.f2 x.f5 x.f0 x.f1 x.f2.f0 x.f2.f1 x.f2.f2 x.f3.f0 x.f3.f1 x.f3.f2 x.f4.f0 x.f4.f1 x.f4.f2 x.f5 (((l.take j).filter (fun y => decide (y.f1 = x.f0))).map (·.f4))) b
  | 0, j, hd, hj => by
    obtain rfl : j = l.length := by omega
    rw [List.take_length]
    refine Ev.step (fun k => tree_Right.l2.eq_2 (k := k) ..) ?_
    simp only [Int.lt_irrefl, if_false]
    by_cases hb : PB l i
    · simp only [node_fits_eq hlen ha hi hx (b := true) (by simp [hb]), Option.bind_some, if_true]
      rw [w64 (by omega) (by omega)]
      exact h1 hb
    · simp only [node_fits_eq hlen ha hi hx (b := false) (by simp [hb]), Option.bind_some, Bool.false_eq_true, if_false]
      rw [h0 hb]
      exact Ev.now _
  | d + 1, j, hd, hj => by
    have hlt : j < l.length := by omega
    have ih := tree_Right_l2 hlen ha hi hx h0 h1 d (j + 1) (by omega) (by omega)
    have hrd := rd_get hlt
    rw [List.take_succ_eq_append_getElem hlt, List.filter_append, List.map_append] at ih
    generalize l[j] = y at hrd ih
    refine Ev.step (fun k => tree_Right.l2.eq_2 (k := k) ..) ?_
    have e1 : ((j : Int) < (l.length : Int)) = True := eq_true (by omega)
    have e2 : ((0 : Int) ≤ (j : Int)) = True := eq_true (by omega)
    have e3 : wrap64 ((j : Int) + 1) = ((j + 1 : Nat) : Int) := by rw [w64 (by omega) (by omega)]; rfl
    simp only [e1, e2, if_true, hrd, e3]
    by_cases hy : y.f1 = x.f0
    · have e4 : (y.f1.toList = x.f0.toList) = True := eq_true (nm_inj.2 hy)
      have e5 : ((((l.take j).filter (fun y => decide (y.f1 = x.f0))).map (·.f4)).length < 5864062014805) = True := eq_true (by
        rw [List.length_map]
        have := List.length_filter_le (fun y : Item => decide (y.f1 = x.f0)) (l.take j)
        rw [List.length_take] at this
        omega)
      simp only [e4, e5, if_true]
      rw [List.filter_cons_of_pos (by simpa using hy)] at ih
      exact ih
    · have e4 : (y.f1.toList = x.f0.toList) = False := eq_false (fun q => hy (nm_inj.1 q))
      simp only [e4, if_false]
      rw [List.filter_cons_of_neg (by simpa using hy), List.filter_nil, List.map_nil, List.append_nil] at ih
      exact ih
theorem tree_Right_l1 {l : List Item} (hlen : l.length ≤ 120) (ha : ∀ i, i < l.length → PA l i) {b : Bool} (hb : b = true ↔ RightP l) : ∀ (d i : Nat), l.length - i = d → i ≤ l.length → (∀ j, j < i → PB l j) → Ev (fun k => tree_Right.l1 k l l (l.length : Int) i) b
  | 0, i, hd, hi, hp => by
    obtain rfl : i = l.length := by omega
    refine Ev.step (fun k => tree_Right.l1.eq_2 (k := k) ..) ?_
    simp only [Int.lt_irrefl, if_false]
    rw [hb.2 (PA_right hlen ha hp)]
    exact Ev.now _
  | d + 1, i, hd, hi, hp => by
    have hlt : i < l.length := by omega
    refine Ev.step (fun k => tree_Right.l1.eq_2 (k := k) ..) ?_
    have e1 : ((i : Int) < (l.length : Int)) = True := eq_true (by omega)
    have e2 : ((0 : Int) ≤ (i : Int)) = True := eq_true (by omega)
    simp only [e1, e2, if_true]
    have := tree_Right_l2 hlen ha hlt (x := rd_T31 l i) rfl (b := b) (fun q => by
      cases b with
      | false => rfl
      | true => exact absurd (right_PA (hb.1 rfl) hlt).2 q) (fun q => tree_Right_l1 hlen ha hb d (i + 1) (by omega) (by omega) (fun j hj => by
        by_cases e : j = i
        · rw [e]; exact q
        · exact hp j (by omega))) _ 0 rfl (by omega)
    rw [List.take_zero] at this
    exact this
theorem tree_Right_l0 {l : List Item} (hlen : l.length ≤ 120) {b : Bool} (hb : b = true ↔ RightP l) : ∀ (d i : Nat), l.length - i = d → i ≤ l.length → (∀ j, j < i → PA l j) → Ev (fun k => tree_Right.l0 k l l (l.length : Int) i) b
  | 0, i, hd, hi, hp => by
    obtain rfl : i = l.length := by omega
    refine Ev.step (fun k => tree_Right.l0.eq_2 (k := k) ..) ?_
    simp only [Int.lt_irrefl, if_false]
    exact tree_Right_l1 hlen hp hb _ 0 rfl (by omega) (fun j hj => absurd hj (by omega))
  | d + 1, i, hd, hi, hp => by
    have hlt : i < l.length := by omega
    have hno : ¬ PA l i → b = false := fun q => by
      cases b with
      | false => rfl
      | true => exact absurd (right_PA (hb.1 rfl) hlt).1 q
    have hnext : PA l i → Ev (fun k => tree_Right.l0 k l l (l.length : Int) ((i + 1 : Nat) : Int)) b := fun q => tree_Right_l0 hlen hb d (i + 1) (by omega) (by omega) (fun j hj => by
      by_cases e : j = i
      · rw [e]; exact q
      · exact hp j (by omega))
    have e1 : ((i : Int) < (l.length : Int)) = True := eq_true (by omega)
    have e2 : ((0 : Int) ≤ (i : Int)) = True := eq_true (by omega)
    have e3 : wrap64 ((i : Int) + 1) = ((i + 1 : Nat) : Int) := by rw [w64 (by omega) (by omega)]; rfl
    obtain ⟨x, hx⟩ : ∃ x, rd_T31 l (i : Int) = x := ⟨_, rfl⟩
    have hPA : PA l i ↔ MayN x ∧ (0 < i → lt (rd_T31 l ((i : Int) - 1)).f0 x.f0 = true) ∧ (x.f1 = ⟨#[]⟩ ∨ ∃ y, look l x.f1 = some y) ∧ (up l x.f0).length ≤ l.length ∧ MayP x.f4 := by unfold PA Ok3; rw [hx]
    refine Ev.step (fun k => tree_Right.l0.eq_2 (k := k) ..) ?_
    simp only [e1, e2, if_true, hx, node_may_eq, Option.bind_some]
    refine Ev.bind (tree_Up_ev l x.f0 (by omega)) ?_
    have jbad : ¬ PA l i → Ev (fun k => tree_Right.j1 k l l (l.length : Int) i true x.f0 x.f1 x.f2.f0 x.f2.f1 x.f2.f2 x.f3.f0 x.f3.f1 x.f3.f2 x.f4.f0 x.f4.f1 x.f4.f2 x.f5) b := fun q => by
      refine Ev.step (fun k => tree_Right.j1.eq_2 (k := k) ..) ?_
      simp only [if_true]
      rw [hno q]; exact Ev.now _
    have jrest : MayN x → (0 < i → lt (rd_T31 l ((i : Int) - 1)).f0 x.f0 = true) → (x.f1 = ⟨#[]⟩ ∨ ∃ y, look l x.f1 = some y) → Ev (fun k => tree_Right.j1 k l l (l.length : Int) i (decide (((up l x.f0).length : Int) > (l.length : Int))) x.f0 x.f1 x.f2.f0 x.f2.f1 x.f2.f2 x.f3.f0 x.f3.f1 x.f3.f2 x.f4.f0 x.f4.f1 x.f4.f2 x.f5) b := fun m1 m2 m3 => by
      by_cases hu : (up l x.f0).length ≤ l.length
      · rw [decide_eq_false (by omega)]
        refine Ev.step (fun k => tree_Right.j1.eq_2 (k := k) ..) ?_
        simp only [Bool.false_eq_true, if_false, vec_May_eq, Option.bind_some, decide_eq_true_eq]
        by_cases hs : MayP x.f4
        · have hs' : MayP ⟨x.f4.f0, x.f4.f1, x.f4.f2⟩ = True := eq_true hs
          simp only [hs', if_true, e3]
          exact hnext (hPA.2 ⟨m1, m2, m3, hu, hs⟩)
        · have hs' : MayP ⟨x.f4.f0, x.f4.f1, x.f4.f2⟩ = False := eq_false hs
          simp only [hs', if_false]
          rw [hno (fun q => hs (hPA.1 q).2.2.2.2)]; exact Ev.now _
      · rw [decide_eq_true (by omega)]
        exact jbad (fun q => hu (hPA.1 q).2.2.2.1)
    have jpar : MayN x → (0 < i → lt (rd_T31 l ((i : Int) - 1)).f0 x.f0 = true) → Ev (fun k => if x.f1.toList = ([] : List UInt8) then tree_Right.j1 k l l (l.length : Int) i (decide (((up l x.f0).length : Int) > (l.length : Int))) x.f0 x.f1 x.f2.f0 x.f2.f1 x.f2.f2 x.f3.f0 x.f3.f1 x.f3.f2 x.f4.f0 x.f4.f1 x.f4.f2 x.f5 else ((tree_Find.f l x.f1).bind fun t8 => (if t8 < 0 then tree_Right.j1 k l l (l.length : Int) i true x.f0 x.f1 x.f2.f0 x.f2.f1 x.f2.f2 x.f3.f0 x.f3.f1 x.f3.f2 x.f4.f0 x.f4.f1 x.f4.f2 x.f5 else tree_Right.j1 k l l (l.length : Int) i (decide (((up l x.f0).length : Int) > (l.length : Int))) x.f0 x.f1 x.f2.f0 x.f2.f1 x.f2.f2 x.f3.f0 x.f3.f1 x.f3.f2 x.f4.f0 x.f4.f1 x.f4.f2 x.f5))) b := fun m1 m2 => by
      by_cases hp : x.f1 = ⟨#[]⟩
      · exact Ev.congr (fun k => if_pos (nm_empty.2 hp)) (jrest m1 m2 (.inl hp))
      · refine Ev.congr (fun k => if_neg (fun q => hp (nm_empty.1 q))) ?_
        simp only [tree_Find_eq, Option.bind_some]
        by_cases hf : fnd l x.f1 < 0
        · refine Ev.congr (fun k => if_pos hf) (jbad fun q => ?_)
          rcases (hPA.1 q).2.2.1 with z | ⟨y, hy⟩
          · exact hp z
          · rw [fnd_neg.1 hf] at hy; cases hy
        · exact Ev.congr (fun k => if_neg hf) (jrest m1 m2 (.inr (fnd_ge.1 (by omega))))
    by_cases m1 : MayN x
    · have m1' : decide (MayN x) = true := decide_eq_true m1
      simp only [m1', if_true]
      by_cases hi0 : (i : Int) > 0
      · have e4 : wrap64 ((i : Int) - 1) = (i : Int) - 1 := w64 (by omega) (by omega)
        have e5 : ((i : Int) > 0) = True := eq_true hi0
        have e6 : (0 ≤ (i : Int) - 1) = True := eq_true (by omega)
        have e7 : ((i : Int) - 1 < (l.length : Int)) = True := eq_true (by omega)
        simp only [e4, e5, e6, e7, if_true]
        by_cases m2 : lt (rd_T31 l ((i : Int) - 1)).f0 x.f0 = true
        · have m2' : (Op.bytesLess (rd_T31 l ((i : Int) - 1)).f0.toList x.f0.toList = true) = True := eq_true m2
          simp only [m2', if_true]
          exact jpar m1 (fun _ => m2)
        · have m2' : (Op.bytesLess (rd_T31 l ((i : Int) - 1)).f0.toList x.f0.toList = true) = False := eq_false m2
          simp only [m2', if_false]
          exact jbad (fun q => m2 ((hPA.1 q).2.1 (by omega)))
      · have e5 : ((i : Int) > 0) = False := eq_false hi0
        simp only [e5, if_false]
        exact jpar m1 (fun q => absurd q (by omega))
    · have m1' : decide (MayN x) = false := decide_eq_false m1
      simp only [m1', Bool.false_eq_true, if_false]
      exact jbad (fun q => m1 (hPA.1 q).1)
/-- whether a tree is right: the program's answer -/
theorem tree_Right_ev (l : List Item) {b : Bool} (hb : b = true ↔ RightP l) : Ev (fun k => tree_Right.f k l) b := by
  unfold tree_Right.f
  by_cases h : (l.length : Int) > 120
  · refine Ev.congr (fun k => if_pos h) ?_
    cases b with
    | false => exact Ev.now _
    | true => exact absurd (hb.1 rfl).len (by omega)
  · exact Ev.congr (fun k => if_neg h) (tree_Right_l0 (by omega) hb _ 0 rfl (by omega) (fun j hj => absurd hj (by omega)))
end Go.Proofs.Ytcgefpklljclgaa.Print

namespace Go.Proofs.Ytcgefpklljclgaa.Print
open Go.RowKit Go.Proofs.YtcgefpklljclgaaW.PrintWords Go.Proofs.YtcgefpklljclgaaW.PrintLast Go.Proofs.YtcgefpklljclgaaW.PrintMore
set_option linter.unusedVariables false
set_option linter.unusedSimpArgs false
theorem ta_awake_ev : Ev (fun k => law12_awake.f k) true := Ev.of (g := fun k => law12_awake.f k) (fun k => law12_awake.mono k) (k := 20) (by kernel_rfl)
theorem ta_texts_l0 (l : List ByteArray) (hl : l.length < 1000000) : ∀ (d i : Nat), l.length - i = d → i ≤ l.length → Ev (fun k => r1_Texts.l0 k l l i) true
  | 0, i, hd, hi => by
    refine Ev.step (f := fun _ => some true) (fun k => ?_) (Ev.now _)
    rw [r1_Texts.l0, if_neg (by omega)]
  | d + 1, i, hd, hi => by
    refine Ev.step (f := fun k => r1_Texts.l0 k l l ((i + 1 : Nat) : Int)) (fun k => ?_) (ta_texts_l0 l hl d (i + 1) (by omega) (by omega))
    rw [r1_Texts.l0, if_pos (by omega), if_pos (by omega), if_pos (by omega), if_pos rfl, w64 (by omega) (by omega)]
    rfl
theorem ta_texts (l : List ByteArray) (hl : l.length < 1000000) : Ev (fun k => r1_Texts.f k l l) true := Ev.congr (fun k => if_pos rfl) (ta_texts_l0 l hl _ 0 rfl (by omega))
theorem ta_below_l0 (l : List Item) (n : ByteArray) (hl : l.length < 1000000) : ∀ (d i : Nat) (acc : List ByteArray), l.length - i = d → i ≤ l.length → acc.length ≤ i → Ev (fun k => tree_Below.l0 k n acc l (l.length : Int) i) (acc ++ ((l.drop i).filter (fun x => decide (x.f1 = n))).map (·.f0))
  | 0, i, acc, hd, hi, ha => by
    obtain rfl : i = l.length := by omega
    rw [List.drop_length]
    refine Ev.step (f := fun _ => some acc) (fun k => ?_) (by rw [show acc ++ (([] : List Item).filter (fun x => decide (x.f1 = n))).map (·.f0) = acc from List.append_nil _]; exact Ev.now _)
    rw [tree_Below.l0, if_neg (by omega)]
  | d + 1, i, acc, hd, hi, ha => by
    have hlt : i < l.length := by omega
    have hrd : rd_T31 l (i : Int) = l[i] := by rw [rd_item, Int.toNat_natCast]; simp [hlt]
    rw [List.drop_eq_getElem_cons hlt]
    generalize l[i] = x at *
    by_cases h : x.f1 = n
    · rw [List.filter_cons_of_pos (by exact decide_eq_true h)]
      refine Ev.step (f := fun k => tree_Below.l0 k n (acc ++ [x.f0]) l (l.length : Int) ((i + 1 : Nat) : Int)) (fun k => ?_) ?_
      · rw [tree_Below.l0, if_pos (by omega), if_pos (by omega), if_pos (by omega), hrd, if_pos (nm_inj.2 h), if_pos (by omega), w64 (by omega) (by omega)]
        rfl
      · have := ta_below_l0 l n hl d (i + 1) (acc ++ [x.f0]) (by omega) (by omega) (by simp; omega)
        rw [List.append_assoc] at this
        exact this
    · rw [List.filter_cons_of_neg (by simpa using h)]
      refine Ev.step (f := fun k => tree_Below.l0 k n acc l (l.length : Int) ((i + 1 : Nat) : Int)) (fun k => ?_) (ta_below_l0 l n hl d (i + 1) acc (by omega) (by omega) (by omega))
      rw [tree_Below.l0, if_pos (by omega), if_pos (by omega), if_pos (by omega), hrd, if_neg (fun q => h (nm_inj.1 q)), w64 (by omega) (by omega)]
      rfl
theorem ta_below (l : List Item) (n : ByteArray) (hl : l.length < 1000000) : Ev (fun k => tree_Below.f k l n) (kids l n) := by
  have h := ta_below_l0 l n hl _ 0 [] rfl (by omega) (by simp)
  rw [List.drop_zero, List.nil_append] at h
  exact h
/-- all is told as the document says -/
theorem ta_same {l : List Item} (hl : l.length < 100000) (n : ByteArray) : Ev (fun k => law12_same.f k l n) true := by
  have hu := up_len l n
  have hk := kids_len l n
  unfold law12_same.f
  simp only [tree_Find_eq, Option.bind_some]
  refine Ev.bind (r10_Find_ev l n (by omega)) (Ev.congr (fun k => if_pos rfl) ?_)
  refine Ev.bind (tree_Up_ev l n (by omega)) (Ev.bind (r10_Up_ev l n (by omega)) (Ev.bind (ta_texts _ (by omega)) (Ev.congr (fun k => if_pos rfl) ?_)))
  refine Ev.bind (ta_below l n (by omega)) (Ev.bind (below_ev l n (by omega)) (Ev.bind (ta_texts _ (by omega)) (Ev.congr (fun k => if_pos rfl) ?_)))
  refine Ev.bind (r := true) (a := ((up l n).length : Int)) (Ev.bind (tree_Up_ev l n (by omega)) (Ev.now _)) (Ev.bind (r10_Up_ev l n (by omega)) ?_)
  rw [beq_self_eq_true]
  exact Ev.now _
end Go.Proofs.Ytcgefpklljclgaa.Print
namespace Go.Proofs.Ytcgefpklljclgaa.Pure
open Go.RowKit Go.Proofs.Ytcgefpklljclgaa.Print Go.Proofs.YtcgefpklljclgaaW.PrintWords Go.Proofs.YtcgefpklljclgaaW.PrintLast
set_option linter.unusedVariables false
set_option linter.unusedSimpArgs false
theorem TreeAll (l : List Print.Item) (n : ByteArray) : ∃ k, law12_TreeAll.f k l n = some true := by
  obtain ⟨g, hg, hg2⟩ := great_ev l
  unfold law12_TreeAll.f
  refine Ev.rounds (Ev.bind hg ?_)
  cases g with
  | true => exact Ev.congr (fun k => if_pos rfl) ta_awake_ev
  | false =>
    refine Ev.congr (fun k => if_neg (by simp)) ?_
    by_cases h : (n.size : Int) > 100
    · exact Ev.congr (fun k => if_pos h) ta_awake_ev
    refine Ev.congr (fun k => if_neg h) ?_
    have hlen := hg2 rfl
    obtain ⟨b, hb, hb2⟩ := r10_Right_some l
    refine Ev.bind (tree_Right_ev l hb2) (Ev.bind hb (Ev.congr (fun k => if_pos rfl) ?_))
    cases b with
    | false => exact Ev.congr (fun k => if_neg (by simp)) (Ev.now _)
    | true => exact Ev.congr (fun k => if_pos rfl) (Ev.bind (ta_same (by omega) n) (Ev.congr (fun k => if_pos rfl) ta_awake_ev))
end Go.Proofs.Ytcgefpklljclgaa.Pure

namespace Go.Proofs.Ytcgefpklljclgaa.Head
/-- the translation's head, sign by sign -/
def signs : List Char := [Char.ofNat 104, Char.ofNat 97, Char.ofNat 114, Char.ofNat 110, Char.ofNat 101, Char.ofNat 115, Char.ofNat 115, Char.ofNat 32, Char.ofNat 101, Char.ofNat 57, Char.ofNat 98, Char.ofNat 52, Char.ofNat 101, Char.ofNat 102, Char.ofNat 52, Char.ofNat 49, Char.ofNat 56, Char.ofNat 50, Char.ofNat 56, Char.ofNat 101, Char.ofNat 102, Char.ofNat 50, Char.ofNat 55, Char.ofNat 102, Char.ofNat 51, Char.ofNat 55, Char.ofNat 102, Char.ofNat 48, Char.ofNat 53, Char.ofNat 54, Char.ofNat 50, Char.ofNat 55, Char.ofNat 56, Char.ofNat 50, Char.ofNat 54, Char.ofNat 101, Char.ofNat 101, Char.ofNat 100, Char.ofNat 101, Char.ofNat 57, Char.ofNat 53, Char.ofNat 99, Char.ofNat 56, Char.ofNat 98, Char.ofNat 55, Char.ofNat 57, Char.ofNat 99, Char.ofNat 100, Char.ofNat 98, Char.ofNat 99, Char.ofNat 52, Char.ofNat 99, Char.ofNat 49, Char.ofNat 100, Char.ofNat 54, Char.ofNat 49, Char.ofNat 98, Char.ofNat 101, Char.ofNat 98, Char.ofNat 55, Char.ofNat 57, Char.ofNat 55, Char.ofNat 52, Char.ofNat 102, Char.ofNat 49, Char.ofNat 51, Char.ofNat 53, Char.ofNat 99, Char.ofNat 97, Char.ofNat 49, Char.ofNat 48, Char.ofNat 51, Char.ofNat 32, Char.ofNat 99, Char.ofNat 117, Char.ofNat 116, Char.ofNat 32, Char.ofNat 97, Char.ofNat 116, Char.ofNat 32, Char.ofNat 100, Char.ofNat 111, Char.ofNat 111, Char.ofNat 114, Char.ofNat 107, Char.ofNat 101, Char.ofNat 101, Char.ofNat 112, Char.ofNat 101, Char.ofNat 114, Char.ofNat 47, Char.ofNat 100, Char.ofNat 111, Char.ofNat 111, Char.ofNat 114, Char.ofNat 107, Char.ofNat 101, Char.ofNat 101, Char.ofNat 112, Char.ofNat 101, Char.ofNat 114, Char.ofNat 108, Char.ofNat 97, Char.ofNat 119, Char.ofNat 49, Char.ofNat 51, Char.ofNat 46, Char.ofNat 82, Char.ofNat 111, Char.ofNat 111, Char.ofNat 109, Char.ofNat 85, Char.ofNat 112, Char.ofNat 32, Char.ofNat 100, Char.ofNat 111, Char.ofNat 111, Char.ofNat 114, Char.ofNat 107, Char.ofNat 101, Char.ofNat 101, Char.ofNat 112, Char.ofNat 101, Char.ofNat 114, Char.ofNat 47, Char.ofNat 100, Char.ofNat 111, Char.ofNat 111, Char.ofNat 114, Char.ofNat 107, Char.ofNat 101, Char.ofNat 101, Char.ofNat 112, Char.ofNat 101, Char.ofNat 114, Char.ofNat 108, Char.ofNat 97, Char.ofNat 119, Char.ofNat 49, Char.ofNat 55, Char.ofNat 46, Char.ofNat 68, Char.ofNat 114, Char.ofNat 105, Char.ofNat 102, Char.ofNat 116, Char.ofNat 65, Char.ofNat 108, Char.ofNat 108, Char.ofNat 32, Char.ofNat 100, Char.ofNat 111, Char.ofNat 111, Char.ofNat 114, Char.ofNat 107, Char.ofNat 101, Char.ofNat 101, Char.ofNat 112, Char.ofNat 101, Char.ofNat 114, Char.ofNat 47, Char.ofNat 100, Char.ofNat 111, Char.ofNat 111, Char.ofNat 114, Char.ofNat 107, Char.ofNat 101, Char.ofNat 101, Char.ofNat 112, Char.ofNat 101, Char.ofNat 114, Char.ofNat 108, Char.ofNat 97, Char.ofNat 119, Char.ofNat 49, Char.ofNat 55, Char.ofNat 46, Char.ofNat 68, Char.ofNat 114, Char.ofNat 105, Char.ofNat 102, Char.ofNat 116, Char.ofNat 84, Char.ofNat 101, Char.ofNat 108, Char.ofNat 108, Char.ofNat 115, Char.ofNat 32, Char.ofNat 100, Char.ofNat 111, Char.ofNat 111, Char.ofNat 114, Char.ofNat 107, Char.ofNat 101, Char.ofNat 101, Char.ofNat 112, Char.ofNat 101, Char.ofNat 114, Char.ofNat 47, Char.ofNat 100, Char.ofNat 111, Char.ofNat 111, Char.ofNat 114, Char.ofNat 107, Char.ofNat 101, Char.ofNat 101, Char.ofNat 112, Char.ofNat 101, Char.ofNat 114, Char.ofNat 108, Char.ofNat 97, Char.ofNat 119, Char.ofNat 50, Char.ofNat 48, Char.ofNat 46, Char.ofNat 69, Char.ofNat 102, Char.ofNat 102, Char.ofNat 101, Char.ofNat 99, Char.ofNat 116, Char.ofNat 65, Char.ofNat 108, Char.ofNat 108, Char.ofNat 32, Char.ofNat 100, Char.ofNat 111, Char.ofNat 111, Char.ofNat 114, Char.ofNat 107, Char.ofNat 101, Char.ofNat 101, Char.ofNat 112, Char.ofNat 101, Char.ofNat 114, Char.ofNat 47, Char.ofNat 100, Char.ofNat 111, Char.ofNat 111, Char.ofNat 114, Char.ofNat 107, Char.ofNat 101, Char.ofNat 101, Char.ofNat 112, Char.ofNat 101, Char.ofNat 114, Char.ofNat 108, Char.ofNat 97, Char.ofNat 119, Char.ofNat 50, Char.ofNat 48, Char.ofNat 46, Char.ofNat 69, Char.ofNat 102, Char.ofNat 102, Char.ofNat 101, Char.ofNat 99, Char.ofNat 116, Char.ofNat 77, Char.ofNat 97, Char.ofNat 100, Char.ofNat 101, Char.ofNat 32, Char.ofNat 100, Char.ofNat 111, Char.ofNat 111, Char.ofNat 114, Char.ofNat 107, Char.ofNat 101, Char.ofNat 101, Char.ofNat 112, Char.ofNat 101, Char.ofNat 114, Char.ofNat 47, Char.ofNat 100, Char.ofNat 111, Char.ofNat 111, Char.ofNat 114, Char.ofNat 107, Char.ofNat 101, Char.ofNat 101, Char.ofNat 112, Char.ofNat 101, Char.ofNat 114, Char.ofNat 108, Char.ofNat 97, Char.ofNat 119, Char.ofNat 50, Char.ofNat 48, Char.ofNat 46, Char.ofNat 69, Char.ofNat 102, Char.ofNat 102, Char.ofNat 101, Char.ofNat 99, Char.ofNat 116, Char.ofNat 68, Char.ofNat 111, Char.ofNat 110, Char.ofNat 101, Char.ofNat 32, Char.ofNat 100, Char.ofNat 111, Char.ofNat 111, Char.ofNat 114, Char.ofNat 107, Char.ofNat 101, Char.ofNat 101, Char.ofNat 112, Char.ofNat 101, Char.ofNat 114, Char.ofNat 47, Char.ofNat 100, Char.ofNat 111, Char.ofNat 111, Char.ofNat 114, Char.ofNat 107, Char.ofNat 101, Char.ofNat 101, Char.ofNat 112, Char.ofNat 101, Char.ofNat 114, Char.ofNat 108, Char.ofNat 97, Char.ofNat 119, Char.ofNat 49, Char.ofNat 52, Char.ofNat 46, Char.ofNat 65, Char.ofNat 100, Char.ofNat 109, Char.ofNat 105, Char.ofNat 116, Char.ofNat 84, Char.ofNat 119, Char.ofNat 105, Char.ofNat 99, Char.ofNat 101, Char.ofNat 32, Char.ofNat 100, Char.ofNat 111, Char.ofNat 111, Char.ofNat 114, Char.ofNat 107, Char.ofNat 101, Char.ofNat 101, Char.ofNat 112, Char.ofNat 101, Char.ofNat 114, Char.ofNat 47, Char.ofNat 100, Char.ofNat 111, Char.ofNat 111, Char.ofNat 114, Char.ofNat 107, Char.ofNat 101, Char.ofNat 101, Char.ofNat 112, Char.ofNat 101, Char.ofNat 114, Char.ofNat 108, Char.ofNat 97, Char.ofNat 119, Char.ofNat 49, Char.ofNat 51, Char.ofNat 46, Char.ofNat 82, Char.ofNat 111, Char.ofNat 111, Char.ofNat 109, Char.ofNat 70, Char.ofNat 105, Char.ofNat 116, Char.ofNat 115, Char.ofNat 32, Char.ofNat 100, Char.ofNat 111, Char.ofNat 111, Char.ofNat 114, Char.ofNat 107, Char.ofNat 101, Char.ofNat 101, Char.ofNat 112, Char.ofNat 101, Char.ofNat 114, Char.ofNat 47, Char.ofNat 100, Char.ofNat 111, Char.ofNat 111, Char.ofNat 114, Char.ofNat 107, Char.ofNat 101, Char.ofNat 101, Char.ofNat 112, Char.ofNat 101, Char.ofNat 114, Char.ofNat 108, Char.ofNat 97, Char.ofNat 119, Char.ofNat 49, Char.ofNat 50, Char.ofNat 46, Char.ofNat 84, Char.ofNat 114, Char.ofNat 101, Char.ofNat 101, Char.ofNat 65, Char.ofNat 108, Char.ofNat 108, Char.ofNat 32, Char.ofNat 100, Char.ofNat 111, Char.ofNat 111, Char.ofNat 114, Char.ofNat 107, Char.ofNat 101, Char.ofNat 101, Char.ofNat 112, Char.ofNat 101, Char.ofNat 114, Char.ofNat 47, Char.ofNat 100, Char.ofNat 111, Char.ofNat 111, Char.ofNat 114, Char.ofNat 107, Char.ofNat 101, Char.ofNat 101, Char.ofNat 112, Char.ofNat 101, Char.ofNat 114, Char.ofNat 108, Char.ofNat 97, Char.ofNat 119, Char.ofNat 49, Char.ofNat 50, Char.ofNat 46, Char.ofNat 84, Char.ofNat 114, Char.ofNat 101, Char.ofNat 101, Char.ofNat 77, Char.ofNat 97, Char.ofNat 100, Char.ofNat 101, Char.ofNat 32, Char.ofNat 100, Char.ofNat 111, Char.ofNat 111, Char.ofNat 114, Char.ofNat 107, Char.ofNat 101, Char.ofNat 101, Char.ofNat 112, Char.ofNat 101, Char.ofNat 114, Char.ofNat 47, Char.ofNat 100, Char.ofNat 111, Char.ofNat 111, Char.ofNat 114, Char.ofNat 107, Char.ofNat 101, Char.ofNat 101, Char.ofNat 112, Char.ofNat 101, Char.ofNat 114, Char.ofNat 108, Char.ofNat 97, Char.ofNat 119, Char.ofNat 49, Char.ofNat 50, Char.ofNat 46, Char.ofNat 84, Char.ofNat 114, Char.ofNat 101, Char.ofNat 101, Char.ofNat 83, Char.ofNat 117, Char.ofNat 109, Char.ofNat 115, Char.ofNat 32, Char.ofNat 100, Char.ofNat 111, Char.ofNat 111, Char.ofNat 114, Char.ofNat 107, Char.ofNat 101, Char.ofNat 101, Char.ofNat 112, Char.ofNat 101, Char.ofNat 114, Char.ofNat 47, Char.ofNat 100, Char.ofNat 111, Char.ofNat 111, Char.ofNat 114, Char.ofNat 107, Char.ofNat 101, Char.ofNat 101, Char.ofNat 112, Char.ofNat 101, Char.ofNat 114, Char.ofNat 108, Char.ofNat 97, Char.ofNat 119, Char.ofNat 49, Char.ofNat 50, Char.ofNat 46, Char.ofNat 84, Char.ofNat 114, Char.ofNat 101, Char.ofNat 101, Char.ofNat 66, Char.ofNat 101, Char.ofNat 108, Char.ofNat 111, Char.ofNat 119, Char.ofNat 32, Char.ofNat 100, Char.ofNat 111, Char.ofNat 111, Char.ofNat 114, Char.ofNat 107, Char.ofNat 101, Char.ofNat 101, Char.ofNat 112, Char.ofNat 101, Char.ofNat 114, Char.ofNat 47, Char.ofNat 100, Char.ofNat 111, Char.ofNat 111, Char.ofNat 114, Char.ofNat 107, Char.ofNat 101, Char.ofNat 101, Char.ofNat 112, Char.ofNat 101, Char.ofNat 114, Char.ofNat 108, Char.ofNat 97, Char.ofNat 119, Char.ofNat 49, Char.ofNat 51, Char.ofNat 46, Char.ofNat 82, Char.ofNat 111, Char.ofNat 111, Char.ofNat 109, Char.ofNat 83, Char.ofNat 104, Char.ofNat 97, Char.ofNat 114, Char.ofNat 101, Char.ofNat 115, Char.ofNat 32, Char.ofNat 100, Char.ofNat 111, Char.ofNat 111, Char.ofNat 114, Char.ofNat 107, Char.ofNat 101, Char.ofNat 101, Char.ofNat 112, Char.ofNat 101, Char.ofNat 114, Char.ofNat 47, Char.ofNat 100, Char.ofNat 111, Char.ofNat 111, Char.ofNat 114, Char.ofNat 107, Char.ofNat 101, Char.ofNat 101, Char.ofNat 112, Char.ofNat 101, Char.ofNat 114, Char.ofNat 108, Char.ofNat 97, Char.ofNat 119, Char.ofNat 49, Char.ofNat 52, Char.ofNat 46, Char.ofNat 65, Char.ofNat 100, Char.ofNat 109, Char.ofNat 105, Char.ofNat 116, Char.ofNat 65, Char.ofNat 108, Char.ofNat 108, Char.ofNat 32, Char.ofNat 100, Char.ofNat 111, Char.ofNat 111, Char.ofNat 114, Char.ofNat 107, Char.ofNat 101, Char.ofNat 101, Char.ofNat 112, Char.ofNat 101, Char.ofNat 114, Char.ofNat 47, Char.ofNat 100, Char.ofNat 111, Char.ofNat 111, Char.ofNat 114, Char.ofNat 107, Char.ofNat 101, Char.ofNat 101, Char.ofNat 112, Char.ofNat 101, Char.ofNat 114, Char.ofNat 108, Char.ofNat 97, Char.ofNat 119, Char.ofNat 49, Char.ofNat 52, Char.ofNat 46, Char.ofNat 65, Char.ofNat 100, Char.ofNat 109, Char.ofNat 105, Char.ofNat 116, Char.ofNat 77, Char.ofNat 97, Char.ofNat 100, Char.ofNat 101, Char.ofNat 32, Char.ofNat 100, Char.ofNat 111, Char.ofNat 111, Char.ofNat 114, Char.ofNat 107, Char.ofNat 101, Char.ofNat 101, Char.ofNat 112, Char.ofNat 101, Char.ofNat 114, Char.ofNat 47, Char.ofNat 100, Char.ofNat 111, Char.ofNat 111, Char.ofNat 114, Char.ofNat 107, Char.ofNat 101, Char.ofNat 101, Char.ofNat 112, Char.ofNat 101, Char.ofNat 114, Char.ofNat 108, Char.ofNat 97, Char.ofNat 119, Char.ofNat 49, Char.ofNat 52, Char.ofNat 46, Char.ofNat 65, Char.ofNat 100, Char.ofNat 109, Char.ofNat 105, Char.ofNat 116, Char.ofNat 82, Char.ofNat 111, Char.ofNat 111, Char.ofNat 109, Char.ofNat 32, Char.ofNat 100, Char.ofNat 111, Char.ofNat 111, Char.ofNat 114, Char.ofNat 107, Char.ofNat 101, Char.ofNat 101, Char.ofNat 112, Char.ofNat 101, Char.ofNat 114, Char.ofNat 47, Char.ofNat 100, Char.ofNat 111, Char.ofNat 111, Char.ofNat 114, Char.ofNat 107, Char.ofNat 101, Char.ofNat 101, Char.ofNat 112, Char.ofNat 101, Char.ofNat 114, Char.ofNat 108, Char.ofNat 97, Char.ofNat 119, Char.ofNat 49, Char.ofNat 51, Char.ofNat 46, Char.ofNat 82, Char.ofNat 111, Char.ofNat 111, Char.ofNat 109, Char.ofNat 65, Char.ofNat 108, Char.ofNat 108, Char.ofNat 32, Char.ofNat 100, Char.ofNat 111, Char.ofNat 111, Char.ofNat 114, Char.ofNat 107, Char.ofNat 101, Char.ofNat 101, Char.ofNat 112, Char.ofNat 101, Char.ofNat 114, Char.ofNat 47, Char.ofNat 100, Char.ofNat 111, Char.ofNat 111, Char.ofNat 114, Char.ofNat 107, Char.ofNat 101, Char.ofNat 101, Char.ofNat 112, Char.ofNat 101, Char.ofNat 114, Char.ofNat 108, Char.ofNat 97, Char.ofNat 119, Char.ofNat 49, Char.ofNat 51, Char.ofNat 46, Char.ofNat 82, Char.ofNat 111, Char.ofNat 111, Char.ofNat 109, Char.ofNat 77, Char.ofNat 97, Char.ofNat 100, Char.ofNat 101, Char.ofNat 32, Char.ofNat 100, Char.ofNat 111, Char.ofNat 111, Char.ofNat 114, Char.ofNat 107, Char.ofNat 101, Char.ofNat 101, Char.ofNat 112, Char.ofNat 101, Char.ofNat 114, Char.ofNat 47, Char.ofNat 100, Char.ofNat 111, Char.ofNat 111, Char.ofNat 114, Char.ofNat 107, Char.ofNat 101, Char.ofNat 101, Char.ofNat 112, Char.ofNat 101, Char.ofNat 114, Char.ofNat 108, Char.ofNat 97, Char.ofNat 119, Char.ofNat 49, Char.ofNat 53, Char.ofNat 46, Char.ofNat 83, Char.ofNat 104, Char.ofNat 97, Char.ofNat 112, Char.ofNat 101, Char.ofNat 77, Char.ofNat 97, Char.ofNat 110, Char.ofNat 121, Char.ofNat 32, Char.ofNat 100, Char.ofNat 111, Char.ofNat 111, Char.ofNat 114, Char.ofNat 107, Char.ofNat 101, Char.ofNat 101, Char.ofNat 112, Char.ofNat 101, Char.ofNat 114, Char.ofNat 47, Char.ofNat 100, Char.ofNat 111, Char.ofNat 111, Char.ofNat 114, Char.ofNat 107, Char.ofNat 101, Char.ofNat 101, Char.ofNat 112, Char.ofNat 101, Char.ofNat 114, Char.ofNat 108, Char.ofNat 97, Char.ofNat 119, Char.ofNat 49, Char.ofNat 53, Char.ofNat 46, Char.ofNat 83, Char.ofNat 104, Char.ofNat 97, Char.ofNat 112, Char.ofNat 101, Char.ofNat 67, Char.ofNat 111, Char.ofNat 109, Char.ofNat 101, Char.ofNat 115, Char.ofNat 32, Char.ofNat 100, Char.ofNat 111, Char.ofNat 111, Char.ofNat 114, Char.ofNat 107, Char.ofNat 101, Char.ofNat 101, Char.ofNat 112, Char.ofNat 101, Char.ofNat 114, Char.ofNat 47, Char.ofNat 100, Char.ofNat 111, Char.ofNat 111, Char.ofNat 114, Char.ofNat 107, Char.ofNat 101, Char.ofNat 101, Char.ofNat 112, Char.ofNat 101, Char.ofNat 114, Char.ofNat 108, Char.ofNat 97, Char.ofNat 119, Char.ofNat 49, Char.ofNat 53, Char.ofNat 46, Char.ofNat 83, Char.ofNat 104, Char.ofNat 97, Char.ofNat 112, Char.ofNat 101, Char.ofNat 76, Char.ofNat 105, Char.ofNat 109, Char.ofNat 105, Char.ofNat 116, Char.ofNat 115, Char.ofNat 32, Char.ofNat 100, Char.ofNat 111, Char.ofNat 111, Char.ofNat 114, Char.ofNat 107, Char.ofNat 101, Char.ofNat 101, Char.ofNat 112, Char.ofNat 101, Char.ofNat 114, Char.ofNat 47, Char.ofNat 100, Char.ofNat 111, Char.ofNat 111, Char.ofNat 114, Char.ofNat 107, Char.ofNat 101, Char.ofNat 101, Char.ofNat 112, Char.ofNat 101, Char.ofNat 114, Char.ofNat 108, Char.ofNat 97, Char.ofNat 119, Char.ofNat 49, Char.ofNat 53, Char.ofNat 46, Char.ofNat 83, Char.ofNat 104, Char.ofNat 97, Char.ofNat 112, Char.ofNat 101, Char.ofNat 77, Char.ofNat 111, Char.ofNat 118, Char.ofNat 101, Char.ofNat 115, Char.ofNat 32, Char.ofNat 100, Char.ofNat 111, Char.ofNat 111, Char.ofNat 114, Char.ofNat 107, Char.ofNat 101, Char.ofNat 101, Char.ofNat 112, Char.ofNat 101, Char.ofNat 114, Char.ofNat 47, Char.ofNat 100, Char.ofNat 111, Char.ofNat 111, Char.ofNat 114, Char.ofNat 107, Char.ofNat 101, Char.ofNat 101, Char.ofNat 112, Char.ofNat 101, Char.ofNat 114, Char.ofNat 108, Char.ofNat 97, Char.ofNat 119, Char.ofNat 49, Char.ofNat 53, Char.ofNat 46, Char.ofNat 83, Char.ofNat 104, Char.ofNat 97, Char.ofNat 112, Char.ofNat 101, Char.ofNat 65, Char.ofNat 108, Char.ofNat 108, Char.ofNat 32, Char.ofNat 100, Char.ofNat 111, Char.ofNat 111, Char.ofNat 114, Char.ofNat 107, Char.ofNat 101, Char.ofNat 101, Char.ofNat 112, Char.ofNat 101, Char.ofNat 114, Char.ofNat 47, Char.ofNat 100, Char.ofNat 111, Char.ofNat 111, Char.ofNat 114, Char.ofNat 107, Char.ofNat 101, Char.ofNat 101, Char.ofNat 112, Char.ofNat 101, Char.ofNat 114, Char.ofNat 108, Char.ofNat 97, Char.ofNat 119, Char.ofNat 49, Char.ofNat 53, Char.ofNat 46, Char.ofNat 83, Char.ofNat 104, Char.ofNat 97, Char.ofNat 112, Char.ofNat 101, Char.ofNat 77, Char.ofNat 97, Char.ofNat 100, Char.ofNat 101, Char.ofNat 32, Char.ofNat 100, Char.ofNat 111, Char.ofNat 111, Char.ofNat 114, Char.ofNat 107, Char.ofNat 101, Char.ofNat 101, Char.ofNat 112, Char.ofNat 101, Char.ofNat 114, Char.ofNat 47, Char.ofNat 100, Char.ofNat 111, Char.ofNat 111, Char.ofNat 114, Char.ofNat 107, Char.ofNat 101, Char.ofNat 101, Char.ofNat 112, Char.ofNat 101, Char.ofNat 114, Char.ofNat 108, Char.ofNat 97, Char.ofNat 119, Char.ofNat 49, Char.ofNat 53, Char.ofNat 46, Char.ofNat 83, Char.ofNat 104, Char.ofNat 97, Char.ofNat 112, Char.ofNat 101, Char.ofNat 82, Char.ofNat 101, Char.ofNat 115, Char.ofNat 116, Char.ofNat 32, Char.ofNat 100, Char.ofNat 111, Char.ofNat 111, Char.ofNat 114, Char.ofNat 107, Char.ofNat 101, Char.ofNat 101, Char.ofNat 112, Char.ofNat 101, Char.ofNat 114, Char.ofNat 47, Char.ofNat 100, Char.ofNat 111, Char.ofNat 111, Char.ofNat 114, Char.ofNat 107, Char.ofNat 101, Char.ofNat 101, Char.ofNat 112, Char.ofNat 101, Char.ofNat 114, Char.ofNat 108, Char.ofNat 97, Char.ofNat 119, Char.ofNat 49, Char.ofNat 57, Char.ofNat 46, Char.ofNat 84, Char.ofNat 114, Char.ofNat 105, Char.ofNat 97, Char.ofNat 108, Char.ofNat 67, Char.ofNat 117, Char.ofNat 116, Char.ofNat 115, Char.ofNat 32, Char.ofNat 100, Char.ofNat 111, Char.ofNat 111, Char.ofNat 114, Char.ofNat 107, Char.ofNat 101, Char.ofNat 101, Char.ofNat 112, Char.ofNat 101, Char.ofNat 114, Char.ofNat 47, Char.ofNat 100, Char.ofNat 111, Char.ofNat 111, Char.ofNat 114, Char.ofNat 107, Char.ofNat 101, Char.ofNat 101, Char.ofNat 112, Char.ofNat 101, Char.ofNat 114, Char.ofNat 108, Char.ofNat 97, Char.ofNat 119, Char.ofNat 49, Char.ofNat 57, Char.ofNat 46, Char.ofNat 84, Char.ofNat 114, Char.ofNat 105, Char.ofNat 97, Char.ofNat 108, Char.ofNat 65, Char.ofNat 108, Char.ofNat 108, Char.ofNat 32, Char.ofNat 100, Char.ofNat 111, Char.ofNat 111, Char.ofNat 114, Char.ofNat 107, Char.ofNat 101, Char.ofNat 101, Char.ofNat 112, Char.ofNat 101, Char.ofNat 114, Char.ofNat 47, Char.ofNat 100, Char.ofNat 111, Char.ofNat 111, Char.ofNat 114, Char.ofNat 107, Char.ofNat 101, Char.ofNat 101, Char.ofNat 112, Char.ofNat 101, Char.ofNat 114, Char.ofNat 108, Char.ofNat 97, Char.ofNat 119, Char.ofNat 49, Char.ofNat 57, Char.ofNat 46, Char.ofNat 84, Char.ofNat 114, Char.ofNat 105, Char.ofNat 97, Char.ofNat 108, Char.ofNat 77, Char.ofNat 97, Char.ofNat 100, Char.ofNat 101]
set_option maxRecDepth 100000 in
theorem word : Try.prog.initOrder = String.ofList signs := by kernel_rfl
theorem list : Try.prog.initOrder.toList = signs := by rw [word, String.toList_ofList]
theorem words_app : ∀ (w r : List Char), (∀ c ∈ w, c ≠ Char.ofNat 32) → wordsSigns (w ++ Char.ofNat 32 :: r) = w :: wordsSigns r
  | [], r, _ => rfl
  | c :: w, r, h => by
    have hc : c ≠ Char.ofNat 32 := h c (by simp)
    have ih := words_app w r (fun d hd => h d (by simp [hd]))
    show wordsSigns (c :: (w ++ Char.ofNat 32 :: r)) = _
    rw [wordsSigns.eq_3 _ _ (fun q => hc q), ih]
def w1 : List Char := [Char.ofNat 104, Char.ofNat 97, Char.ofNat 114, Char.ofNat 110, Char.ofNat 101, Char.ofNat 115, Char.ofNat 115]
def w2 : List Char := [Char.ofNat 101, Char.ofNat 57, Char.ofNat 98, Char.ofNat 52, Char.ofNat 101, Char.ofNat 102, Char.ofNat 52, Char.ofNat 49, Char.ofNat 56, Char.ofNat 50, Char.ofNat 56, Char.ofNat 101, Char.ofNat 102, Char.ofNat 50, Char.ofNat 55, Char.ofNat 102, Char.ofNat 51, Char.ofNat 55, Char.ofNat 102, Char.ofNat 48, Char.ofNat 53, Char.ofNat 54, Char.ofNat 50, Char.ofNat 55, Char.ofNat 56, Char.ofNat 50, Char.ofNat 54, Char.ofNat 101, Char.ofNat 101, Char.ofNat 100, Char.ofNat 101, Char.ofNat 57, Char.ofNat 53, Char.ofNat 99, Char.ofNat 56, Char.ofNat 98, Char.ofNat 55, Char.ofNat 57, Char.ofNat 99, Char.ofNat 100, Char.ofNat 98, Char.ofNat 99, Char.ofNat 52, Char.ofNat 99, Char.ofNat 49, Char.ofNat 100, Char.ofNat 54, Char.ofNat 49, Char.ofNat 98, Char.ofNat 101, Char.ofNat 98, Char.ofNat 55, Char.ofNat 57, Char.ofNat 55, Char.ofNat 52, Char.ofNat 102, Char.ofNat 49, Char.ofNat 51, Char.ofNat 53, Char.ofNat 99, Char.ofNat 97, Char.ofNat 49, Char.ofNat 48, Char.ofNat 51]
def w3 : List Char := [Char.ofNat 99, Char.ofNat 117, Char.ofNat 116]
def rest : List Char := [Char.ofNat 97, Char.ofNat 116, Char.ofNat 32, Char.ofNat 100, Char.ofNat 111, Char.ofNat 111, Char.ofNat 114, Char.ofNat 107, Char.ofNat 101, Char.ofNat 101, Char.ofNat 112, Char.ofNat 101, Char.ofNat 114, Char.ofNat 47, Char.ofNat 100, Char.ofNat 111, Char.ofNat 111, Char.ofNat 114, Char.ofNat 107, Char.ofNat 101, Char.ofNat 101, Char.ofNat 112, Char.ofNat 101, Char.ofNat 114, Char.ofNat 108, Char.ofNat 97, Char.ofNat 119, Char.ofNat 49, Char.ofNat 51, Char.ofNat 46, Char.ofNat 82, Char.ofNat 111, Char.ofNat 111, Char.ofNat 109, Char.ofNat 85, Char.ofNat 112, Char.ofNat 32, Char.ofNat 100, Char.ofNat 111, Char.ofNat 111, Char.ofNat 114, Char.ofNat 107, Char.ofNat 101, Char.ofNat 101, Char.ofNat 112, Char.ofNat 101, Char.ofNat 114, Char.ofNat 47, Char.ofNat 100, Char.ofNat 111, Char.ofNat 111, Char.ofNat 114, Char.ofNat 107, Char.ofNat 101, Char.ofNat 101, Char.ofNat 112, Char.ofNat 101, Char.ofNat 114, Char.ofNat 108, Char.ofNat 97, Char.ofNat 119, Char.ofNat 49, Char.ofNat 55, Char.ofNat 46, Char.ofNat 68, Char.ofNat 114, Char.ofNat 105, Char.ofNat 102, Char.ofNat 116, Char.ofNat 65, Char.ofNat 108, Char.ofNat 108, Char.ofNat 32, Char.ofNat 100, Char.ofNat 111, Char.ofNat 111, Char.ofNat 114, Char.ofNat 107, Char.ofNat 101, Char.ofNat 101, Char.ofNat 112, Char.ofNat 101, Char.ofNat 114, Char.ofNat 47, Char.ofNat 100, Char.ofNat 111, Char.ofNat 111, Char.ofNat 114, Char.ofNat 107, Char.ofNat 101, Char.ofNat 101, Char.ofNat 112, Char.ofNat 101, Char.ofNat 114, Char.ofNat 108, Char.ofNat 97, Char.ofNat 119, Char.ofNat 49, Char.ofNat 55, Char.ofNat 46, Char.ofNat 68, Char.ofNat 114, Char.ofNat 105, Char.ofNat 102, Char.ofNat 116, Char.ofNat 84, Char.ofNat 101, Char.ofNat 108, Char.ofNat 108, Char.ofNat 115, Char.ofNat 32, Char.ofNat 100, Char.ofNat 111, Char.ofNat 111, Char.ofNat 114, Char.ofNat 107, Char.ofNat 101, Char.ofNat 101, Char.ofNat 112, Char.ofNat 101, Char.ofNat 114, Char.ofNat 47, Char.ofNat 100, Char.ofNat 111, Char.ofNat 111, Char.ofNat 114, Char.ofNat 107, Char.ofNat 101, Char.ofNat 101, Char.ofNat 112, Char.ofNat 101, Char.ofNat 114, Char.ofNat 108, Char.ofNat 97, Char.ofNat 119, Char.ofNat 50, Char.ofNat 48, Char.ofNat 46, Char.ofNat 69, Char.ofNat 102, Char.ofNat 102, Char.ofNat 101, Char.ofNat 99, Char.ofNat 116, Char.ofNat 65, Char.ofNat 108, Char.ofNat 108, Char.ofNat 32, Char.ofNat 100, Char.ofNat 111, Char.ofNat 111, Char.ofNat 114, Char.ofNat 107, Char.ofNat 101, Char.ofNat 101, Char.ofNat 112, Char.ofNat 101, Char.ofNat 114, Char.ofNat 47, Char.ofNat 100, Char.ofNat 111, Char.ofNat 111, Char.ofNat 114, Char.ofNat 107, Char.ofNat 101, Char.ofNat 101, Char.ofNat 112, Char.ofNat 101, Char.ofNat 114, Char.ofNat 108, Char.ofNat 97, Char.ofNat 119, Char.ofNat 50, Char.ofNat 48, Char.ofNat 46, Char.ofNat 69, Char.ofNat 102, Char.ofNat 102, Char.ofNat 101, Char.ofNat 99, Char.ofNat 116, Char.ofNat 77, Char.ofNat 97, Char.ofNat 100, Char.ofNat 101, Char.ofNat 32, Char.ofNat 100, Char.ofNat 111, Char.ofNat 111, Char.ofNat 114, Char.ofNat 107, Char.ofNat 101, Char.ofNat 101, Char.ofNat 112, Char.ofNat 101, Char.ofNat 114, Char.ofNat 47, Char.ofNat 100, Char.ofNat 111, Char.ofNat 111, Char.ofNat 114, Char.ofNat 107, Char.ofNat 101, Char.ofNat 101, Char.ofNat 112, Char.ofNat 101, Char.ofNat 114, Char.ofNat 108, Char.ofNat 97, Char.ofNat 119, Char.ofNat 50, Char.ofNat 48, Char.ofNat 46, Char.ofNat 69, Char.ofNat 102, Char.ofNat 102, Char.ofNat 101, Char.ofNat 99, Char.ofNat 116, Char.ofNat 68, Char.ofNat 111, Char.ofNat 110, Char.ofNat 101, Char.ofNat 32, Char.ofNat 100, Char.ofNat 111, Char.ofNat 111, Char.ofNat 114, Char.ofNat 107, Char.ofNat 101, Char.ofNat 101, Char.ofNat 112, Char.ofNat 101, Char.ofNat 114, Char.ofNat 47, Char.ofNat 100, Char.ofNat 111, Char.ofNat 111, Char.ofNat 114, Char.ofNat 107, Char.ofNat 101, Char.ofNat 101, Char.ofNat 112, Char.ofNat 101, Char.ofNat 114, Char.ofNat 108, Char.ofNat 97, Char.ofNat 119, Char.ofNat 49, Char.ofNat 52, Char.ofNat 46, Char.ofNat 65, Char.ofNat 100, Char.ofNat 109, Char.ofNat 105, Char.ofNat 116, Char.ofNat 84, Char.ofNat 119, Char.ofNat 105, Char.ofNat 99, Char.ofNat 101, Char.ofNat 32, Char.ofNat 100, Char.ofNat 111, Char.ofNat 111, Char.ofNat 114, Char.ofNat 107, Char.ofNat 101, Char.ofNat 101, Char.ofNat 112, Char.ofNat 101, Char.ofNat 114, Char.ofNat 47, Char.ofNat 100, Char.ofNat 111, Char.ofNat 111, Char.ofNat 114, Char.ofNat 107, Char.ofNat 101, Char.ofNat 101, Char.ofNat 112, Char.ofNat 101, Char.ofNat 114, Char.ofNat 108, Char.ofNat 97, Char.ofNat 119, Char.ofNat 49, Char.ofNat 51, Char.ofNat 46, Char.ofNat 82, Char.ofNat 111, Char.ofNat 111, Char.ofNat 109, Char.ofNat 70, Char.ofNat 105, Char.ofNat 116, Char.ofNat 115, Char.ofNat 32, Char.ofNat 100, Char.ofNat 111, Char.ofNat 111, Char.ofNat 114, Char.ofNat 107, Char.ofNat 101, Char.ofNat 101, Char.ofNat 112, Char.ofNat 101, Char.ofNat 114, Char.ofNat 47, Char.ofNat 100, Char.ofNat 111, Char.ofNat 111, Char.ofNat 114, Char.ofNat 107, Char.ofNat 101, Char.ofNat 101, Char.ofNat 112, Char.ofNat 101, Char.ofNat 114, Char.ofNat 108, Char.ofNat 97, Char.ofNat 119, Char.ofNat 49, Char.ofNat 50, Char.ofNat 46, Char.ofNat 84, Char.ofNat 114, Char.ofNat 101, Char.ofNat 101, Char.ofNat 65, Char.ofNat 108, Char.ofNat 108, Char.ofNat 32, Char.ofNat 100, Char.ofNat 111, Char.ofNat 111, Char.ofNat 114, Char.ofNat 107, Char.ofNat 101, Char.ofNat 101, Char.ofNat 112, Char.ofNat 101, Char.ofNat 114, Char.ofNat 47, Char.ofNat 100, Char.ofNat 111, Char.ofNat 111, Char.ofNat 114, Char.ofNat 107, Char.ofNat 101, Char.ofNat 101, Char.ofNat 112, Char.ofNat 101, Char.ofNat 114, Char.ofNat 108, Char.ofNat 97, Char.ofNat 119, Char.ofNat 49, Char.ofNat 50, Char.ofNat 46, Char.ofNat 84, Char.ofNat 114, Char.ofNat 101, Char.ofNat 101, Char.ofNat 77, Char.ofNat 97, Char.ofNat 100, Char.ofNat 101, Char.ofNat 32, Char.ofNat 100, Char.ofNat 111, Char.ofNat 111, Char.ofNat 114, Char.ofNat 107, Char.ofNat 101, Char.ofNat 101, Char.ofNat 112, Char.ofNat 101, Char.ofNat 114, Char.ofNat 47, Char.ofNat 100, Char.ofNat 111, Char.ofNat 111, Char.ofNat 114, Char.ofNat 107, Char.ofNat 101, Char.ofNat 101, Char.ofNat 112, Char.ofNat 101, Char.ofNat 114, Char.ofNat 108, Char.ofNat 97, Char.ofNat 119, Char.ofNat 49, Char.ofNat 50, Char.ofNat 46, Char.ofNat 84, Char.ofNat 114, Char.ofNat 101, Char.ofNat 101, Char.ofNat 83, Char.ofNat 117, Char.ofNat 109, Char.ofNat 115, Char.ofNat 32, Char.ofNat 100, Char.ofNat 111, Char.ofNat 111, Char.ofNat 114, Char.ofNat 107, Char.ofNat 101, Char.ofNat 101, Char.ofNat 112, Char.ofNat 101, Char.ofNat 114, Char.ofNat 47, Char.ofNat 100, Char.ofNat 111, Char.ofNat 111, Char.ofNat 114, Char.ofNat 107, Char.ofNat 101, Char.ofNat 101, Char.ofNat 112, Char.ofNat 101, Char.ofNat 114, Char.ofNat 108, Char.ofNat 97, Char.ofNat 119, Char.ofNat 49, Char.ofNat 50, Char.ofNat 46, Char.ofNat 84, Char.ofNat 114, Char.ofNat 101, Char.ofNat 101, Char.ofNat 66, Char.ofNat 101, Char.ofNat 108, Char.ofNat 111, Char.ofNat 119, Char.ofNat 32, Char.ofNat 100, Char.ofNat 111, Char.ofNat 111, Char.ofNat 114, Char.ofNat 107, Char.ofNat 101, Char.ofNat 101, Char.ofNat 112, Char.ofNat 101, Char.ofNat 114, Char.ofNat 47, Char.ofNat 100, Char.ofNat 111, Char.ofNat 111, Char.ofNat 114, Char.ofNat 107, Char.ofNat 101, Char.ofNat 101, Char.ofNat 112, Char.ofNat 101, Char.ofNat 114, Char.ofNat 108, Char.ofNat 97, Char.ofNat 119, Char.ofNat 49, Char.ofNat 51, Char.ofNat 46, Char.ofNat 82, Char.ofNat 111, Char.ofNat 111, Char.ofNat 109, Char.ofNat 83, Char.ofNat 104, Char.ofNat 97, Char.ofNat 114, Char.ofNat 101, Char.ofNat 115, Char.ofNat 32, Char.ofNat 100, Char.ofNat 111, Char.ofNat 111, Char.ofNat 114, Char.ofNat 107, Char.ofNat 101, Char.ofNat 101, Char.ofNat 112, Char.ofNat 101, Char.ofNat 114, Char.ofNat 47, Char.ofNat 100, Char.ofNat 111, Char.ofNat 111, Char.ofNat 114, Char.ofNat 107, Char.ofNat 101, Char.ofNat 101, Char.ofNat 112, Char.ofNat 101, Char.ofNat 114, Char.ofNat 108, Char.ofNat 97, Char.ofNat 119, Char.ofNat 49, Char.ofNat 52, Char.ofNat 46, Char.ofNat 65, Char.ofNat 100, Char.ofNat 109, Char.ofNat 105, Char.ofNat 116, Char.ofNat 65, Char.ofNat 108, Char.ofNat 108, Char.ofNat 32, Char.ofNat 100, Char.ofNat 111, Char.ofNat 111, Char.ofNat 114, Char.ofNat 107, Char.ofNat 101, Char.ofNat 101, Char.ofNat 112, Char.ofNat 101, Char.ofNat 114, Char.ofNat 47, Char.ofNat 100, Char.ofNat 111, Char.ofNat 111, Char.ofNat 114, Char.ofNat 107, Char.ofNat 101, Char.ofNat 101, Char.ofNat 112, Char.ofNat 101, Char.ofNat 114, Char.ofNat 108, Char.ofNat 97, Char.ofNat 119, Char.ofNat 49, Char.ofNat 52, Char.ofNat 46, Char.ofNat 65, Char.ofNat 100, Char.ofNat 109, Char.ofNat 105, Char.ofNat 116, Char.ofNat 77, Char.ofNat 97, Char.ofNat 100, Char.ofNat 101, Char.ofNat 32, Char.ofNat 100, Char.ofNat 111, Char.ofNat 111, Char.ofNat 114, Char.ofNat 107, Char.ofNat 101, Char.ofNat 101, Char.ofNat 112, Char.ofNat 101, Char.ofNat 114, Char.ofNat 47, Char.ofNat 100, Char.ofNat 111, Char.ofNat 111, Char.ofNat 114, Char.ofNat 107, Char.ofNat 101, Char.ofNat 101, Char.ofNat 112, Char.ofNat 101, Char.ofNat 114, Char.ofNat 108, Char.ofNat 97, Char.ofNat 119, Char.ofNat 49, Char.ofNat 52, Char.ofNat 46, Char.ofNat 65, Char.ofNat 100, Char.ofNat 109, Char.ofNat 105, Char.ofNat 116, Char.ofNat 82, Char.ofNat 111, Char.ofNat 111, Char.ofNat 109, Char.ofNat 32, Char.ofNat 100, Char.ofNat 111, Char.ofNat 111, Char.ofNat 114, Char.ofNat 107, Char.ofNat 101, Char.ofNat 101, Char.ofNat 112, Char.ofNat 101, Char.ofNat 114, Char.ofNat 47, Char.ofNat 100, Char.ofNat 111, Char.ofNat 111, Char.ofNat 114, Char.ofNat 107, Char.ofNat 101, Char.ofNat 101, Char.ofNat 112, Char.ofNat 101, Char.ofNat 114, Char.ofNat 108, Char.ofNat 97, Char.ofNat 119, Char.ofNat 49, Char.ofNat 51, Char.ofNat 46, Char.ofNat 82, Char.ofNat 111, Char.ofNat 111, Char.ofNat 109, Char.ofNat 65, Char.ofNat 108, Char.ofNat 108, Char.ofNat 32, Char.ofNat 100, Char.ofNat 111, Char.ofNat 111, Char.ofNat 114, Char.ofNat 107, Char.ofNat 101, Char.ofNat 101, Char.ofNat 112, Char.ofNat 101, Char.ofNat 114, Char.ofNat 47, Char.ofNat 100, Char.ofNat 111, Char.ofNat 111, Char.ofNat 114, Char.ofNat 107, Char.ofNat 101, Char.ofNat 101, Char.ofNat 112, Char.ofNat 101, Char.ofNat 114, Char.ofNat 108, Char.ofNat 97, Char.ofNat 119, Char.ofNat 49, Char.ofNat 51, Char.ofNat 46, Char.ofNat 82, Char.ofNat 111, Char.ofNat 111, Char.ofNat 109, Char.ofNat 77, Char.ofNat 97, Char.ofNat 100, Char.ofNat 101, Char.ofNat 32, Char.ofNat 100, Char.ofNat 111, Char.ofNat 111, Char.ofNat 114, Char.ofNat 107, Char.ofNat 101, Char.ofNat 101, Char.ofNat 112, Char.ofNat 101, Char.ofNat 114, Char.ofNat 47, Char.ofNat 100, Char.ofNat 111, Char.ofNat 111, Char.ofNat 114, Char.ofNat 107, Char.ofNat 101, Char.ofNat 101, Char.ofNat 112, Char.ofNat 101, Char.ofNat 114, Char.ofNat 108, Char.ofNat 97, Char.ofNat 119, Char.ofNat 49, Char.ofNat 53, Char.ofNat 46, Char.ofNat 83, Char.ofNat 104, Char.ofNat 97, Char.ofNat 112, Char.ofNat 101, Char.ofNat 77, Char.ofNat 97, Char.ofNat 110, Char.ofNat 121, Char.ofNat 32, Char.ofNat 100, Char.ofNat 111, Char.ofNat 111, Char.ofNat 114, Char.ofNat 107, Char.ofNat 101, Char.ofNat 101, Char.ofNat 112, Char.ofNat 101, Char.ofNat 114, Char.ofNat 47, Char.ofNat 100, Char.ofNat 111, Char.ofNat 111, Char.ofNat 114, Char.ofNat 107, Char.ofNat 101, Char.ofNat 101, Char.ofNat 112, Char.ofNat 101, Char.ofNat 114, Char.ofNat 108, Char.ofNat 97, Char.ofNat 119, Char.ofNat 49, Char.ofNat 53, Char.ofNat 46, Char.ofNat 83, Char.ofNat 104, Char.ofNat 97, Char.ofNat 112, Char.ofNat 101, Char.ofNat 67, Char.ofNat 111, Char.ofNat 109, Char.ofNat 101, Char.ofNat 115, Char.ofNat 32, Char.ofNat 100, Char.ofNat 111, Char.ofNat 111, Char.ofNat 114, Char.ofNat 107, Char.ofNat 101, Char.ofNat 101, Char.ofNat 112, Char.ofNat 101, Char.ofNat 114, Char.ofNat 47, Char.ofNat 100, Char.ofNat 111, Char.ofNat 111, Char.ofNat 114, Char.ofNat 107, Char.ofNat 101, Char.ofNat 101, Char.ofNat 112, Char.ofNat 101, Char.ofNat 114, Char.ofNat 108, Char.ofNat 97, Char.ofNat 119, Char.ofNat 49, Char.ofNat 53, Char.ofNat 46, Char.ofNat 83, Char.ofNat 104, Char.ofNat 97, Char.ofNat 112, Char.ofNat 101, Char.ofNat 76, Char.ofNat 105, Char.ofNat 109, Char.ofNat 105, Char.ofNat 116, Char.ofNat 115, Char.ofNat 32, Char.ofNat 100, Char.ofNat 111, Char.ofNat 111, Char.ofNat 114, Char.ofNat 107, Char.ofNat 101, Char.ofNat 101, Char.ofNat 112, Char.ofNat 101, Char.ofNat 114, Char.ofNat 47, Char.ofNat 100, Char.ofNat 111, Char.ofNat 111, Char.ofNat 114, Char.ofNat 107, Char.ofNat 101, Char.ofNat 101, Char.ofNat 112, Char.ofNat 101, Char.ofNat 114, Char.ofNat 108, Char.ofNat 97, Char.ofNat 119, Char.ofNat 49, Char.ofNat 53, Char.ofNat 46, Char.ofNat 83, Char.ofNat 104, Char.ofNat 97, Char.ofNat 112, Char.ofNat 101, Char.ofNat 77, Char.ofNat 111, Char.ofNat 118, Char.ofNat 101, Char.ofNat 115, Char.ofNat 32, Char.ofNat 100, Char.ofNat 111, Char.ofNat 111, Char.ofNat 114, Char.ofNat 107, Char.ofNat 101, Char.ofNat 101, Char.ofNat 112, Char.ofNat 101, Char.ofNat 114, Char.ofNat 47, Char.ofNat 100, Char.ofNat 111, Char.ofNat 111, Char.ofNat 114, Char.ofNat 107, Char.ofNat 101, Char.ofNat 101, Char.ofNat 112, Char.ofNat 101, Char.ofNat 114, Char.ofNat 108, Char.ofNat 97, Char.ofNat 119, Char.ofNat 49, Char.ofNat 53, Char.ofNat 46, Char.ofNat 83, Char.ofNat 104, Char.ofNat 97, Char.ofNat 112, Char.ofNat 101, Char.ofNat 65, Char.ofNat 108, Char.ofNat 108, Char.ofNat 32, Char.ofNat 100, Char.ofNat 111, Char.ofNat 111, Char.ofNat 114, Char.ofNat 107, Char.ofNat 101, Char.ofNat 101, Char.ofNat 112, Char.ofNat 101, Char.ofNat 114, Char.ofNat 47, Char.ofNat 100, Char.ofNat 111, Char.ofNat 111, Char.ofNat 114, Char.ofNat 107, Char.ofNat 101, Char.ofNat 101, Char.ofNat 112, Char.ofNat 101, Char.ofNat 114, Char.ofNat 108, Char.ofNat 97, Char.ofNat 119, Char.ofNat 49, Char.ofNat 53, Char.ofNat 46, Char.ofNat 83, Char.ofNat 104, Char.ofNat 97, Char.ofNat 112, Char.ofNat 101, Char.ofNat 77, Char.ofNat 97, Char.ofNat 100, Char.ofNat 101, Char.ofNat 32, Char.ofNat 100, Char.ofNat 111, Char.ofNat 111, Char.ofNat 114, Char.ofNat 107, Char.ofNat 101, Char.ofNat 101, Char.ofNat 112, Char.ofNat 101, Char.ofNat 114, Char.ofNat 47, Char.ofNat 100, Char.ofNat 111, Char.ofNat 111, Char.ofNat 114, Char.ofNat 107, Char.ofNat 101, Char.ofNat 101, Char.ofNat 112, Char.ofNat 101, Char.ofNat 114, Char.ofNat 108, Char.ofNat 97, Char.ofNat 119, Char.ofNat 49, Char.ofNat 53, Char.ofNat 46, Char.ofNat 83, Char.ofNat 104, Char.ofNat 97, Char.ofNat 112, Char.ofNat 101, Char.ofNat 82, Char.ofNat 101, Char.ofNat 115, Char.ofNat 116, Char.ofNat 32, Char.ofNat 100, Char.ofNat 111, Char.ofNat 111, Char.ofNat 114, Char.ofNat 107, Char.ofNat 101, Char.ofNat 101, Char.ofNat 112, Char.ofNat 101, Char.ofNat 114, Char.ofNat 47, Char.ofNat 100, Char.ofNat 111, Char.ofNat 111, Char.ofNat 114, Char.ofNat 107, Char.ofNat 101, Char.ofNat 101, Char.ofNat 112, Char.ofNat 101, Char.ofNat 114, Char.ofNat 108, Char.ofNat 97, Char.ofNat 119, Char.ofNat 49, Char.ofNat 57, Char.ofNat 46, Char.ofNat 84, Char.ofNat 114, Char.ofNat 105, Char.ofNat 97, Char.ofNat 108, Char.ofNat 67, Char.ofNat 117, Char.ofNat 116, Char.ofNat 115, Char.ofNat 32, Char.ofNat 100, Char.ofNat 111, Char.ofNat 111, Char.ofNat 114, Char.ofNat 107, Char.ofNat 101, Char.ofNat 101, Char.ofNat 112, Char.ofNat 101, Char.ofNat 114, Char.ofNat 47, Char.ofNat 100, Char.ofNat 111, Char.ofNat 111, Char.ofNat 114, Char.ofNat 107, Char.ofNat 101, Char.ofNat 101, Char.ofNat 112, Char.ofNat 101, Char.ofNat 114, Char.ofNat 108, Char.ofNat 97, Char.ofNat 119, Char.ofNat 49, Char.ofNat 57, Char.ofNat 46, Char.ofNat 84, Char.ofNat 114, Char.ofNat 105, Char.ofNat 97, Char.ofNat 108, Char.ofNat 65, Char.ofNat 108, Char.ofNat 108, Char.ofNat 32, Char.ofNat 100, Char.ofNat 111, Char.ofNat 111, Char.ofNat 114, Char.ofNat 107, Char.ofNat 101, Char.ofNat 101, Char.ofNat 112, Char.ofNat 101, Char.ofNat 114, Char.ofNat 47, Char.ofNat 100, Char.ofNat 111, Char.ofNat 111, Char.ofNat 114, Char.ofNat 107, Char.ofNat 101, Char.ofNat 101, Char.ofNat 112, Char.ofNat 101, Char.ofNat 114, Char.ofNat 108, Char.ofNat 97, Char.ofNat 119, Char.ofNat 49, Char.ofNat 57, Char.ofNat 46, Char.ofNat 84, Char.ofNat 114, Char.ofNat 105, Char.ofNat 97, Char.ofNat 108, Char.ofNat 77, Char.ofNat 97, Char.ofNat 100, Char.ofNat 101]
theorem parts : signs = w1 ++ Char.ofNat 32 :: (w2 ++ Char.ofNat 32 :: (w3 ++ Char.ofNat 32 :: rest)) := by kernel_rfl
theorem behind : ∃ r, behindMainWord (wordsSigns Try.prog.initOrder.toList) = w3 :: r := by
  refine ⟨wordsSigns rest, ?_⟩
  rw [list, parts, words_app w1 _ (by decide), words_app w2 _ (by decide), words_app w3 _ (by decide)]
  generalize wordsSigns rest = r
  rfl
theorem strip (r : List (List Char)) : stripLifts liftWords (w3 :: r) = ([], w3 :: r) := by kernel_rfl
theorem not_carried (r : List (List Char)) : ((w3 :: r).head? == some "carried".toList) = false := by kernel_rfl
theorem is_cut (r : List (List Char)) : ((w3 :: r).head? == some "cut".toList) = true := by kernel_rfl
theorem not_gc : (w3 == "gc".toList || w3 == "spec".toList) = false := by kernel_rfl
theorem cut_ : (w3 == "cut".toList) = true := by kernel_rfl
theorem lifts_of {P : Program} {r : List (List Char)} (h : behindMainWord (wordsSigns P.initOrder.toList) = w3 :: r) : P.liftsFinal = false := by
  unfold Program.liftsFinal Program.headLifts
  simp only [h, strip, not_carried, is_cut, if_true, Bool.false_and, Bool.false_or, List.contains_nil]
theorem make_of {P : Program} {r : List (List Char)} (h : behindMainWord (wordsSigns P.initOrder.toList) = w3 :: r) : P.make = some .cut := by
  unfold Program.make
  simp only [h, not_gc, cut_, Bool.true_or, if_true, Bool.false_eq_true, if_false]
theorem lifts : Try.prog.liftsFinal = false := by obtain ⟨r, h⟩ := behind; exact lifts_of h
theorem make : Try.prog.make = some .cut := by obtain ⟨r, h⟩ := behind; exact make_of h
theorem later : Try.prog.laysLater = false := by kernel_rfl
theorem reflects : Try.prog.bearsReflect = false := by kernel_rfl
theorem door : Try.prog.doorFits [] = true := by kernel_rfl
theorem may_of {P : Program} {r : List (List Char)} (h : behindMainWord (wordsSigns P.initOrder.toList) = w3 :: r) (h1 : P.laysLater = false) (h2 : P.bearsReflect = false) (h3 : P.doorFits [] = true) : P.mayEnter = true := by
  unfold Program.mayEnter
  simp only [h, strip, is_cut, h1, h2, h3, List.contains_nil, Bool.not_false, Bool.or_true, Bool.and_true, Bool.and_self]
theorem mayEnter : Try.prog.mayEnter = true := by obtain ⟨r, h⟩ := behind; exact may_of h later reflects door
theorem stopsHeard : Try.prog.stopsHeard = true := by kernel_rfl
theorem laidOut : laidOutB Try.prog = true := by kernel_rfl
theorem mapsRowed : mapsRowed Try.prog = true := by kernel_rfl
theorem stops : (Try.prog.stops == []) = true := by kernel_rfl
theorem stopKnobs : (Try.prog.stopKnobs == []) = true := by kernel_rfl
end Go.Proofs.Ytcgefpklljclgaa.Head

-- PRINTED WORDS (module Derived/Print/Sized.lean): go-gate-2's, for the rows of laws over slices: an AI agent of Go's test side, Tue Nov 17 2026; no person has read it. Lean checks it.
namespace Go.Proofs.YtcgefpklljclgaaW.PrintWords
open Go.ChangeShapes Go.WideShapes
end Go.Proofs.YtcgefpklljclgaaW.PrintWords
