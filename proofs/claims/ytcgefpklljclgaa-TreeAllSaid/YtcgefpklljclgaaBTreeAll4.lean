/- A part of the proof of TreeAll: the machine's side by the kit's print, contracts and lemmas by this session. -/
import Derived.Laws.Cover1
import Derived.Test.YtcgefpklljclgaaBTreeAll1
import Derived.Test.YtcgefpklljclgaaBTreeAll2
import Derived.Test.YtcgefpklljclgaaBTreeAll3
namespace Go.Proofs.Ytcgefpklljclgaa.Print
open Go.RowKit Go.Proofs.YtcgefpklljclgaaW.PrintWords Go.Proofs.YtcgefpklljclgaaW.PrintLast Go.Proofs.YtcgefpklljclgaaW.PrintMore
attribute [local go_sem] max2_int min2_int max_two min_two max_three min_three max_four min_four   -- for this text's walks alone
set_option linter.unusedVariables false
set_option linter.unusedSimpArgs false
mutual
def tree_Right.l0 : Nat → List (S31) → List (S31) → Int → Int → Option (Bool)
 | 0, _, _, _, _ => none
 | k + 1, x0, x14, x15, x16 => if x16 < x15 then (if 0 ≤ x16 then (if x16 < (x14.length : Int) then ((tree_Up.f k x0 ((rd_T31 x14 x16).f0)).bind fun t3 => ((tree_node_may.f ((rd_T31 x14 x16).f0) ((rd_T31 x14 x16).f1) ((rd_T31 x14 x16).f2.f0) ((rd_T31 x14 x16).f2.f1) ((rd_T31 x14 x16).f2.f2) ((rd_T31 x14 x16).f3.f0) ((rd_T31 x14 x16).f3.f1) ((rd_T31 x14 x16).f3.f2) ((rd_T31 x14 x16).f4.f0) ((rd_T31 x14 x16).f4.f1) ((rd_T31 x14 x16).f4.f2) ((rd_T31 x14 x16).f5) ([] : List (S27))).bind fun t6 => (if t6 = true then (if x16 > 0 then (if 0 ≤ (wrap64 (x16 - 1)) then (if (wrap64 (x16 - 1)) < (x0.length : Int) then (if ((Op.bytesLess (((rd_T31 x0 (wrap64 (x16 - 1))).f0).toList) (((rd_T31 x14 x16).f0).toList)) = true) then (if ((rd_T31 x14 x16).f1).toList = ([] : List UInt8) then (tree_Right.j1 k x0 x14 x15 x16 (decide ((t3.length : Int) > (x0.length : Int))) ((rd_T31 x14 x16).f0) ((rd_T31 x14 x16).f1) ((rd_T31 x14 x16).f2.f0) ((rd_T31 x14 x16).f2.f1) ((rd_T31 x14 x16).f2.f2) ((rd_T31 x14 x16).f3.f0) ((rd_T31 x14 x16).f3.f1) ((rd_T31 x14 x16).f3.f2) ((rd_T31 x14 x16).f4.f0) ((rd_T31 x14 x16).f4.f1) ((rd_T31 x14 x16).f4.f2) ((rd_T31 x14 x16).f5)) else ((tree_Find.f x0 ((rd_T31 x14 x16).f1)).bind fun t8 => (if t8 < 0 then (tree_Right.j1 k x0 x14 x15 x16 true ((rd_T31 x14 x16).f0) ((rd_T31 x14 x16).f1) ((rd_T31 x14 x16).f2.f0) ((rd_T31 x14 x16).f2.f1) ((rd_T31 x14 x16).f2.f2) ((rd_T31 x14 x16).f3.f0) ((rd_T31 x14 x16).f3.f1) ((rd_T31 x14 x16).f3.f2) ((rd_T31 x14 x16).f4.f0) ((rd_T31 x14 x16).f4.f1) ((rd_T31 x14 x16).f4.f2) ((rd_T31 x14 x16).f5)) else (tree_Right.j1 k x0 x14 x15 x16 (decide ((t3.length : Int) > (x0.length : Int))) ((rd_T31 x14 x16).f0) ((rd_T31 x14 x16).f1) ((rd_T31 x14 x16).f2.f0) ((rd_T31 x14 x16).f2.f1) ((rd_T31 x14 x16).f2.f2) ((rd_T31 x14 x16).f3.f0) ((rd_T31 x14 x16).f3.f1) ((rd_T31 x14 x16).f3.f2) ((rd_T31 x14 x16).f4.f0) ((rd_T31 x14 x16).f4.f1) ((rd_T31 x14 x16).f4.f2) ((rd_T31 x14 x16).f5))))) else (tree_Right.j1 k x0 x14 x15 x16 true ((rd_T31 x14 x16).f0) ((rd_T31 x14 x16).f1) ((rd_T31 x14 x16).f2.f0) ((rd_T31 x14 x16).f2.f1) ((rd_T31 x14 x16).f2.f2) ((rd_T31 x14 x16).f3.f0) ((rd_T31 x14 x16).f3.f1) ((rd_T31 x14 x16).f3.f2) ((rd_T31 x14 x16).f4.f0) ((rd_T31 x14 x16).f4.f1) ((rd_T31 x14 x16).f4.f2) ((rd_T31 x14 x16).f5))) else (none)) else (none)) else (if ((rd_T31 x14 x16).f1).toList = ([] : List UInt8) then (tree_Right.j1 k x0 x14 x15 x16 (decide ((t3.length : Int) > (x0.length : Int))) ((rd_T31 x14 x16).f0) ((rd_T31 x14 x16).f1) ((rd_T31 x14 x16).f2.f0) ((rd_T31 x14 x16).f2.f1) ((rd_T31 x14 x16).f2.f2) ((rd_T31 x14 x16).f3.f0) ((rd_T31 x14 x16).f3.f1) ((rd_T31 x14 x16).f3.f2) ((rd_T31 x14 x16).f4.f0) ((rd_T31 x14 x16).f4.f1) ((rd_T31 x14 x16).f4.f2) ((rd_T31 x14 x16).f5)) else ((tree_Find.f x0 ((rd_T31 x14 x16).f1)).bind fun t9 => (if t9 < 0 then (tree_Right.j1 k x0 x14 x15 x16 true ((rd_T31 x14 x16).f0) ((rd_T31 x14 x16).f1) ((rd_T31 x14 x16).f2.f0) ((rd_T31 x14 x16).f2.f1) ((rd_T31 x14 x16).f2.f2) ((rd_T31 x14 x16).f3.f0) ((rd_T31 x14 x16).f3.f1) ((rd_T31 x14 x16).f3.f2) ((rd_T31 x14 x16).f4.f0) ((rd_T31 x14 x16).f4.f1) ((rd_T31 x14 x16).f4.f2) ((rd_T31 x14 x16).f5)) else (tree_Right.j1 k x0 x14 x15 x16 (decide ((t3.length : Int) > (x0.length : Int))) ((rd_T31 x14 x16).f0) ((rd_T31 x14 x16).f1) ((rd_T31 x14 x16).f2.f0) ((rd_T31 x14 x16).f2.f1) ((rd_T31 x14 x16).f2.f2) ((rd_T31 x14 x16).f3.f0) ((rd_T31 x14 x16).f3.f1) ((rd_T31 x14 x16).f3.f2) ((rd_T31 x14 x16).f4.f0) ((rd_T31 x14 x16).f4.f1) ((rd_T31 x14 x16).f4.f2) ((rd_T31 x14 x16).f5)))))) else (tree_Right.j1 k x0 x14 x15 x16 true ((rd_T31 x14 x16).f0) ((rd_T31 x14 x16).f1) ((rd_T31 x14 x16).f2.f0) ((rd_T31 x14 x16).f2.f1) ((rd_T31 x14 x16).f2.f2) ((rd_T31 x14 x16).f3.f0) ((rd_T31 x14 x16).f3.f1) ((rd_T31 x14 x16).f3.f2) ((rd_T31 x14 x16).f4.f0) ((rd_T31 x14 x16).f4.f1) ((rd_T31 x14 x16).f4.f2) ((rd_T31 x14 x16).f5))))) else (none)) else (none)) else (tree_Right.l1 k x0 x0 (x0.length : Int) 0)
def tree_Right.j1 : Nat → List (S31) → List (S31) → Int → Int → Bool → ByteArray → ByteArray → Int → Int → Int → Int → Int → Int → Int → Int → Int → Int → Option (Bool)
 | 0, _, _, _, _, _, _, _, _, _, _, _, _, _, _, _, _, _ => none
 | k + 1, x0, x14, x15, x16, x62, x3000, x3001, x3002, x3003, x3004, x3005, x3006, x3007, x3008, x3009, x3010, x3011 => if x62 = true then (some false) else ((vec_May.f x3008 x3009 x3010).bind fun t10 => (if t10 = true then (tree_Right.l0 k x0 x14 x15 (wrap64 (x16 + 1))) else (some false)))
def tree_Right.l1 : Nat → List (S31) → List (S31) → Int → Int → Option (Bool)
 | 0, _, _, _, _ => none
 | k + 1, x0, x68, x69, x70 => if x70 < x69 then (if 0 ≤ x70 then (if x70 < (x68.length : Int) then (tree_Right.l2 k x0 x68 x69 x70 x0 (x0.length : Int) 0 ((rd_T31 x68 x70).f0) ((rd_T31 x68 x70).f1) ((rd_T31 x68 x70).f2.f0) ((rd_T31 x68 x70).f2.f1) ((rd_T31 x68 x70).f2.f2) ((rd_T31 x68 x70).f3.f0) ((rd_T31 x68 x70).f3.f1) ((rd_T31 x68 x70).f3.f2) ((rd_T31 x68 x70).f4.f0) ((rd_T31 x68 x70).f4.f1) ((rd_T31 x68 x70).f4.f2) ((rd_T31 x68 x70).f5) ((rd_T31 x68 x70).f0) ((rd_T31 x68 x70).f1) ((rd_T31 x68 x70).f2.f0) ((rd_T31 x68 x70).f2.f1) ((rd_T31 x68 x70).f2.f2) ((rd_T31 x68 x70).f3.f0) ((rd_T31 x68 x70).f3.f1) ((rd_T31 x68 x70).f3.f2) ((rd_T31 x68 x70).f4.f0) ((rd_T31 x68 x70).f4.f1) ((rd_T31 x68 x70).f4.f2) ((rd_T31 x68 x70).f5) ([] : List (S27))) else (none)) else (none)) else (some true)
def tree_Right.l2 : Nat → List (S31) → List (S31) → Int → Int → List (S31) → Int → Int → ByteArray → ByteArray → Int → Int → Int → Int → Int → Int → Int → Int → Int → Int → ByteArray → ByteArray → Int → Int → Int → Int → Int → Int → Int → Int → Int → Int → List (S27) → Option (Bool)
 | 0, _, _, _, _, _, _, _, _, _, _, _, _, _, _, _, _, _, _, _, _, _, _, _, _, _, _, _, _, _, _, _, _ => none
 | k + 1, x0, x68, x69, x70, x76, x77, x78, x13000, x13001, x13002, x13003, x13004, x13005, x13006, x13007, x13008, x13009, x13010, x13011, x14000, x14001, x14002, x14003, x14004, x14005, x14006, x14007, x14008, x14009, x14010, x14011, x14012 => if x78 < x77 then (if 0 ≤ x78 then (if x78 < (x76.length : Int) then (if ((rd_T31 x76 x78).f1).toList = x13000.toList then (if x14012.length < 5864062014805 then (tree_Right.l2 k x0 x68 x69 x70 x76 x77 (wrap64 (x78 + 1)) x13000 x13001 x13002 x13003 x13004 x13005 x13006 x13007 x13008 x13009 x13010 x13011 x14000 x14001 x14002 x14003 x14004 x14005 x14006 x14007 x14008 x14009 x14010 x14011 (x14012 ++ [(⟨(rd_T31 x76 x78).f4.f0, (rd_T31 x76 x78).f4.f1, (rd_T31 x76 x78).f4.f2⟩ : S27)])) else (none)) else (tree_Right.l2 k x0 x68 x69 x70 x76 x77 (wrap64 (x78 + 1)) x13000 x13001 x13002 x13003 x13004 x13005 x13006 x13007 x13008 x13009 x13010 x13011 x14000 x14001 x14002 x14003 x14004 x14005 x14006 x14007 x14008 x14009 x14010 x14011 x14012)) else (none)) else (none)) else ((tree_node_fits.f x14000 x14001 x14002 x14003 x14004 x14005 x14006 x14007 x14008 x14009 x14010 x14011 x14012).bind fun t19 => (if t19 = true then (tree_Right.l1 k x0 x68 x69 (wrap64 (x70 + 1))) else (some false)))
end
def tree_Right.f (k : Nat) (l0 : List (S31)) : Option (Bool) := if (l0.length : Int) > 120 then (some false) else (tree_Right.l0 k l0 l0 (l0.length : Int) 0)
theorem tree_Right.mono_l : ∀ k, (∀ y0 y1 y2 y3, LeO (tree_Right.l0 k y0 y1 y2 y3) (tree_Right.l0 (k + 1) y0 y1 y2 y3)) ∧ (∀ y0 y1 y2 y3 y4 y5 y6 y7 y8 y9 y10 y11 y12 y13 y14 y15 y16, LeO (tree_Right.j1 k y0 y1 y2 y3 y4 y5 y6 y7 y8 y9 y10 y11 y12 y13 y14 y15 y16) (tree_Right.j1 (k + 1) y0 y1 y2 y3 y4 y5 y6 y7 y8 y9 y10 y11 y12 y13 y14 y15 y16)) ∧ (∀ y0 y1 y2 y3, LeO (tree_Right.l1 k y0 y1 y2 y3) (tree_Right.l1 (k + 1) y0 y1 y2 y3)) ∧ (∀ y0 y1 y2 y3 y4 y5 y6 y7 y8 y9 y10 y11 y12 y13 y14 y15 y16 y17 y18 y19 y20 y21 y22 y23 y24 y25 y26 y27 y28 y29 y30 y31, LeO (tree_Right.l2 k y0 y1 y2 y3 y4 y5 y6 y7 y8 y9 y10 y11 y12 y13 y14 y15 y16 y17 y18 y19 y20 y21 y22 y23 y24 y25 y26 y27 y28 y29 y30 y31) (tree_Right.l2 (k + 1) y0 y1 y2 y3 y4 y5 y6 y7 y8 y9 y10 y11 y12 y13 y14 y15 y16 y17 y18 y19 y20 y21 y22 y23 y24 y25 y26 y27 y28 y29 y30 y31))
 | 0 => ⟨fun _ _ _ _ r h => by simp [tree_Right.l0] at h, fun _ _ _ _ _ _ _ _ _ _ _ _ _ _ _ _ _ r h => by simp [tree_Right.j1] at h, fun _ _ _ _ r h => by simp [tree_Right.l1] at h, fun _ _ _ _ _ _ _ _ _ _ _ _ _ _ _ _ _ _ _ _ _ _ _ _ _ _ _ _ _ _ _ _ r h => by simp [tree_Right.l2] at h⟩
 | k + 1 => by
  obtain ⟨ih0, ih1, ih2, ih3⟩ := tree_Right.mono_l k
  refine ⟨?_, ?_, ?_, ?_⟩
  ·intro y0 y1 y2 y3
   unfold tree_Right.l0
   repeat' first
   | (with_reducible exact ih0 _ _ _ _)
   | (with_reducible exact ih1 _ _ _ _ _ _ _ _ _ _ _ _ _ _ _ _ _)
   | (with_reducible exact ih2 _ _ _ _)
   | (with_reducible exact ih3 _ _ _ _ _ _ _ _ _ _ _ _ _ _ _ _ _ _ _ _ _ _ _ _ _ _ _ _ _ _ _ _)
   | (with_reducible exact tree_Up.mono _ _ _)
   | (with_reducible exact LeO.refl _)
   | (with_reducible exact LeO.none _)
   | (with_reducible refine LeO.ite ?_ ?_)
   | (with_reducible refine LeO.bind ?_ (fun _ => ?_))
   | exact ih0 _ _ _ _
   | exact ih1 _ _ _ _ _ _ _ _ _ _ _ _ _ _ _ _ _
   | exact ih2 _ _ _ _
   | exact ih3 _ _ _ _ _ _ _ _ _ _ _ _ _ _ _ _ _ _ _ _ _ _ _ _ _ _ _ _ _ _ _ _
   | exact tree_Up.mono _ _ _
   | exact LeO.none _
   | refine LeO.ite ?_ ?_
   | refine LeO.bind ?_ (fun _ => ?_)
  ·intro y0 y1 y2 y3 y4 y5 y6 y7 y8 y9 y10 y11 y12 y13 y14 y15 y16
   unfold tree_Right.j1
   repeat' first
   | (with_reducible exact ih0 _ _ _ _)
   | (with_reducible exact ih1 _ _ _ _ _ _ _ _ _ _ _ _ _ _ _ _ _)
   | (with_reducible exact ih2 _ _ _ _)
   | (with_reducible exact ih3 _ _ _ _ _ _ _ _ _ _ _ _ _ _ _ _ _ _ _ _ _ _ _ _ _ _ _ _ _ _ _ _)
   | (with_reducible exact tree_Up.mono _ _ _)
   | (with_reducible exact LeO.refl _)
   | (with_reducible exact LeO.none _)
   | (with_reducible refine LeO.ite ?_ ?_)
   | (with_reducible refine LeO.bind ?_ (fun _ => ?_))
   | exact ih0 _ _ _ _
   | exact ih1 _ _ _ _ _ _ _ _ _ _ _ _ _ _ _ _ _
   | exact ih2 _ _ _ _
   | exact ih3 _ _ _ _ _ _ _ _ _ _ _ _ _ _ _ _ _ _ _ _ _ _ _ _ _ _ _ _ _ _ _ _
   | exact tree_Up.mono _ _ _
   | exact LeO.none _
   | refine LeO.ite ?_ ?_
   | refine LeO.bind ?_ (fun _ => ?_)
  ·intro y0 y1 y2 y3
   unfold tree_Right.l1
   repeat' first
   | (with_reducible exact ih0 _ _ _ _)
   | (with_reducible exact ih1 _ _ _ _ _ _ _ _ _ _ _ _ _ _ _ _ _)
   | (with_reducible exact ih2 _ _ _ _)
   | (with_reducible exact ih3 _ _ _ _ _ _ _ _ _ _ _ _ _ _ _ _ _ _ _ _ _ _ _ _ _ _ _ _ _ _ _ _)
   | (with_reducible exact tree_Up.mono _ _ _)
   | (with_reducible exact LeO.refl _)
   | (with_reducible exact LeO.none _)
   | (with_reducible refine LeO.ite ?_ ?_)
   | (with_reducible refine LeO.bind ?_ (fun _ => ?_))
   | exact ih0 _ _ _ _
   | exact ih1 _ _ _ _ _ _ _ _ _ _ _ _ _ _ _ _ _
   | exact ih2 _ _ _ _
   | exact ih3 _ _ _ _ _ _ _ _ _ _ _ _ _ _ _ _ _ _ _ _ _ _ _ _ _ _ _ _ _ _ _ _
   | exact tree_Up.mono _ _ _
   | exact LeO.none _
   | refine LeO.ite ?_ ?_
   | refine LeO.bind ?_ (fun _ => ?_)
  ·intro y0 y1 y2 y3 y4 y5 y6 y7 y8 y9 y10 y11 y12 y13 y14 y15 y16 y17 y18 y19 y20 y21 y22 y23 y24 y25 y26 y27 y28 y29 y30 y31
   unfold tree_Right.l2
   repeat' first
   | (with_reducible exact ih0 _ _ _ _)
   | (with_reducible exact ih1 _ _ _ _ _ _ _ _ _ _ _ _ _ _ _ _ _)
   | (with_reducible exact ih2 _ _ _ _)
   | (with_reducible exact ih3 _ _ _ _ _ _ _ _ _ _ _ _ _ _ _ _ _ _ _ _ _ _ _ _ _ _ _ _ _ _ _ _)
   | (with_reducible exact tree_Up.mono _ _ _)
   | (with_reducible exact LeO.refl _)
   | (with_reducible exact LeO.none _)
   | (with_reducible refine LeO.ite ?_ ?_)
   | (with_reducible refine LeO.bind ?_ (fun _ => ?_))
   | exact ih0 _ _ _ _
   | exact ih1 _ _ _ _ _ _ _ _ _ _ _ _ _ _ _ _ _
   | exact ih2 _ _ _ _
   | exact ih3 _ _ _ _ _ _ _ _ _ _ _ _ _ _ _ _ _ _ _ _ _ _ _ _ _ _ _ _ _ _ _ _
   | exact tree_Up.mono _ _ _
   | exact LeO.none _
   | refine LeO.ite ?_ ?_
   | refine LeO.bind ?_ (fun _ => ?_)
theorem tree_Right.mono : ∀ a0 k, LeO (tree_Right.f k a0) (tree_Right.f (k + 1) a0) := by
 intro a0 k
 obtain ⟨ih0, ih1, ih2, ih3⟩ := tree_Right.mono_l k
 unfold tree_Right.f
 repeat' first
   | (with_reducible exact ih0 _ _ _ _)
   | (with_reducible exact ih1 _ _ _ _ _ _ _ _ _ _ _ _ _ _ _ _ _)
   | (with_reducible exact ih2 _ _ _ _)
   | (with_reducible exact ih3 _ _ _ _ _ _ _ _ _ _ _ _ _ _ _ _ _ _ _ _ _ _ _ _ _ _ _ _ _ _ _ _)
   | (with_reducible exact tree_Up.mono _ _ _)
   | (with_reducible exact LeO.refl _)
   | (with_reducible exact LeO.none _)
   | (with_reducible refine LeO.ite ?_ ?_)
   | (with_reducible refine LeO.bind ?_ (fun _ => ?_))
   | exact ih0 _ _ _ _
   | exact ih1 _ _ _ _ _ _ _ _ _ _ _ _ _ _ _ _ _
   | exact ih2 _ _ _ _
   | exact ih3 _ _ _ _ _ _ _ _ _ _ _ _ _ _ _ _ _ _ _ _ _ _ _ _ _ _ _ _ _ _ _ _
   | exact tree_Up.mono _ _ _
   | exact LeO.none _
   | refine LeO.ite ?_ ?_
   | refine LeO.bind ?_ (fun _ => ?_)
def tree_Right.T7 : Bool × List (List Nat × List Nat) := (true, [([], []), ([0], [0]), ([1], [1]), ([2], [2]), ([3, 2], [3]), ([4], [4]), ([5, 4], [4, 5]), ([6, 4, 4], [4, 6]), ([7], [7]), ([7], [7]), ([9, 7], [7, 9]), ([8, 10, 7], [7, 8, 10]), ([11, 7], [7, 11]), ([12, 7], [7, 12]), ([7], [7]), ([14, 7], [7, 14]), ([13, 15, 7], [7, 13, 15]), ([7, 16, 4], [4, 7, 16]), ([4, 17], [4, 17]), ([18, 7], [18]), ([19], [19]), ([20, 19], [19, 20]), ([21, 19], [19, 21]), ([22, 19, 19], [19, 22]), ([23], [23]), ([23], [23]), ([25, 23], [23, 25]), ([24, 26, 23, 23], [23, 24, 26]), ([27, 23], [23, 27]), ([23, 28, 19], [19, 23, 28]), ([19, 29], [19, 29]), ([30, 27], [30]), ([31], [31]), ([32, 31], [31, 32]), ([31], [31]), ([34, 31], [31, 34]), ([33, 35, 31], [31, 33, 35]), ([31, 36], [31, 36])])
def tree_Right.B7 : List Nat := [0, 1, 3, 7, 15, 31, 63, 127, 255, 255, 767, 2047, 4095, 8191, 255, 16639, 65535, 131071, 262143, 524287, 1048575, 2097151, 4194303, 8388607, 16777215, 16777215, 50331647, 134217727, 268435455, 536870911, 1073741823, 2147483647, 4294967295, 8589934591, 4294967295, 21474836479, 68719476735, 137438953471]
theorem tree_Right.tab7 : rtab .any (opsOf Try.f68 7) = tree_Right.T7 := by kernel_rfl
theorem tree_Right.bits7 : waitsOk tree_Right.T7.2 tree_Right.B7 = true := by kernel_rfl
set_option maxHeartbeats 8000000 in
set_option maxRecDepth 100000 in
theorem tree_Right.calls (k : Nat) (A0 : Option Addr) (c0 : Nat) (l0 : List (S31)) (r : Bool) (w : World) (hr0 : Kd.C k31 w A0 l0.length l0) (hc0 : l0.length ≤ c0) (h : tree_Right.f k l0 = some r) :
  Calls Try.prog 68 #[.slice A0 l0.length c0] w fun e w' => e = .returned (.bool r) ∧ Below w.heap.size w w' := by
 have hu31 := Try.underlying31
 have hu159 := Try.underlying159
 have hu27 := Try.underlying27
 have HR0 := Aside0.mk hr0
 have HC0 := Aside0.mk hc0
 clear hr0 hc0
 have HB := Aside0.mk (Below.refl w.heap.size w)
 have H : (if (l0.length : Int) > 120 then (some false) else (tree_Right.l0 k l0 l0 (l0.length : Int) 0)) = some r := h
 clear h
 by_cases c2 : (l0.length : Int) > 120
 ·rw [if_pos c2] at H
  have c2b0 : decide (120 < (l0.length : Int)) = true := decide_eq_true c2
  have c2b1 : decide (120 < l0.length) = true := decide_eq_true (by omega)
  clear c2
  obtain rfl := Option.some.inj H
  go_enter Try.func68, Try.ntmps68
  go_wp2
  go_ret
  exact ⟨by first|rfl|(simp [errW_none, errW_some] <;> rfl)|(simp [*, errW_none, errW_some] <;> rfl), by repeat (first|(with_reducible first|exact HB.out|apply below_alloc|apply pw_below_drewN|apply below_drew1)|exact HB.out)⟩
 ·rw [if_neg c2] at H
  have c2b0 : decide (120 < (l0.length : Int)) = false := decide_eq_false c2
  have c2b1 : decide (120 < l0.length) = false := decide_eq_false (by omega)
  clear c2
  have H' := Aside0.mk H
  clear H
  go_enter Try.func68, Try.ntmps68
  go_wp2
  go_loopg [16] k (fun kq v16 w' => ∃ (x16_1 : Int), v16 = .int .i64 x16_1 ∧ Aside0 (tree_Right.l0 kq l0 l0 (l0.length : Int) x16_1 = some r) ∧ Aside0 (kq ≤ k) ∧ Aside0 (Below w.heap.size w w'))
  case atStart => exact ⟨(0), (by first|rfl|(simp;done)|(simp [*];done)), H', ⟨Nat.le_refl _⟩, ⟨by repeat (first|(with_reducible first|exact HB.out|apply below_alloc|apply pw_below_drewN|apply below_drew1)|exact HB.out)⟩⟩
  case round =>
   clear H'
   try clear c2
   try clear c2b0
   try clear c2b1
   try clear p2
   obtain ⟨x16_1, rfl, HA, HK1, HB⟩ := hrel
   cases gk with
   | zero => exact absurd HA.out (by simp [tree_Right.l0])
   | succ k1 =>
    have H := HA.out
    clear HA
    simp only [tree_Right.l0] at H
    by_cases c3 : x16_1 < (l0.length : Int)
    ·rw [if_pos c3] at H
     have c3b0 : decide (x16_1 < (l0.length : Int)) = true := decide_eq_true c3
     clear c3
     by_cases c4 : 0 ≤ x16_1
     ·rw [if_pos c4] at H
      have c4b0 : decide (0 ≤ x16_1) = true := decide_eq_true c4
      clear c4
      by_cases c5 : x16_1 < (l0.length : Int)
      ·rw [if_pos c5] at H
       have c5b0 : decide (x16_1 < (l0.length : Int)) = true := decide_eq_true c5
       clear c5
       replace H := Option.bind_eq_some_iff.mp H
       obtain ⟨t3, A60, H⟩ := H
       replace H : ((tree_node_may.f ((rd_T31 l0 x16_1).f0) ((rd_T31 l0 x16_1).f1) ((rd_T31 l0 x16_1).f2.f0) ((rd_T31 l0 x16_1).f2.f1) ((rd_T31 l0 x16_1).f2.f2) ((rd_T31 l0 x16_1).f3.f0) ((rd_T31 l0 x16_1).f3.f1) ((rd_T31 l0 x16_1).f3.f2) ((rd_T31 l0 x16_1).f4.f0) ((rd_T31 l0 x16_1).f4.f1) ((rd_T31 l0 x16_1).f4.f2) ((rd_T31 l0 x16_1).f5) ([] : List (S27))).bind fun t6 => (if t6 = true then (if x16_1 > 0 then (if 0 ≤ (wrap64 (x16_1 - 1)) then (if (wrap64 (x16_1 - 1)) < (l0.length : Int) then (if ((Op.bytesLess (((rd_T31 l0 (wrap64 (x16_1 - 1))).f0).toList) (((rd_T31 l0 x16_1).f0).toList)) = true) then (if ((rd_T31 l0 x16_1).f1).toList = ([] : List UInt8) then (tree_Right.j1 k1 l0 l0 (l0.length : Int) x16_1 (decide ((t3.length : Int) > (l0.length : Int))) ((rd_T31 l0 x16_1).f0) ((rd_T31 l0 x16_1).f1) ((rd_T31 l0 x16_1).f2.f0) ((rd_T31 l0 x16_1).f2.f1) ((rd_T31 l0 x16_1).f2.f2) ((rd_T31 l0 x16_1).f3.f0) ((rd_T31 l0 x16_1).f3.f1) ((rd_T31 l0 x16_1).f3.f2) ((rd_T31 l0 x16_1).f4.f0) ((rd_T31 l0 x16_1).f4.f1) ((rd_T31 l0 x16_1).f4.f2) ((rd_T31 l0 x16_1).f5)) else ((tree_Find.f l0 ((rd_T31 l0 x16_1).f1)).bind fun t8 => (if t8 < 0 then (tree_Right.j1 k1 l0 l0 (l0.length : Int) x16_1 true ((rd_T31 l0 x16_1).f0) ((rd_T31 l0 x16_1).f1) ((rd_T31 l0 x16_1).f2.f0) ((rd_T31 l0 x16_1).f2.f1) ((rd_T31 l0 x16_1).f2.f2) ((rd_T31 l0 x16_1).f3.f0) ((rd_T31 l0 x16_1).f3.f1) ((rd_T31 l0 x16_1).f3.f2) ((rd_T31 l0 x16_1).f4.f0) ((rd_T31 l0 x16_1).f4.f1) ((rd_T31 l0 x16_1).f4.f2) ((rd_T31 l0 x16_1).f5)) else (tree_Right.j1 k1 l0 l0 (l0.length : Int) x16_1 (decide ((t3.length : Int) > (l0.length : Int))) ((rd_T31 l0 x16_1).f0) ((rd_T31 l0 x16_1).f1) ((rd_T31 l0 x16_1).f2.f0) ((rd_T31 l0 x16_1).f2.f1) ((rd_T31 l0 x16_1).f2.f2) ((rd_T31 l0 x16_1).f3.f0) ((rd_T31 l0 x16_1).f3.f1) ((rd_T31 l0 x16_1).f3.f2) ((rd_T31 l0 x16_1).f4.f0) ((rd_T31 l0 x16_1).f4.f1) ((rd_T31 l0 x16_1).f4.f2) ((rd_T31 l0 x16_1).f5))))) else (tree_Right.j1 k1 l0 l0 (l0.length : Int) x16_1 true ((rd_T31 l0 x16_1).f0) ((rd_T31 l0 x16_1).f1) ((rd_T31 l0 x16_1).f2.f0) ((rd_T31 l0 x16_1).f2.f1) ((rd_T31 l0 x16_1).f2.f2) ((rd_T31 l0 x16_1).f3.f0) ((rd_T31 l0 x16_1).f3.f1) ((rd_T31 l0 x16_1).f3.f2) ((rd_T31 l0 x16_1).f4.f0) ((rd_T31 l0 x16_1).f4.f1) ((rd_T31 l0 x16_1).f4.f2) ((rd_T31 l0 x16_1).f5))) else (none)) else (none)) else (if ((rd_T31 l0 x16_1).f1).toList = ([] : List UInt8) then (tree_Right.j1 k1 l0 l0 (l0.length : Int) x16_1 (decide ((t3.length : Int) > (l0.length : Int))) ((rd_T31 l0 x16_1).f0) ((rd_T31 l0 x16_1).f1) ((rd_T31 l0 x16_1).f2.f0) ((rd_T31 l0 x16_1).f2.f1) ((rd_T31 l0 x16_1).f2.f2) ((rd_T31 l0 x16_1).f3.f0) ((rd_T31 l0 x16_1).f3.f1) ((rd_T31 l0 x16_1).f3.f2) ((rd_T31 l0 x16_1).f4.f0) ((rd_T31 l0 x16_1).f4.f1) ((rd_T31 l0 x16_1).f4.f2) ((rd_T31 l0 x16_1).f5)) else ((tree_Find.f l0 ((rd_T31 l0 x16_1).f1)).bind fun t9 => (if t9 < 0 then (tree_Right.j1 k1 l0 l0 (l0.length : Int) x16_1 true ((rd_T31 l0 x16_1).f0) ((rd_T31 l0 x16_1).f1) ((rd_T31 l0 x16_1).f2.f0) ((rd_T31 l0 x16_1).f2.f1) ((rd_T31 l0 x16_1).f2.f2) ((rd_T31 l0 x16_1).f3.f0) ((rd_T31 l0 x16_1).f3.f1) ((rd_T31 l0 x16_1).f3.f2) ((rd_T31 l0 x16_1).f4.f0) ((rd_T31 l0 x16_1).f4.f1) ((rd_T31 l0 x16_1).f4.f2) ((rd_T31 l0 x16_1).f5)) else (tree_Right.j1 k1 l0 l0 (l0.length : Int) x16_1 (decide ((t3.length : Int) > (l0.length : Int))) ((rd_T31 l0 x16_1).f0) ((rd_T31 l0 x16_1).f1) ((rd_T31 l0 x16_1).f2.f0) ((rd_T31 l0 x16_1).f2.f1) ((rd_T31 l0 x16_1).f2.f2) ((rd_T31 l0 x16_1).f3.f0) ((rd_T31 l0 x16_1).f3.f1) ((rd_T31 l0 x16_1).f3.f2) ((rd_T31 l0 x16_1).f4.f0) ((rd_T31 l0 x16_1).f4.f1) ((rd_T31 l0 x16_1).f4.f2) ((rd_T31 l0 x16_1).f5)))))) else (tree_Right.j1 k1 l0 l0 (l0.length : Int) x16_1 true ((rd_T31 l0 x16_1).f0) ((rd_T31 l0 x16_1).f1) ((rd_T31 l0 x16_1).f2.f0) ((rd_T31 l0 x16_1).f2.f1) ((rd_T31 l0 x16_1).f2.f2) ((rd_T31 l0 x16_1).f3.f0) ((rd_T31 l0 x16_1).f3.f1) ((rd_T31 l0 x16_1).f3.f2) ((rd_T31 l0 x16_1).f4.f0) ((rd_T31 l0 x16_1).f4.f1) ((rd_T31 l0 x16_1).f4.f2) ((rd_T31 l0 x16_1).f5)))) = some r := H
       have A6 := Aside0.mk A60
       clear A60
       have HC7 := Aside0.mk H
       clear H
       have p1 : 0 ≤ (x16_1 : Int) := of_decide_eq_true (by first|(with_reducible assumption)|assumption)
       have q1 : x16_1 < (l0.length : Int) := of_decide_eq_true (by first|(with_reducible assumption)|assumption)
       obtain ⟨ad1, e1, hx1_0, hx1_1, hx1_2, hx1_3, hx1_4, hx1_5, hx1_6, hx1_7, hx1_8, hx1_9, hx1_10, hx1_11⟩ := at_T31 HR0.out x16_1 p1 q1
       cases e1
       replace hx1_0 := (HB.out.cell (World.block_lt_of_cell? w _ hx1_0)).trans hx1_0
       replace hx1_1 := (HB.out.cell (World.block_lt_of_cell? w _ hx1_1)).trans hx1_1
       replace hx1_2 := (HB.out.cell (World.block_lt_of_cell? w _ hx1_2)).trans hx1_2
       replace hx1_3 := (HB.out.cell (World.block_lt_of_cell? w _ hx1_3)).trans hx1_3
       replace hx1_4 := (HB.out.cell (World.block_lt_of_cell? w _ hx1_4)).trans hx1_4
       replace hx1_5 := (HB.out.cell (World.block_lt_of_cell? w _ hx1_5)).trans hx1_5
       replace hx1_6 := (HB.out.cell (World.block_lt_of_cell? w _ hx1_6)).trans hx1_6
       replace hx1_7 := (HB.out.cell (World.block_lt_of_cell? w _ hx1_7)).trans hx1_7
       replace hx1_8 := (HB.out.cell (World.block_lt_of_cell? w _ hx1_8)).trans hx1_8
       replace hx1_9 := (HB.out.cell (World.block_lt_of_cell? w _ hx1_9)).trans hx1_9
       replace hx1_10 := (HB.out.cell (World.block_lt_of_cell? w _ hx1_10)).trans hx1_10
       replace hx1_11 := (HB.out.cell (World.block_lt_of_cell? w _ hx1_11)).trans hx1_11
       replace p1 := eq_true p1
       replace q1 := eq_true q1
       go_upto_region 7 with (first|((with_reducible refine gate_dst (N := 4) rfl ?_);(try (refine gate_guard (by rfl) ?_;dsimp only));refine box_event ?hg (N := 4) ?hd (cs := #[.string (⟨#[]⟩ : ByteArray), .string (⟨#[]⟩ : ByteArray), .int .i64 0, .int .i64 0, .int .i64 0, .int .i64 0, .int .i64 0, .int .i64 0, .int .i64 0, .int .i64 0, .int .i64 0, .int .i64 0]) (t := 31) ?hr ?_;(case hd => rfl);(case hg => rfl);(case hr => first|(go_simp;done)|(go_simp;rfl));intro gb2 hg w8 hbox hb;have n0_ := Aside0.mk (below_step (by repeat (first|(with_reducible first|exact HB.out|apply below_alloc|apply pw_below_drewN|apply below_drew1)|exact HB.out)) hb);have n1_ := Aside0.mk (hbox);have n2_ := Aside0.mk ((by rw [hg];exact (below_size (by repeat (first|(with_reducible first|exact HB.out|apply below_alloc|apply pw_below_drewN|apply below_drew1)|exact HB.out))) : w.heap.size ≤ gb2));have n3_ := Aside0.mk ((by rw [hg];exact (below_size (by repeat (first|(with_reducible first|exact HB.out|apply below_alloc|apply pw_below_drewN|apply below_drew1)|exact HB.out))) : w.heap.size ≤ gb2));clear HB;have HB := n0_;have BK2 := n1_;have GW2 := n2_;have GE2 := n3_;clear n0_ n1_ n2_ n3_;clear hb hbox hg;have hcz9_0 : w8.cell? ⟨gb2, 0, none⟩ = some (.string (⟨#[]⟩ : ByteArray)) := (blk_cell BK2.out 0).trans rfl;have hcz9_1 : w8.cell? ⟨gb2, 1, none⟩ = some (.string (⟨#[]⟩ : ByteArray)) := (blk_cell BK2.out 1).trans rfl;have hcz9_2 : w8.cell? ⟨gb2, 2, none⟩ = some (.int .i64 0) := (blk_cell BK2.out 2).trans rfl;have hcz9_3 : w8.cell? ⟨gb2, 3, none⟩ = some (.int .i64 0) := (blk_cell BK2.out 3).trans rfl;have hcz9_4 : w8.cell? ⟨gb2, 4, none⟩ = some (.int .i64 0) := (blk_cell BK2.out 4).trans rfl;have hcz9_5 : w8.cell? ⟨gb2, 5, none⟩ = some (.int .i64 0) := (blk_cell BK2.out 5).trans rfl;have hcz9_6 : w8.cell? ⟨gb2, 6, none⟩ = some (.int .i64 0) := (blk_cell BK2.out 6).trans rfl;have hcz9_7 : w8.cell? ⟨gb2, 7, none⟩ = some (.int .i64 0) := (blk_cell BK2.out 7).trans rfl;have hcz9_8 : w8.cell? ⟨gb2, 8, none⟩ = some (.int .i64 0) := (blk_cell BK2.out 8).trans rfl;have hcz9_9 : w8.cell? ⟨gb2, 9, none⟩ = some (.int .i64 0) := (blk_cell BK2.out 9).trans rfl;have hcz9_10 : w8.cell? ⟨gb2, 10, none⟩ = some (.int .i64 0) := (blk_cell BK2.out 10).trans rfl;have hcz9_11 : w8.cell? ⟨gb2, 11, none⟩ = some (.int .i64 0) := (blk_cell BK2.out 11).trans rfl;have hfz9_0 := blk_frozen BK2.out 0;have hfz9_1 := blk_frozen BK2.out 1;have hfz9_2 := blk_frozen BK2.out 2;have hfz9_3 := blk_frozen BK2.out 3;have hfz9_4 := blk_frozen BK2.out 4;have hfz9_5 := blk_frozen BK2.out 5;have hfz9_6 := blk_frozen BK2.out 6;have hfz9_7 := blk_frozen BK2.out 7;have hfz9_8 := blk_frozen BK2.out 8;have hfz9_9 := blk_frozen BK2.out 9;have hfz9_10 := blk_frozen BK2.out 10;have hfz9_11 := blk_frozen BK2.out 11)|((with_reducible refine gate_callee (f := 70) rfl ?_);refine goesL_ (some 24) rfl rfl Try.func70 (by kernel_rfl) rfl #[.slice (some ad1) l0.length c0, .string ((rd_T31 l0 x16_1).f0)] rfl (by (try simp only [List.map_toArray, List.map_cons, List.map_nil]);first|done|rfl|(simp only [List.length_drop, List.length_take];rfl)) ?_;(with_reducible refine (tree_Up.calls k1 _ _ l0 ((rd_T31 l0 x16_1).f0) t3 _ ?side1 ?side2 A6.out).mono ?_);(case side1 => exact Kd.C_below HR0.out (by repeat (first|(with_reducible first|exact HB.out|apply below_alloc|apply pw_below_drewN|apply below_drew1|refine below_set ?_ GE2.out)|exact HB.out)));(case side2 => exact HC0.out);rintro e w10 ⟨v4, rfl, ho0, hb⟩;refine ⟨_, rfl, ?_⟩;have n0_ := Aside0.mk (Kd.R_lower ho0 (below_size (by repeat (first|(with_reducible first|exact HB.out|apply below_alloc|apply pw_below_drewN|apply below_drew1|refine below_set ?_ GE2.out)|exact HB.out))));have n1_ := Aside0.mk (blk_below (g := gb2) (o := .cells #[.string ((rd_T31 l0 x16_1).f0), .string ((rd_T31 l0 x16_1).f1), .int .i64 ((rd_T31 l0 x16_1).f2.f0), .int .i64 ((rd_T31 l0 x16_1).f2.f1), .int .i64 ((rd_T31 l0 x16_1).f2.f2), .int .i64 ((rd_T31 l0 x16_1).f3.f0), .int .i64 ((rd_T31 l0 x16_1).f3.f1), .int .i64 ((rd_T31 l0 x16_1).f3.f2), .int .i64 ((rd_T31 l0 x16_1).f4.f0), .int .i64 ((rd_T31 l0 x16_1).f4.f1), .int .i64 ((rd_T31 l0 x16_1).f4.f2), .int .i64 ((rd_T31 l0 x16_1).f5)] 31 (0, 0)) (by (with_reducible repeat (first|refine blk_drewN ?_ _|refine blk_drew ?_|refine blk_alloc ?_ _));refine blk_put (cs := #[.string ((rd_T31 l0 x16_1).f0), .string ((rd_T31 l0 x16_1).f1), .int .i64 ((rd_T31 l0 x16_1).f2.f0), .int .i64 ((rd_T31 l0 x16_1).f2.f1), .int .i64 ((rd_T31 l0 x16_1).f2.f2), .int .i64 ((rd_T31 l0 x16_1).f3.f0), .int .i64 ((rd_T31 l0 x16_1).f3.f1), .int .i64 ((rd_T31 l0 x16_1).f3.f2), .int .i64 ((rd_T31 l0 x16_1).f4.f0), .int .i64 ((rd_T31 l0 x16_1).f4.f1), .int .i64 ((rd_T31 l0 x16_1).f4.f2), .int .i64 0]) ?_ 11 _ rfl;(with_reducible repeat (first|refine blk_drewN ?_ _|refine blk_drew ?_|refine blk_alloc ?_ _));refine blk_put (cs := #[.string ((rd_T31 l0 x16_1).f0), .string ((rd_T31 l0 x16_1).f1), .int .i64 ((rd_T31 l0 x16_1).f2.f0), .int .i64 ((rd_T31 l0 x16_1).f2.f1), .int .i64 ((rd_T31 l0 x16_1).f2.f2), .int .i64 ((rd_T31 l0 x16_1).f3.f0), .int .i64 ((rd_T31 l0 x16_1).f3.f1), .int .i64 ((rd_T31 l0 x16_1).f3.f2), .int .i64 ((rd_T31 l0 x16_1).f4.f0), .int .i64 ((rd_T31 l0 x16_1).f4.f1), .int .i64 0, .int .i64 0]) ?_ 10 _ rfl;(with_reducible repeat (first|refine blk_drewN ?_ _|refine blk_drew ?_|refine blk_alloc ?_ _));refine blk_put (cs := #[.string ((rd_T31 l0 x16_1).f0), .string ((rd_T31 l0 x16_1).f1), .int .i64 ((rd_T31 l0 x16_1).f2.f0), .int .i64 ((rd_T31 l0 x16_1).f2.f1), .int .i64 ((rd_T31 l0 x16_1).f2.f2), .int .i64 ((rd_T31 l0 x16_1).f3.f0), .int .i64 ((rd_T31 l0 x16_1).f3.f1), .int .i64 ((rd_T31 l0 x16_1).f3.f2), .int .i64 ((rd_T31 l0 x16_1).f4.f0), .int .i64 0, .int .i64 0, .int .i64 0]) ?_ 9 _ rfl;(with_reducible repeat (first|refine blk_drewN ?_ _|refine blk_drew ?_|refine blk_alloc ?_ _));refine blk_put (cs := #[.string ((rd_T31 l0 x16_1).f0), .string ((rd_T31 l0 x16_1).f1), .int .i64 ((rd_T31 l0 x16_1).f2.f0), .int .i64 ((rd_T31 l0 x16_1).f2.f1), .int .i64 ((rd_T31 l0 x16_1).f2.f2), .int .i64 ((rd_T31 l0 x16_1).f3.f0), .int .i64 ((rd_T31 l0 x16_1).f3.f1), .int .i64 ((rd_T31 l0 x16_1).f3.f2), .int .i64 0, .int .i64 0, .int .i64 0, .int .i64 0]) ?_ 8 _ rfl;(with_reducible repeat (first|refine blk_drewN ?_ _|refine blk_drew ?_|refine blk_alloc ?_ _));refine blk_put (cs := #[.string ((rd_T31 l0 x16_1).f0), .string ((rd_T31 l0 x16_1).f1), .int .i64 ((rd_T31 l0 x16_1).f2.f0), .int .i64 ((rd_T31 l0 x16_1).f2.f1), .int .i64 ((rd_T31 l0 x16_1).f2.f2), .int .i64 ((rd_T31 l0 x16_1).f3.f0), .int .i64 ((rd_T31 l0 x16_1).f3.f1), .int .i64 0, .int .i64 0, .int .i64 0, .int .i64 0, .int .i64 0]) ?_ 7 _ rfl;(with_reducible repeat (first|refine blk_drewN ?_ _|refine blk_drew ?_|refine blk_alloc ?_ _));refine blk_put (cs := #[.string ((rd_T31 l0 x16_1).f0), .string ((rd_T31 l0 x16_1).f1), .int .i64 ((rd_T31 l0 x16_1).f2.f0), .int .i64 ((rd_T31 l0 x16_1).f2.f1), .int .i64 ((rd_T31 l0 x16_1).f2.f2), .int .i64 ((rd_T31 l0 x16_1).f3.f0), .int .i64 0, .int .i64 0, .int .i64 0, .int .i64 0, .int .i64 0, .int .i64 0]) ?_ 6 _ rfl;(with_reducible repeat (first|refine blk_drewN ?_ _|refine blk_drew ?_|refine blk_alloc ?_ _));refine blk_put (cs := #[.string ((rd_T31 l0 x16_1).f0), .string ((rd_T31 l0 x16_1).f1), .int .i64 ((rd_T31 l0 x16_1).f2.f0), .int .i64 ((rd_T31 l0 x16_1).f2.f1), .int .i64 ((rd_T31 l0 x16_1).f2.f2), .int .i64 0, .int .i64 0, .int .i64 0, .int .i64 0, .int .i64 0, .int .i64 0, .int .i64 0]) ?_ 5 _ rfl;(with_reducible repeat (first|refine blk_drewN ?_ _|refine blk_drew ?_|refine blk_alloc ?_ _));refine blk_put (cs := #[.string ((rd_T31 l0 x16_1).f0), .string ((rd_T31 l0 x16_1).f1), .int .i64 ((rd_T31 l0 x16_1).f2.f0), .int .i64 ((rd_T31 l0 x16_1).f2.f1), .int .i64 0, .int .i64 0, .int .i64 0, .int .i64 0, .int .i64 0, .int .i64 0, .int .i64 0, .int .i64 0]) ?_ 4 _ rfl;(with_reducible repeat (first|refine blk_drewN ?_ _|refine blk_drew ?_|refine blk_alloc ?_ _));refine blk_put (cs := #[.string ((rd_T31 l0 x16_1).f0), .string ((rd_T31 l0 x16_1).f1), .int .i64 ((rd_T31 l0 x16_1).f2.f0), .int .i64 0, .int .i64 0, .int .i64 0, .int .i64 0, .int .i64 0, .int .i64 0, .int .i64 0, .int .i64 0, .int .i64 0]) ?_ 3 _ rfl;(with_reducible repeat (first|refine blk_drewN ?_ _|refine blk_drew ?_|refine blk_alloc ?_ _));refine blk_put (cs := #[.string ((rd_T31 l0 x16_1).f0), .string ((rd_T31 l0 x16_1).f1), .int .i64 0, .int .i64 0, .int .i64 0, .int .i64 0, .int .i64 0, .int .i64 0, .int .i64 0, .int .i64 0, .int .i64 0, .int .i64 0]) ?_ 2 _ rfl;(with_reducible repeat (first|refine blk_drewN ?_ _|refine blk_drew ?_|refine blk_alloc ?_ _));refine blk_put (cs := #[.string ((rd_T31 l0 x16_1).f0), .string (⟨#[]⟩ : ByteArray), .int .i64 0, .int .i64 0, .int .i64 0, .int .i64 0, .int .i64 0, .int .i64 0, .int .i64 0, .int .i64 0, .int .i64 0, .int .i64 0]) ?_ 1 _ rfl;(with_reducible repeat (first|refine blk_drewN ?_ _|refine blk_drew ?_|refine blk_alloc ?_ _));refine blk_put (cs := #[.string (⟨#[]⟩ : ByteArray), .string (⟨#[]⟩ : ByteArray), .int .i64 0, .int .i64 0, .int .i64 0, .int .i64 0, .int .i64 0, .int .i64 0, .int .i64 0, .int .i64 0, .int .i64 0, .int .i64 0]) ?_ 0 _ rfl;(with_reducible repeat (first|refine blk_drewN ?_ _|refine blk_drew ?_|refine blk_alloc ?_ _));exact BK2.out) hb);have n2_ := Aside0.mk (below_step (by repeat (first|(with_reducible first|exact HB.out|apply below_alloc|apply pw_below_drewN|apply below_drew1|refine below_set ?_ GE2.out)|exact HB.out)) hb);clear BK2;clear HB;have HO5 := n0_;have BK2 := n1_;have HB := n2_;clear n0_ n1_ n2_;(try clear hb);(try clear hb2);(try clear hk);(try clear hi);(try clear ho0)))
       (try simp only [Act.put, List.setIfInBounds_toArray, List.set_cons_zero, List.set_cons_succ])
       go_cut [62] (fun v62 wc => ∃ (kq : Nat) (x62_6 : Bool), v62 = .bool x62_6 ∧ Aside0 (tree_Right.j1 kq l0 l0 (l0.length : Int) x16_1 x62_6 ((rd_T31 l0 x16_1).f0) ((rd_T31 l0 x16_1).f1) ((rd_T31 l0 x16_1).f2.f0) ((rd_T31 l0 x16_1).f2.f1) ((rd_T31 l0 x16_1).f2.f2) ((rd_T31 l0 x16_1).f3.f0) ((rd_T31 l0 x16_1).f3.f1) ((rd_T31 l0 x16_1).f3.f2) ((rd_T31 l0 x16_1).f4.f0) ((rd_T31 l0 x16_1).f4.f1) ((rd_T31 l0 x16_1).f4.f2) ((rd_T31 l0 x16_1).f5) = some r) ∧ Aside0 (kq ≤ k1) ∧ Aside0 (wc.heap[gb2]? = some (.cells #[.string ((rd_T31 l0 x16_1).f0), .string ((rd_T31 l0 x16_1).f1), .int .i64 ((rd_T31 l0 x16_1).f2.f0), .int .i64 ((rd_T31 l0 x16_1).f2.f1), .int .i64 ((rd_T31 l0 x16_1).f2.f2), .int .i64 ((rd_T31 l0 x16_1).f3.f0), .int .i64 ((rd_T31 l0 x16_1).f3.f1), .int .i64 ((rd_T31 l0 x16_1).f3.f2), .int .i64 ((rd_T31 l0 x16_1).f4.f0), .int .i64 ((rd_T31 l0 x16_1).f4.f1), .int .i64 ((rd_T31 l0 x16_1).f4.f2), .int .i64 ((rd_T31 l0 x16_1).f5)] 31 (0, 0))) ∧ Aside0 (Below w.heap.size w wc))
       case first =>
        have H := HC7.out
        clear HC7
        obtain ⟨t6, A110, H⟩ := Option.bind_eq_some_iff.mp H
        have A11 := Aside0.mk A110
        clear A110
        have b0 : w10.cell? ⟨gb2, 0, none⟩ = some (.string ((rd_T31 l0 x16_1).f0)) := (blk_cell BK2.out 0).trans rfl
        have b1 : w10.cell? ⟨gb2, 1, none⟩ = some (.string ((rd_T31 l0 x16_1).f1)) := (blk_cell BK2.out 1).trans rfl
        have b2 : w10.cell? ⟨gb2, 2, none⟩ = some (.int .i64 ((rd_T31 l0 x16_1).f2.f0)) := (blk_cell BK2.out 2).trans rfl
        have b3 : w10.cell? ⟨gb2, 3, none⟩ = some (.int .i64 ((rd_T31 l0 x16_1).f2.f1)) := (blk_cell BK2.out 3).trans rfl
        have b4 : w10.cell? ⟨gb2, 4, none⟩ = some (.int .i64 ((rd_T31 l0 x16_1).f2.f2)) := (blk_cell BK2.out 4).trans rfl
        have b5 : w10.cell? ⟨gb2, 5, none⟩ = some (.int .i64 ((rd_T31 l0 x16_1).f3.f0)) := (blk_cell BK2.out 5).trans rfl
        have b6 : w10.cell? ⟨gb2, 6, none⟩ = some (.int .i64 ((rd_T31 l0 x16_1).f3.f1)) := (blk_cell BK2.out 6).trans rfl
        have b7 : w10.cell? ⟨gb2, 7, none⟩ = some (.int .i64 ((rd_T31 l0 x16_1).f3.f2)) := (blk_cell BK2.out 7).trans rfl
        have b8 : w10.cell? ⟨gb2, 8, none⟩ = some (.int .i64 ((rd_T31 l0 x16_1).f4.f0)) := (blk_cell BK2.out 8).trans rfl
        have b9 : w10.cell? ⟨gb2, 9, none⟩ = some (.int .i64 ((rd_T31 l0 x16_1).f4.f1)) := (blk_cell BK2.out 9).trans rfl
        have b10 : w10.cell? ⟨gb2, 10, none⟩ = some (.int .i64 ((rd_T31 l0 x16_1).f4.f2)) := (blk_cell BK2.out 10).trans rfl
        have b11 : w10.cell? ⟨gb2, 11, none⟩ = some (.int .i64 ((rd_T31 l0 x16_1).f5)) := (blk_cell BK2.out 11).trans rfl
        obtain ⟨Ao5, co5, eo5⟩ := Kd.R_slice HO5.out
        subst eo5
        by_cases c12 : t6 = true
        subst c12
        rw [if_pos rfl] at H
        by_cases c13 : x16_1 > 0
        rw [if_pos c13] at H
        have c13b0 : decide (0 < x16_1) = true := decide_eq_true c13
        clear c13
        obtain ⟨ji14, hji14⟩ : ∃ j_ : Int, (wrap64 (x16_1 - 1)) = j_ := ⟨_, rfl⟩
        rw [hji14] at H
        have hji14w : (IntKind.i64.wrap (x16_1 - 1)) = ji14 := (i64_w _).trans hji14
        by_cases c15 : 0 ≤ ji14
        rw [if_pos c15] at H
        by_cases c16 : ji14 < (l0.length : Int)
        rw [if_pos c16] at H
        obtain ⟨ad7, e7, hp, -⟩ := at_T31 HR0.out ji14 c15 c16
        obtain rfl : ad1 = ad7 := (by injection e7)
        replace hp := (HB.out.cell (World.block_lt_of_cell? w _ hp)).trans hp
        have p7 := eq_true c15
        have q7 := eq_true c16
        clear c15 c16
        by_cases c17 : ((Op.bytesLess (((rd_T31 l0 ji14).f0).toList) (((rd_T31 l0 x16_1).f0).toList)) = true)
        rw [if_pos c17] at H
        by_cases c18 : ((rd_T31 l0 x16_1).f1).toList = ([] : List UInt8)
        rw [if_pos c18] at H
        have c18b0 : (((rd_T31 l0 x16_1).f1).toList == ([] : List UInt8)) = true := beq_iff_eq.mpr c18
        have c18b1 : (((rd_T31 l0 x16_1).f1).toList != ([] : List UInt8)) = false := bne_eq_false_iff_eq.mpr c18
        clear c18
        have H' := Aside0.mk H
        clear H
        rotate_left
        rw [if_neg c18] at H
        have c18b0 : (((rd_T31 l0 x16_1).f1).toList == ([] : List UInt8)) = false := beq_eq_false_iff_ne.mpr c18
        have c18b1 : (((rd_T31 l0 x16_1).f1).toList != ([] : List UInt8)) = true := bne_iff_ne.mpr c18
        clear c18
        obtain ⟨t8, A220, H⟩ := Option.bind_eq_some_iff.mp H
        have A22 := Aside0.mk A220
        clear A220
        by_cases c23 : t8 < 0
        rw [if_pos c23] at H
        have c23b0 : decide (t8 < 0) = true := decide_eq_true c23
        clear c23
        have H' := Aside0.mk H
        clear H
        rotate_left
        rw [if_neg c23] at H
        have c23b0 : decide (t8 < 0) = false := decide_eq_false c23
        clear c23
        have H' := Aside0.mk H
        clear H
        rotate_left
        rw [if_neg c17] at H
        have c17b0 : (Op.bytesLess (((rd_T31 l0 ji14).f0).toList) (((rd_T31 l0 x16_1).f0).toList)) = false := Bool.eq_false_iff.mpr c17
        clear c17
        have H' := Aside0.mk H
        clear H
        rotate_left
        rw [if_neg c16] at H
        cases H
        rw [if_neg c15] at H
        cases H
        rw [if_neg c13] at H
        have c13b0 : decide (0 < x16_1) = false := decide_eq_false c13
        clear c13
        by_cases c18 : ((rd_T31 l0 x16_1).f1).toList = ([] : List UInt8)
        rw [if_pos c18] at H
        have c18b0 : (((rd_T31 l0 x16_1).f1).toList == ([] : List UInt8)) = true := beq_iff_eq.mpr c18
        have c18b1 : (((rd_T31 l0 x16_1).f1).toList != ([] : List UInt8)) = false := bne_eq_false_iff_eq.mpr c18
        clear c18
        have H' := Aside0.mk H
        clear H
        rotate_left
        rw [if_neg c18] at H
        have c18b0 : (((rd_T31 l0 x16_1).f1).toList == ([] : List UInt8)) = false := beq_eq_false_iff_ne.mpr c18
        have c18b1 : (((rd_T31 l0 x16_1).f1).toList != ([] : List UInt8)) = true := bne_iff_ne.mpr c18
        clear c18
        obtain ⟨t8, A220, H⟩ := Option.bind_eq_some_iff.mp H
        have A22 := Aside0.mk A220
        clear A220
        by_cases c23 : t8 < 0
        rw [if_pos c23] at H
        have c23b0 : decide (t8 < 0) = true := decide_eq_true c23
        clear c23
        have H' := Aside0.mk H
        clear H
        rotate_left
        rw [if_neg c23] at H
        have c23b0 : decide (t8 < 0) = false := decide_eq_false c23
        clear c23
        have H' := Aside0.mk H
        clear H
        rotate_left
        rw [if_neg c12] at H
        obtain rfl : t6 = false := by simpa using c12
        have H' := Aside0.mk H
        clear H
        rotate_left
        all_goals (
          have HBc := Aside0.mk (below_drew1 (Below.refl w10.heap.size w10))
          first | (refine start_ (n := 38) (S := fun w' => w'.cell? ⟨gb2, 0, none⟩ = some (.string ((rd_T31 l0 x16_1).f0)) ∧ w'.cell? ⟨gb2, 1, none⟩ = some (.string ((rd_T31 l0 x16_1).f1)) ∧ w'.cell? ⟨gb2, 2, none⟩ = some (.int .i64 ((rd_T31 l0 x16_1).f2.f0)) ∧ w'.cell? ⟨gb2, 3, none⟩ = some (.int .i64 ((rd_T31 l0 x16_1).f2.f1)) ∧ w'.cell? ⟨gb2, 4, none⟩ = some (.int .i64 ((rd_T31 l0 x16_1).f2.f2)) ∧ w'.cell? ⟨gb2, 5, none⟩ = some (.int .i64 ((rd_T31 l0 x16_1).f3.f0)) ∧ w'.cell? ⟨gb2, 6, none⟩ = some (.int .i64 ((rd_T31 l0 x16_1).f3.f1)) ∧ w'.cell? ⟨gb2, 7, none⟩ = some (.int .i64 ((rd_T31 l0 x16_1).f3.f2)) ∧ w'.cell? ⟨gb2, 8, none⟩ = some (.int .i64 ((rd_T31 l0 x16_1).f4.f0)) ∧ w'.cell? ⟨gb2, 9, none⟩ = some (.int .i64 ((rd_T31 l0 x16_1).f4.f1)) ∧ w'.cell? ⟨gb2, 10, none⟩ = some (.int .i64 ((rd_T31 l0 x16_1).f4.f2)) ∧ w'.cell? ⟨gb2, 11, none⟩ = some (.int .i64 ((rd_T31 l0 x16_1).f5)) ∧ w'.cell? (ad1.add (((ji14)).toNat * 12)) = some (.string ((rd_T31 l0 (ji14)).f0))) (ds := []) #[false, false, false, false, false, false, false, false, false, false, false, false, false, false, false, false, false, false, false, false, false, false, false, false, false, false, false, false, false, false, false, false, false, false, false, false, false, false] (by kernel_rfl) rfl rfl ?_ (fun hHeld => ?_); (refine ⟨?_, ?_, ?_, ?_, ?_, ?_, ?_, ?_, ?_, ?_, ?_, ?_, ?_⟩ <;> first | exact pw_cell_below HBc.out (by assumption) | (go_keep; done))) | (refine start_ (n := 38) (S := fun w' => w'.cell? ⟨gb2, 0, none⟩ = some (.string ((rd_T31 l0 x16_1).f0)) ∧ w'.cell? ⟨gb2, 1, none⟩ = some (.string ((rd_T31 l0 x16_1).f1)) ∧ w'.cell? ⟨gb2, 2, none⟩ = some (.int .i64 ((rd_T31 l0 x16_1).f2.f0)) ∧ w'.cell? ⟨gb2, 3, none⟩ = some (.int .i64 ((rd_T31 l0 x16_1).f2.f1)) ∧ w'.cell? ⟨gb2, 4, none⟩ = some (.int .i64 ((rd_T31 l0 x16_1).f2.f2)) ∧ w'.cell? ⟨gb2, 5, none⟩ = some (.int .i64 ((rd_T31 l0 x16_1).f3.f0)) ∧ w'.cell? ⟨gb2, 6, none⟩ = some (.int .i64 ((rd_T31 l0 x16_1).f3.f1)) ∧ w'.cell? ⟨gb2, 7, none⟩ = some (.int .i64 ((rd_T31 l0 x16_1).f3.f2)) ∧ w'.cell? ⟨gb2, 8, none⟩ = some (.int .i64 ((rd_T31 l0 x16_1).f4.f0)) ∧ w'.cell? ⟨gb2, 9, none⟩ = some (.int .i64 ((rd_T31 l0 x16_1).f4.f1)) ∧ w'.cell? ⟨gb2, 10, none⟩ = some (.int .i64 ((rd_T31 l0 x16_1).f4.f2)) ∧ w'.cell? ⟨gb2, 11, none⟩ = some (.int .i64 ((rd_T31 l0 x16_1).f5))) (ds := []) #[false, false, false, false, false, false, false, false, false, false, false, false, false, false, false, false, false, false, false, false, false, false, false, false, false, false, false, false, false, false, false, false, false, false, false, false, false, false] (by kernel_rfl) rfl rfl ?_ (fun hHeld => ?_); (refine ⟨?_, ?_, ?_, ?_, ?_, ?_, ?_, ?_, ?_, ?_, ?_, ?_⟩ <;> first | exact pw_cell_below HBc.out (by assumption) | (go_keep; done)))
          refine with_tabW tree_Right.tab7 tree_Right.bits7 (fun HT_ HW_ => ?_)
          generalize w10.drew = wd at HBc hHeld ⊢
          (refine take_ (i := 0) (N := some 25) (v := ?_) (a' := ?_) #[true, false, false, false, false, false, false, false, false, false, false, false, false, false, false, false, false, false, false, false, false, false, false, false, false, false, false, false, false, false, false, false, false, false, false, false, false, false] rfl rfl (take_ofW HT_.out HW_.out (by kernel_rfl)) (fun _ _ _ h => h) (Or.inl ⟨by rfl, ?_⟩) hHeld ?_ ?_;rotate_left;(intro w' hSw;(try dsimp only at hSw);go_simp;with_reducible rfl);rotate_left;(simp only [Act.put, List.setIfInBounds_toArray, List.set_cons_zero, List.set_cons_succ, i64_w, i32_w];rfl))
          (refine pure_ (i := 1) (N := some 26) (v := ?_) (a' := ?_) #[true, true, false, false, false, false, false, false, false, false, false, false, false, false, false, false, false, false, false, false, false, false, false, false, false, false, false, false, false, false, false, false, false, false, false, false, false, false] rfl rfl (any_of HT_.out (by kernel_rfl)) (fun _ _ _ h => h) (Or.inl ⟨by rfl, ?_⟩) ?_ ?_;rotate_left;(intro w';go_simp;with_reducible rfl);rotate_left;(simp only [Act.put, List.setIfInBounds_toArray, List.set_cons_zero, List.set_cons_succ, i64_w, i32_w];rfl))
          (refine one_ (i := 2) (N := some 27) #[true, true, true, false, false, false, false, false, false, false, false, false, false, false, false, false, false, false, false, false, false, false, false, false, false, false, false, false, false, false, false, false, false, false, false, false, false, false] rfl rfl (one_of HT_.out (by kernel_rfl)) (by decide) (fun K hK => ?_); refine goes_ Try.func125 (by kernel_rfl) rfl #[.agg #[.string ((rd_T31 l0 x16_1).f0), .string ((rd_T31 l0 x16_1).f1), .int .i64 ((rd_T31 l0 x16_1).f2.f0), .int .i64 ((rd_T31 l0 x16_1).f2.f1), .int .i64 ((rd_T31 l0 x16_1).f2.f2), .int .i64 ((rd_T31 l0 x16_1).f3.f0), .int .i64 ((rd_T31 l0 x16_1).f3.f1), .int .i64 ((rd_T31 l0 x16_1).f3.f2), .int .i64 ((rd_T31 l0 x16_1).f4.f0), .int .i64 ((rd_T31 l0 x16_1).f4.f1), .int .i64 ((rd_T31 l0 x16_1).f4.f2), .int .i64 ((rd_T31 l0 x16_1).f5), .slice none 0 0]] (by rfl) rfl rfl (by (try simp only [List.map_toArray, List.map_cons, List.map_nil]); first | done | rfl | (simp only [List.length_drop, List.length_take]; rfl)) ?_; refine (tree_node_may.calls _ _ _ _ _ _ _ _ _ _ _ _ none 0 ([] : List (S27)) _ _ (Kd.C_nil _ _) (Nat.le_refl _) A11.out).mono ?_; rintro e wx2 ⟨rfl, hb⟩; refine ⟨_, rfl, ?_⟩; have HBn := Aside0.mk (below_step HBc.out hb); clear HBc; have HBc := HBn; clear HBn; refine hK.out _ _ (by first | exact ⟨pw_cell_below hb hHeld.1, pw_cell_below hb hHeld.2.1, pw_cell_below hb hHeld.2.2.1, pw_cell_below hb hHeld.2.2.2.1, pw_cell_below hb hHeld.2.2.2.2.1, pw_cell_below hb hHeld.2.2.2.2.2.1, pw_cell_below hb hHeld.2.2.2.2.2.2.1, pw_cell_below hb hHeld.2.2.2.2.2.2.2.1, pw_cell_below hb hHeld.2.2.2.2.2.2.2.2.1, pw_cell_below hb hHeld.2.2.2.2.2.2.2.2.2.1, pw_cell_below hb hHeld.2.2.2.2.2.2.2.2.2.2.1, pw_cell_below hb hHeld.2.2.2.2.2.2.2.2.2.2.2.1, pw_cell_below hb hHeld.2.2.2.2.2.2.2.2.2.2.2.2⟩ | exact ⟨pw_cell_below hb hHeld.1, pw_cell_below hb hHeld.2.1, pw_cell_below hb hHeld.2.2.1, pw_cell_below hb hHeld.2.2.2.1, pw_cell_below hb hHeld.2.2.2.2.1, pw_cell_below hb hHeld.2.2.2.2.2.1, pw_cell_below hb hHeld.2.2.2.2.2.2.1, pw_cell_below hb hHeld.2.2.2.2.2.2.2.1, pw_cell_below hb hHeld.2.2.2.2.2.2.2.2.1, pw_cell_below hb hHeld.2.2.2.2.2.2.2.2.2.1, pw_cell_below hb hHeld.2.2.2.2.2.2.2.2.2.2.1, pw_cell_below hb hHeld.2.2.2.2.2.2.2.2.2.2.2⟩) (fun hHeld => ?_); clear hK K hb; refine norm_ (a' := ?_) ?_ ?_; rotate_left; (show Act.put _ (some 27) _ = _; simp only [Act.put, List.setIfInBounds_toArray, List.set_cons_zero, List.set_cons_succ, i64_w, i32_w]; rfl))
          (refine pure_ (i := 3) (N := some 28) (v := ?_) (a' := ?_) #[true, true, true, true, false, false, false, false, false, false, false, false, false, false, false, false, false, false, false, false, false, false, false, false, false, false, false, false, false, false, false, false, false, false, false, false, false, false] rfl rfl (any_of HT_.out (by kernel_rfl)) (fun _ _ _ h => h) (Or.inl ⟨by rfl, ?_⟩) ?_ ?_;rotate_left;(intro w';go_simp;with_reducible rfl);rotate_left;(simp only [Act.put, List.setIfInBounds_toArray, List.set_cons_zero, List.set_cons_succ, i64_w, i32_w];rfl))
          (refine pure_ (i := 4) (N := some 29) (v := ?_) (a' := ?_) #[true, true, true, true, true, false, false, false, false, false, false, false, false, false, false, false, false, false, false, false, false, false, false, false, false, false, false, false, false, false, false, false, false, false, false, false, false, false] rfl rfl (any_of HT_.out (by kernel_rfl)) (fun _ _ _ h => h) (Or.inl ⟨by rfl, ?_⟩) ?_ ?_;rotate_left;(intro w';go_simp;with_reducible rfl);rotate_left;(simp only [Act.put, List.setIfInBounds_toArray, List.set_cons_zero, List.set_cons_succ, i64_w, i32_w];rfl))
          (first|(refine pure_ (i := 5) (N := some 30) (v := ?_) (a' := ?_) #[true, true, true, true, true, true, false, false, false, false, false, false, false, false, false, false, false, false, false, false, false, false, false, false, false, false, false, false, false, false, false, false, false, false, false, false, false, false] rfl rfl (any_of HT_.out (by kernel_rfl)) (fun _ _ _ h => h) (Or.inl ⟨by rfl, ?_⟩) ?_ ?_;rotate_left;(intro w';go_simp;with_reducible rfl);rotate_left;(simp only [Act.put, List.setIfInBounds_toArray, List.set_cons_zero, List.set_cons_succ, i64_w, i32_w];rfl))|(refine pure_ (i := 5) (N := some 30) (v := undef) (a' := ?_) #[true, true, true, true, true, true, false, false, false, false, false, false, false, false, false, false, false, false, false, false, false, false, false, false, false, false, false, false, false, false, false, false, false, false, false, false, false, false] rfl rfl (any_of HT_.out (by kernel_rfl)) (fun _ _ _ h => h) (Or.inr ⟨by rfl, rfl⟩) ?_ ?_;rotate_left;(simp only [Act.put, List.setIfInBounds_toArray, List.set_cons_zero, List.set_cons_succ, i64_w, i32_w];rfl)))
          (first|(refine pure_ (i := 6) (N := some 31) (v := ?_) (a' := ?_) #[true, true, true, true, true, true, true, false, false, false, false, false, false, false, false, false, false, false, false, false, false, false, false, false, false, false, false, false, false, false, false, false, false, false, false, false, false, false] rfl rfl (any_of HT_.out (by kernel_rfl)) (fun _ _ _ h => h) (Or.inl ⟨by rfl, ?_⟩) ?_ ?_;rotate_left;(intro w';go_simp;with_reducible rfl);rotate_left;(simp only [Act.put, List.setIfInBounds_toArray, List.set_cons_zero, List.set_cons_succ, i64_w, i32_w];rfl))|(refine pure_ (i := 6) (N := some 31) (v := undef) (a' := ?_) #[true, true, true, true, true, true, true, false, false, false, false, false, false, false, false, false, false, false, false, false, false, false, false, false, false, false, false, false, false, false, false, false, false, false, false, false, false, false] rfl rfl (any_of HT_.out (by kernel_rfl)) (fun _ _ _ h => h) (Or.inr ⟨by rfl, rfl⟩) ?_ ?_;rotate_left;(simp only [Act.put, List.setIfInBounds_toArray, List.set_cons_zero, List.set_cons_succ, i64_w, i32_w];rfl)))
          (first|(refine pure_ (i := 7) (N := some 32) (v := ?_) (a' := ?_) #[true, true, true, true, true, true, true, true, false, false, false, false, false, false, false, false, false, false, false, false, false, false, false, false, false, false, false, false, false, false, false, false, false, false, false, false, false, false] rfl rfl (any_of HT_.out (by kernel_rfl)) (fun _ _ _ h => h) (Or.inl ⟨by rfl, ?_⟩) ?_ ?_;rotate_left;(intro w';go_simp;with_reducible rfl);rotate_left;(simp only [Act.put, List.setIfInBounds_toArray, List.set_cons_zero, List.set_cons_succ, i64_w, i32_w];rfl))|(refine pure_ (i := 7) (N := some 32) (v := undef) (a' := ?_) #[true, true, true, true, true, true, true, true, false, false, false, false, false, false, false, false, false, false, false, false, false, false, false, false, false, false, false, false, false, false, false, false, false, false, false, false, false, false] rfl rfl (any_of HT_.out (by kernel_rfl)) (fun _ _ _ h => h) (Or.inr ⟨by rfl, rfl⟩) ?_ ?_;rotate_left;(simp only [Act.put, List.setIfInBounds_toArray, List.set_cons_zero, List.set_cons_succ, i64_w, i32_w];rfl)))
          (first|(refine pure_ (i := 8) (N := some 33) (v := ?_) (a' := ?_) #[true, true, true, true, true, true, true, true, true, false, false, false, false, false, false, false, false, false, false, false, false, false, false, false, false, false, false, false, false, false, false, false, false, false, false, false, false, false] rfl rfl (any_of HT_.out (by kernel_rfl)) (fun _ _ _ h => h) (Or.inl ⟨by rfl, ?_⟩) ?_ ?_;rotate_left;(intro w';go_simp;with_reducible rfl);rotate_left;(simp only [Act.put, List.setIfInBounds_toArray, List.set_cons_zero, List.set_cons_succ, i64_w, i32_w];rfl))|(refine pure_ (i := 8) (N := some 33) (v := undef) (a' := ?_) #[true, true, true, true, true, true, true, true, true, false, false, false, false, false, false, false, false, false, false, false, false, false, false, false, false, false, false, false, false, false, false, false, false, false, false, false, false, false] rfl rfl (any_of HT_.out (by kernel_rfl)) (fun _ _ _ h => h) (Or.inr ⟨by rfl, rfl⟩) ?_ ?_;rotate_left;(simp only [Act.put, List.setIfInBounds_toArray, List.set_cons_zero, List.set_cons_succ, i64_w, i32_w];rfl)))
          (first|(refine pure_ (i := 9) (N := some 34) (v := ?_) (a' := ?_) #[true, true, true, true, true, true, true, true, true, true, false, false, false, false, false, false, false, false, false, false, false, false, false, false, false, false, false, false, false, false, false, false, false, false, false, false, false, false] rfl rfl (any_of HT_.out (by kernel_rfl)) (fun _ _ _ h => h) (Or.inl ⟨by rfl, ?_⟩) ?_ ?_;rotate_left;(intro w';go_simp;with_reducible rfl);rotate_left;(simp only [Act.put, List.setIfInBounds_toArray, List.set_cons_zero, List.set_cons_succ, i64_w, i32_w];rfl))|(refine pure_ (i := 9) (N := some 34) (v := undef) (a' := ?_) #[true, true, true, true, true, true, true, true, true, true, false, false, false, false, false, false, false, false, false, false, false, false, false, false, false, false, false, false, false, false, false, false, false, false, false, false, false, false] rfl rfl (any_of HT_.out (by kernel_rfl)) (fun _ _ _ h => h) (Or.inr ⟨by rfl, rfl⟩) ?_ ?_;rotate_left;(simp only [Act.put, List.setIfInBounds_toArray, List.set_cons_zero, List.set_cons_succ, i64_w, i32_w];rfl)))
          (first|(refine pure_ (i := 10) (N := some 35) (v := ?_) (a' := ?_) #[true, true, true, true, true, true, true, true, true, true, true, false, false, false, false, false, false, false, false, false, false, false, false, false, false, false, false, false, false, false, false, false, false, false, false, false, false, false] rfl rfl (any_of HT_.out (by kernel_rfl)) (fun _ _ _ h => h) (Or.inl ⟨by rfl, ?_⟩) ?_ ?_;rotate_left;(intro w';go_simp;with_reducible rfl);rotate_left;(simp only [Act.put, List.setIfInBounds_toArray, List.set_cons_zero, List.set_cons_succ, i64_w, i32_w];rfl))|(refine pure_ (i := 10) (N := some 35) (v := undef) (a' := ?_) #[true, true, true, true, true, true, true, true, true, true, true, false, false, false, false, false, false, false, false, false, false, false, false, false, false, false, false, false, false, false, false, false, false, false, false, false, false, false] rfl rfl (any_of HT_.out (by kernel_rfl)) (fun _ _ _ h => h) (Or.inr ⟨by rfl, rfl⟩) ?_ ?_;rotate_left;(simp only [Act.put, List.setIfInBounds_toArray, List.set_cons_zero, List.set_cons_succ, i64_w, i32_w];rfl)))
          (first|(refine pure_ (i := 11) (N := some 36) (v := ?_) (a' := ?_) #[true, true, true, true, true, true, true, true, true, true, true, true, false, false, false, false, false, false, false, false, false, false, false, false, false, false, false, false, false, false, false, false, false, false, false, false, false, false] rfl rfl (any_of HT_.out (by kernel_rfl)) (fun _ _ _ h => h) (Or.inl ⟨by rfl, ?_⟩) ?_ ?_;rotate_left;(intro w';go_simp;with_reducible rfl);rotate_left;(simp only [Act.put, List.setIfInBounds_toArray, List.set_cons_zero, List.set_cons_succ, i64_w, i32_w];rfl))|(refine pure_ (i := 11) (N := some 36) (v := undef) (a' := ?_) #[true, true, true, true, true, true, true, true, true, true, true, true, false, false, false, false, false, false, false, false, false, false, false, false, false, false, false, false, false, false, false, false, false, false, false, false, false, false] rfl rfl (any_of HT_.out (by kernel_rfl)) (fun _ _ _ h => h) (Or.inr ⟨by rfl, rfl⟩) ?_ ?_;rotate_left;(simp only [Act.put, List.setIfInBounds_toArray, List.set_cons_zero, List.set_cons_succ, i64_w, i32_w];rfl)))
          (first|(refine pure_ (i := 12) (N := some 37) (v := ?_) (a' := ?_) #[true, true, true, true, true, true, true, true, true, true, true, true, true, false, false, false, false, false, false, false, false, false, false, false, false, false, false, false, false, false, false, false, false, false, false, false, false, false] rfl rfl (any_of HT_.out (by kernel_rfl)) (fun _ _ _ h => h) (Or.inl ⟨by rfl, ?_⟩) ?_ ?_;rotate_left;(intro w';go_simp;with_reducible rfl);rotate_left;(simp only [Act.put, List.setIfInBounds_toArray, List.set_cons_zero, List.set_cons_succ, i64_w, i32_w];rfl))|(refine pure_ (i := 12) (N := some 37) (v := undef) (a' := ?_) #[true, true, true, true, true, true, true, true, true, true, true, true, true, false, false, false, false, false, false, false, false, false, false, false, false, false, false, false, false, false, false, false, false, false, false, false, false, false] rfl rfl (any_of HT_.out (by kernel_rfl)) (fun _ _ _ h => h) (Or.inr ⟨by rfl, rfl⟩) ?_ ?_;rotate_left;(simp only [Act.put, List.setIfInBounds_toArray, List.set_cons_zero, List.set_cons_succ, i64_w, i32_w];rfl)))
          (first|(refine take_ (i := 13) (N := some 38) (v := ?_) (a' := ?_) #[true, true, true, true, true, true, true, true, true, true, true, true, true, true, false, false, false, false, false, false, false, false, false, false, false, false, false, false, false, false, false, false, false, false, false, false, false, false] rfl rfl (take_ofW HT_.out HW_.out (by kernel_rfl)) (fun _ _ _ h => h) (Or.inl ⟨by rfl, ?_⟩) hHeld ?_ ?_;rotate_left;(intro w' hSw;(try dsimp only at hSw);go_simp;with_reducible rfl);rotate_left;(simp only [Act.put, List.setIfInBounds_toArray, List.set_cons_zero, List.set_cons_succ, i64_w, i32_w];rfl))|(refine pure_ (i := 13) (N := some 38) (v := undef) (a' := ?_) #[true, true, true, true, true, true, true, true, true, true, true, true, true, true, false, false, false, false, false, false, false, false, false, false, false, false, false, false, false, false, false, false, false, false, false, false, false, false] rfl rfl (any_of HT_.out (by kernel_rfl)) (fun _ _ _ h => h) (Or.inr ⟨by rfl, rfl⟩) ?_ ?_;rotate_left;(simp only [Act.put, List.setIfInBounds_toArray, List.set_cons_zero, List.set_cons_succ, i64_w, i32_w];rfl)))
          (first|(refine pure_ (i := 14) (N := some 39) (v := ?_) (a' := ?_) #[true, true, true, true, true, true, true, true, true, true, true, true, true, true, true, false, false, false, false, false, false, false, false, false, false, false, false, false, false, false, false, false, false, false, false, false, false, false] rfl rfl (any_of HT_.out (by kernel_rfl)) (fun _ _ _ h => h) (Or.inl ⟨by rfl, ?_⟩) ?_ ?_;rotate_left;(intro w';go_simp;with_reducible rfl);rotate_left;(simp only [Act.put, List.setIfInBounds_toArray, List.set_cons_zero, List.set_cons_succ, i64_w, i32_w];rfl))|(refine pure_ (i := 14) (N := some 39) (v := undef) (a' := ?_) #[true, true, true, true, true, true, true, true, true, true, true, true, true, true, true, false, false, false, false, false, false, false, false, false, false, false, false, false, false, false, false, false, false, false, false, false, false, false] rfl rfl (any_of HT_.out (by kernel_rfl)) (fun _ _ _ h => h) (Or.inr ⟨by rfl, rfl⟩) ?_ ?_;rotate_left;(simp only [Act.put, List.setIfInBounds_toArray, List.set_cons_zero, List.set_cons_succ, i64_w, i32_w];rfl)))
          (first|(refine take_ (i := 15) (N := some 40) (v := ?_) (a' := ?_) #[true, true, true, true, true, true, true, true, true, true, true, true, true, true, true, true, false, false, false, false, false, false, false, false, false, false, false, false, false, false, false, false, false, false, false, false, false, false] rfl rfl (take_ofW HT_.out HW_.out (by kernel_rfl)) (fun _ _ _ h => h) (Or.inl ⟨by rfl, ?_⟩) hHeld ?_ ?_;rotate_left;(intro w' hSw;(try dsimp only at hSw);go_simp;with_reducible rfl);rotate_left;(simp only [Act.put, List.setIfInBounds_toArray, List.set_cons_zero, List.set_cons_succ, i64_w, i32_w];rfl))|(refine pure_ (i := 15) (N := some 40) (v := undef) (a' := ?_) #[true, true, true, true, true, true, true, true, true, true, true, true, true, true, true, true, false, false, false, false, false, false, false, false, false, false, false, false, false, false, false, false, false, false, false, false, false, false] rfl rfl (any_of HT_.out (by kernel_rfl)) (fun _ _ _ h => h) (Or.inr ⟨by rfl, rfl⟩) ?_ ?_;rotate_left;(simp only [Act.put, List.setIfInBounds_toArray, List.set_cons_zero, List.set_cons_succ, i64_w, i32_w];rfl)))
          (first|(refine pure_ (i := 16) (N := some 41) (v := ?_) (a' := ?_) #[true, true, true, true, true, true, true, true, true, true, true, true, true, true, true, true, true, false, false, false, false, false, false, false, false, false, false, false, false, false, false, false, false, false, false, false, false, false] rfl rfl (any_of HT_.out (by kernel_rfl)) (fun _ _ _ h => h) (Or.inl ⟨by rfl, ?_⟩) ?_ ?_;rotate_left;(intro w';go_simp;with_reducible rfl);rotate_left;(simp only [Act.put, List.setIfInBounds_toArray, List.set_cons_zero, List.set_cons_succ, i64_w, i32_w];rfl))|(refine pure_ (i := 16) (N := some 41) (v := undef) (a' := ?_) #[true, true, true, true, true, true, true, true, true, true, true, true, true, true, true, true, true, false, false, false, false, false, false, false, false, false, false, false, false, false, false, false, false, false, false, false, false, false] rfl rfl (any_of HT_.out (by kernel_rfl)) (fun _ _ _ h => h) (Or.inr ⟨by rfl, rfl⟩) ?_ ?_;rotate_left;(simp only [Act.put, List.setIfInBounds_toArray, List.set_cons_zero, List.set_cons_succ, i64_w, i32_w];rfl)))
          (first|(refine pure_ (i := 17) (N := some 42) (v := ?_) (a' := ?_) #[true, true, true, true, true, true, true, true, true, true, true, true, true, true, true, true, true, true, false, false, false, false, false, false, false, false, false, false, false, false, false, false, false, false, false, false, false, false] rfl rfl (any_of HT_.out (by kernel_rfl)) (fun _ _ _ h => h) (Or.inl ⟨by rfl, ?_⟩) ?_ ?_;rotate_left;(intro w';go_simp;with_reducible rfl);rotate_left;(simp only [Act.put, List.setIfInBounds_toArray, List.set_cons_zero, List.set_cons_succ, i64_w, i32_w];rfl))|(refine pure_ (i := 17) (N := some 42) (v := undef) (a' := ?_) #[true, true, true, true, true, true, true, true, true, true, true, true, true, true, true, true, true, true, false, false, false, false, false, false, false, false, false, false, false, false, false, false, false, false, false, false, false, false] rfl rfl (any_of HT_.out (by kernel_rfl)) (fun _ _ _ h => h) (Or.inr ⟨by rfl, rfl⟩) ?_ ?_;rotate_left;(simp only [Act.put, List.setIfInBounds_toArray, List.set_cons_zero, List.set_cons_succ, i64_w, i32_w];rfl)))
          (refine pure_ (i := 18) (N := some 43) (v := ?_) (a' := ?_) #[true, true, true, true, true, true, true, true, true, true, true, true, true, true, true, true, true, true, true, false, false, false, false, false, false, false, false, false, false, false, false, false, false, false, false, false, false, false] rfl rfl (any_of HT_.out (by kernel_rfl)) (fun _ _ _ h => h) (Or.inl ⟨by rfl, ?_⟩) ?_ ?_;rotate_left;(intro w';go_simp;with_reducible rfl);rotate_left;(simp only [Act.put, List.setIfInBounds_toArray, List.set_cons_zero, List.set_cons_succ, i64_w, i32_w];rfl))
          (refine pure_ (i := 19) (N := some 44) (v := ?_) (a' := ?_) #[true, true, true, true, true, true, true, true, true, true, true, true, true, true, true, true, true, true, true, true, false, false, false, false, false, false, false, false, false, false, false, false, false, false, false, false, false, false] rfl rfl (any_of HT_.out (by kernel_rfl)) (fun _ _ _ h => h) (Or.inl ⟨by rfl, ?_⟩) ?_ ?_;rotate_left;(intro w';go_simp;with_reducible rfl);rotate_left;(simp only [Act.put, List.setIfInBounds_toArray, List.set_cons_zero, List.set_cons_succ, i64_w, i32_w];rfl))
          (first|(refine pure_ (i := 20) (N := some 45) (v := ?_) (a' := ?_) #[true, true, true, true, true, true, true, true, true, true, true, true, true, true, true, true, true, true, true, true, true, false, false, false, false, false, false, false, false, false, false, false, false, false, false, false, false, false] rfl rfl (any_of HT_.out (by kernel_rfl)) (fun _ _ _ h => h) (Or.inl ⟨by rfl, ?_⟩) ?_ ?_;rotate_left;(intro w';go_simp;with_reducible rfl);rotate_left;(simp only [Act.put, List.setIfInBounds_toArray, List.set_cons_zero, List.set_cons_succ, i64_w, i32_w];rfl))|(refine pure_ (i := 20) (N := some 45) (v := undef) (a' := ?_) #[true, true, true, true, true, true, true, true, true, true, true, true, true, true, true, true, true, true, true, true, true, false, false, false, false, false, false, false, false, false, false, false, false, false, false, false, false, false] rfl rfl (any_of HT_.out (by kernel_rfl)) (fun _ _ _ h => h) (Or.inr ⟨by rfl, rfl⟩) ?_ ?_;rotate_left;(simp only [Act.put, List.setIfInBounds_toArray, List.set_cons_zero, List.set_cons_succ, i64_w, i32_w];rfl)))
          (first|(refine take_ (i := 21) (N := some 46) (v := ?_) (a' := ?_) #[true, true, true, true, true, true, true, true, true, true, true, true, true, true, true, true, true, true, true, true, true, true, false, false, false, false, false, false, false, false, false, false, false, false, false, false, false, false] rfl rfl (take_ofW HT_.out HW_.out (by kernel_rfl)) (fun _ _ _ h => h) (Or.inl ⟨by rfl, ?_⟩) hHeld ?_ ?_;rotate_left;(intro w' hSw;(try dsimp only at hSw);go_simp;with_reducible rfl);rotate_left;(simp only [Act.put, List.setIfInBounds_toArray, List.set_cons_zero, List.set_cons_succ, i64_w, i32_w];rfl))|(refine pure_ (i := 21) (N := some 46) (v := undef) (a' := ?_) #[true, true, true, true, true, true, true, true, true, true, true, true, true, true, true, true, true, true, true, true, true, true, false, false, false, false, false, false, false, false, false, false, false, false, false, false, false, false] rfl rfl (any_of HT_.out (by kernel_rfl)) (fun _ _ _ h => h) (Or.inr ⟨by rfl, rfl⟩) ?_ ?_;rotate_left;(simp only [Act.put, List.setIfInBounds_toArray, List.set_cons_zero, List.set_cons_succ, i64_w, i32_w];rfl)))
          (first|(refine pure_ (i := 22) (N := some 47) (v := ?_) (a' := ?_) #[true, true, true, true, true, true, true, true, true, true, true, true, true, true, true, true, true, true, true, true, true, true, true, false, false, false, false, false, false, false, false, false, false, false, false, false, false, false] rfl rfl (any_of HT_.out (by kernel_rfl)) (fun _ _ _ h => h) (Or.inl ⟨by rfl, ?_⟩) ?_ ?_;rotate_left;(intro w';go_simp;with_reducible rfl);rotate_left;(simp only [Act.put, List.setIfInBounds_toArray, List.set_cons_zero, List.set_cons_succ, i64_w, i32_w];rfl))|(refine pure_ (i := 22) (N := some 47) (v := undef) (a' := ?_) #[true, true, true, true, true, true, true, true, true, true, true, true, true, true, true, true, true, true, true, true, true, true, true, false, false, false, false, false, false, false, false, false, false, false, false, false, false, false] rfl rfl (any_of HT_.out (by kernel_rfl)) (fun _ _ _ h => h) (Or.inr ⟨by rfl, rfl⟩) ?_ ?_;rotate_left;(simp only [Act.put, List.setIfInBounds_toArray, List.set_cons_zero, List.set_cons_succ, i64_w, i32_w];rfl)))
          (first|(refine pure_ (i := 23) (N := some 48) (v := ?_) (a' := ?_) #[true, true, true, true, true, true, true, true, true, true, true, true, true, true, true, true, true, true, true, true, true, true, true, true, false, false, false, false, false, false, false, false, false, false, false, false, false, false] rfl rfl (any_of HT_.out (by kernel_rfl)) (fun _ _ _ h => h) (Or.inl ⟨by rfl, ?_⟩) ?_ ?_;rotate_left;(intro w';go_simp;with_reducible rfl);rotate_left;(simp only [Act.put, List.setIfInBounds_toArray, List.set_cons_zero, List.set_cons_succ, i64_w, i32_w];rfl))|(refine pure_ (i := 23) (N := some 48) (v := undef) (a' := ?_) #[true, true, true, true, true, true, true, true, true, true, true, true, true, true, true, true, true, true, true, true, true, true, true, true, false, false, false, false, false, false, false, false, false, false, false, false, false, false] rfl rfl (any_of HT_.out (by kernel_rfl)) (fun _ _ _ h => h) (Or.inr ⟨by rfl, rfl⟩) ?_ ?_;rotate_left;(simp only [Act.put, List.setIfInBounds_toArray, List.set_cons_zero, List.set_cons_succ, i64_w, i32_w];rfl)))
          (first|(refine pure_ (i := 24) (N := some 49) (v := ?_) (a' := ?_) #[true, true, true, true, true, true, true, true, true, true, true, true, true, true, true, true, true, true, true, true, true, true, true, true, true, false, false, false, false, false, false, false, false, false, false, false, false, false] rfl rfl (any_of HT_.out (by kernel_rfl)) (fun _ _ _ h => h) (Or.inl ⟨by rfl, ?_⟩) ?_ ?_;rotate_left;(intro w';go_simp;with_reducible rfl);rotate_left;(simp only [Act.put, List.setIfInBounds_toArray, List.set_cons_zero, List.set_cons_succ, i64_w, i32_w];rfl))|(refine pure_ (i := 24) (N := some 49) (v := undef) (a' := ?_) #[true, true, true, true, true, true, true, true, true, true, true, true, true, true, true, true, true, true, true, true, true, true, true, true, true, false, false, false, false, false, false, false, false, false, false, false, false, false] rfl rfl (any_of HT_.out (by kernel_rfl)) (fun _ _ _ h => h) (Or.inr ⟨by rfl, rfl⟩) ?_ ?_;rotate_left;(simp only [Act.put, List.setIfInBounds_toArray, List.set_cons_zero, List.set_cons_succ, i64_w, i32_w];rfl)))
          (first|(refine pure_ (i := 25) (N := some 50) (v := ?_) (a' := ?_) #[true, true, true, true, true, true, true, true, true, true, true, true, true, true, true, true, true, true, true, true, true, true, true, true, true, true, false, false, false, false, false, false, false, false, false, false, false, false] rfl rfl (any_of HT_.out (by kernel_rfl)) (fun _ _ _ h => h) (Or.inl ⟨by rfl, ?_⟩) ?_ ?_;rotate_left;(intro w';go_simp;with_reducible rfl);rotate_left;(simp only [Act.put, List.setIfInBounds_toArray, List.set_cons_zero, List.set_cons_succ, i64_w, i32_w];rfl))|(refine pure_ (i := 25) (N := some 50) (v := undef) (a' := ?_) #[true, true, true, true, true, true, true, true, true, true, true, true, true, true, true, true, true, true, true, true, true, true, true, true, true, true, false, false, false, false, false, false, false, false, false, false, false, false] rfl rfl (any_of HT_.out (by kernel_rfl)) (fun _ _ _ h => h) (Or.inr ⟨by rfl, rfl⟩) ?_ ?_;rotate_left;(simp only [Act.put, List.setIfInBounds_toArray, List.set_cons_zero, List.set_cons_succ, i64_w, i32_w];rfl)))
          (first|(refine take_ (i := 26) (N := some 51) (v := ?_) (a' := ?_) #[true, true, true, true, true, true, true, true, true, true, true, true, true, true, true, true, true, true, true, true, true, true, true, true, true, true, true, false, false, false, false, false, false, false, false, false, false, false] rfl rfl (take_ofW HT_.out HW_.out (by kernel_rfl)) (fun _ _ _ h => h) (Or.inl ⟨by rfl, ?_⟩) hHeld ?_ ?_;rotate_left;(intro w' hSw;(try dsimp only at hSw);go_simp;with_reducible rfl);rotate_left;(simp only [Act.put, List.setIfInBounds_toArray, List.set_cons_zero, List.set_cons_succ, i64_w, i32_w];rfl))|(refine pure_ (i := 26) (N := some 51) (v := undef) (a' := ?_) #[true, true, true, true, true, true, true, true, true, true, true, true, true, true, true, true, true, true, true, true, true, true, true, true, true, true, true, false, false, false, false, false, false, false, false, false, false, false] rfl rfl (any_of HT_.out (by kernel_rfl)) (fun _ _ _ h => h) (Or.inr ⟨by rfl, rfl⟩) ?_ ?_;rotate_left;(simp only [Act.put, List.setIfInBounds_toArray, List.set_cons_zero, List.set_cons_succ, i64_w, i32_w];rfl)))
          (first | (refine one_ (i := 27) (N := some 52) #[true, true, true, true, true, true, true, true, true, true, true, true, true, true, true, true, true, true, true, true, true, true, true, true, true, true, true, true, false, false, false, false, false, false, false, false, false, false] rfl rfl (one_of HT_.out (by kernel_rfl)) (by decide) (fun K hK => ?_); refine goes_ Try.func71 (by kernel_rfl) rfl #[.slice (some ad1) l0.length c0, .string ((rd_T31 l0 x16_1).f1)] (by rfl) rfl rfl (by (try simp only [List.map_toArray, List.map_cons, List.map_nil]); first | done | rfl | (simp only [List.length_drop, List.length_take]; rfl)) ?_; refine (tree_Find.calls _ _ l0 _ _ _ (Kd.C_below (Kd.C_below HR0.out HB.out) HBc.out) HC0.out A22.out).mono ?_; rintro e wx27 ⟨rfl, hb⟩; refine ⟨_, rfl, ?_⟩; have HBn := Aside0.mk (below_step HBc.out hb); clear HBc; have HBc := HBn; clear HBn; refine hK.out _ _ (by first | exact ⟨pw_cell_below hb hHeld.1, pw_cell_below hb hHeld.2.1, pw_cell_below hb hHeld.2.2.1, pw_cell_below hb hHeld.2.2.2.1, pw_cell_below hb hHeld.2.2.2.2.1, pw_cell_below hb hHeld.2.2.2.2.2.1, pw_cell_below hb hHeld.2.2.2.2.2.2.1, pw_cell_below hb hHeld.2.2.2.2.2.2.2.1, pw_cell_below hb hHeld.2.2.2.2.2.2.2.2.1, pw_cell_below hb hHeld.2.2.2.2.2.2.2.2.2.1, pw_cell_below hb hHeld.2.2.2.2.2.2.2.2.2.2.1, pw_cell_below hb hHeld.2.2.2.2.2.2.2.2.2.2.2.1, pw_cell_below hb hHeld.2.2.2.2.2.2.2.2.2.2.2.2⟩ | exact ⟨pw_cell_below hb hHeld.1, pw_cell_below hb hHeld.2.1, pw_cell_below hb hHeld.2.2.1, pw_cell_below hb hHeld.2.2.2.1, pw_cell_below hb hHeld.2.2.2.2.1, pw_cell_below hb hHeld.2.2.2.2.2.1, pw_cell_below hb hHeld.2.2.2.2.2.2.1, pw_cell_below hb hHeld.2.2.2.2.2.2.2.1, pw_cell_below hb hHeld.2.2.2.2.2.2.2.2.1, pw_cell_below hb hHeld.2.2.2.2.2.2.2.2.2.1, pw_cell_below hb hHeld.2.2.2.2.2.2.2.2.2.2.1, pw_cell_below hb hHeld.2.2.2.2.2.2.2.2.2.2.2⟩) (fun hHeld => ?_); clear hK K hb; refine norm_ (a' := ?_) ?_ ?_; rotate_left; (show Act.put _ (some 52) _ = _; simp only [Act.put, List.setIfInBounds_toArray, List.set_cons_zero, List.set_cons_succ, i64_w, i32_w]; rfl)) | (refine pure_ (i := 27) (N := some 52) (v := undef) (a' := ?_) #[true, true, true, true, true, true, true, true, true, true, true, true, true, true, true, true, true, true, true, true, true, true, true, true, true, true, true, true, false, false, false, false, false, false, false, false, false, false] rfl rfl (any_of HT_.out (by kernel_rfl)) (fun _ _ _ h => h) (Or.inr ⟨by rfl, rfl⟩) ?_ ?_; rotate_left; (simp only [Act.put, List.setIfInBounds_toArray, List.set_cons_zero, List.set_cons_succ, i64_w, i32_w]; rfl)))
          (first|(refine pure_ (i := 28) (N := some 53) (v := ?_) (a' := ?_) #[true, true, true, true, true, true, true, true, true, true, true, true, true, true, true, true, true, true, true, true, true, true, true, true, true, true, true, true, true, false, false, false, false, false, false, false, false, false] rfl rfl (any_of HT_.out (by kernel_rfl)) (fun _ _ _ h => h) (Or.inl ⟨by rfl, ?_⟩) ?_ ?_;rotate_left;(intro w';go_simp;with_reducible rfl);rotate_left;(simp only [Act.put, List.setIfInBounds_toArray, List.set_cons_zero, List.set_cons_succ, i64_w, i32_w];rfl))|(refine pure_ (i := 28) (N := some 53) (v := undef) (a' := ?_) #[true, true, true, true, true, true, true, true, true, true, true, true, true, true, true, true, true, true, true, true, true, true, true, true, true, true, true, true, true, false, false, false, false, false, false, false, false, false] rfl rfl (any_of HT_.out (by kernel_rfl)) (fun _ _ _ h => h) (Or.inr ⟨by rfl, rfl⟩) ?_ ?_;rotate_left;(simp only [Act.put, List.setIfInBounds_toArray, List.set_cons_zero, List.set_cons_succ, i64_w, i32_w];rfl)))
          (first|(refine pure_ (i := 29) (N := some 54) (v := ?_) (a' := ?_) #[true, true, true, true, true, true, true, true, true, true, true, true, true, true, true, true, true, true, true, true, true, true, true, true, true, true, true, true, true, true, false, false, false, false, false, false, false, false] rfl rfl (any_of HT_.out (by kernel_rfl)) (fun _ _ _ h => h) (Or.inl ⟨by rfl, ?_⟩) ?_ ?_;rotate_left;(intro w';go_simp;with_reducible rfl);rotate_left;(simp only [Act.put, List.setIfInBounds_toArray, List.set_cons_zero, List.set_cons_succ, i64_w, i32_w];rfl))|(refine pure_ (i := 29) (N := some 54) (v := undef) (a' := ?_) #[true, true, true, true, true, true, true, true, true, true, true, true, true, true, true, true, true, true, true, true, true, true, true, true, true, true, true, true, true, true, false, false, false, false, false, false, false, false] rfl rfl (any_of HT_.out (by kernel_rfl)) (fun _ _ _ h => h) (Or.inr ⟨by rfl, rfl⟩) ?_ ?_;rotate_left;(simp only [Act.put, List.setIfInBounds_toArray, List.set_cons_zero, List.set_cons_succ, i64_w, i32_w];rfl)))
          (refine pure_ (i := 30) (N := some 55) (v := ?_) (a' := ?_) #[true, true, true, true, true, true, true, true, true, true, true, true, true, true, true, true, true, true, true, true, true, true, true, true, true, true, true, true, true, true, true, false, false, false, false, false, false, false] rfl rfl (any_of HT_.out (by kernel_rfl)) (fun _ _ _ h => h) (Or.inl ⟨by rfl, ?_⟩) ?_ ?_;rotate_left;(intro w';go_simp;with_reducible rfl);rotate_left;(simp only [Act.put, List.setIfInBounds_toArray, List.set_cons_zero, List.set_cons_succ, i64_w, i32_w];rfl))
          (refine pure_ (i := 31) (N := some 56) (v := ?_) (a' := ?_) #[true, true, true, true, true, true, true, true, true, true, true, true, true, true, true, true, true, true, true, true, true, true, true, true, true, true, true, true, true, true, true, true, false, false, false, false, false, false] rfl rfl (any_of HT_.out (by kernel_rfl)) (fun _ _ _ h => h) (Or.inl ⟨by rfl, ?_⟩) ?_ ?_;rotate_left;(intro w';go_simp;with_reducible rfl);rotate_left;(simp only [Act.put, List.setIfInBounds_toArray, List.set_cons_zero, List.set_cons_succ, i64_w, i32_w];rfl))
          (first|(refine pure_ (i := 32) (N := some 57) (v := ?_) (a' := ?_) #[true, true, true, true, true, true, true, true, true, true, true, true, true, true, true, true, true, true, true, true, true, true, true, true, true, true, true, true, true, true, true, true, true, false, false, false, false, false] rfl rfl (any_of HT_.out (by kernel_rfl)) (fun _ _ _ h => h) (Or.inl ⟨by rfl, ?_⟩) ?_ ?_;rotate_left;(intro w';go_simp;with_reducible rfl);rotate_left;(simp only [Act.put, List.setIfInBounds_toArray, List.set_cons_zero, List.set_cons_succ, i64_w, i32_w];rfl))|(refine pure_ (i := 32) (N := some 57) (v := undef) (a' := ?_) #[true, true, true, true, true, true, true, true, true, true, true, true, true, true, true, true, true, true, true, true, true, true, true, true, true, true, true, true, true, true, true, true, true, false, false, false, false, false] rfl rfl (any_of HT_.out (by kernel_rfl)) (fun _ _ _ h => h) (Or.inr ⟨by rfl, rfl⟩) ?_ ?_;rotate_left;(simp only [Act.put, List.setIfInBounds_toArray, List.set_cons_zero, List.set_cons_succ, i64_w, i32_w];rfl)))
          (first|(refine pure_ (i := 33) (N := some 58) (v := ?_) (a' := ?_) #[true, true, true, true, true, true, true, true, true, true, true, true, true, true, true, true, true, true, true, true, true, true, true, true, true, true, true, true, true, true, true, true, true, true, false, false, false, false] rfl rfl (any_of HT_.out (by kernel_rfl)) (fun _ _ _ h => h) (Or.inl ⟨by rfl, ?_⟩) ?_ ?_;rotate_left;(intro w';go_simp;with_reducible rfl);rotate_left;(simp only [Act.put, List.setIfInBounds_toArray, List.set_cons_zero, List.set_cons_succ, i64_w, i32_w];rfl))|(refine pure_ (i := 33) (N := some 58) (v := undef) (a' := ?_) #[true, true, true, true, true, true, true, true, true, true, true, true, true, true, true, true, true, true, true, true, true, true, true, true, true, true, true, true, true, true, true, true, true, true, false, false, false, false] rfl rfl (any_of HT_.out (by kernel_rfl)) (fun _ _ _ h => h) (Or.inr ⟨by rfl, rfl⟩) ?_ ?_;rotate_left;(simp only [Act.put, List.setIfInBounds_toArray, List.set_cons_zero, List.set_cons_succ, i64_w, i32_w];rfl)))
          (first|(refine pure_ (i := 34) (N := some 59) (v := ?_) (a' := ?_) #[true, true, true, true, true, true, true, true, true, true, true, true, true, true, true, true, true, true, true, true, true, true, true, true, true, true, true, true, true, true, true, true, true, true, true, false, false, false] rfl rfl (any_of HT_.out (by kernel_rfl)) (fun _ _ _ h => h) (Or.inl ⟨by rfl, ?_⟩) ?_ ?_;rotate_left;(intro w';go_simp;with_reducible rfl);rotate_left;(simp only [Act.put, List.setIfInBounds_toArray, List.set_cons_zero, List.set_cons_succ, i64_w, i32_w];rfl))|(refine pure_ (i := 34) (N := some 59) (v := undef) (a' := ?_) #[true, true, true, true, true, true, true, true, true, true, true, true, true, true, true, true, true, true, true, true, true, true, true, true, true, true, true, true, true, true, true, true, true, true, true, false, false, false] rfl rfl (any_of HT_.out (by kernel_rfl)) (fun _ _ _ h => h) (Or.inr ⟨by rfl, rfl⟩) ?_ ?_;rotate_left;(simp only [Act.put, List.setIfInBounds_toArray, List.set_cons_zero, List.set_cons_succ, i64_w, i32_w];rfl)))
          (first|(refine pure_ (i := 35) (N := some 60) (v := ?_) (a' := ?_) #[true, true, true, true, true, true, true, true, true, true, true, true, true, true, true, true, true, true, true, true, true, true, true, true, true, true, true, true, true, true, true, true, true, true, true, true, false, false] rfl rfl (any_of HT_.out (by kernel_rfl)) (fun _ _ _ h => h) (Or.inl ⟨by rfl, ?_⟩) ?_ ?_;rotate_left;(intro w';go_simp;with_reducible rfl);rotate_left;(simp only [Act.put, List.setIfInBounds_toArray, List.set_cons_zero, List.set_cons_succ, i64_w, i32_w];rfl))|(refine pure_ (i := 35) (N := some 60) (v := undef) (a' := ?_) #[true, true, true, true, true, true, true, true, true, true, true, true, true, true, true, true, true, true, true, true, true, true, true, true, true, true, true, true, true, true, true, true, true, true, true, true, false, false] rfl rfl (any_of HT_.out (by kernel_rfl)) (fun _ _ _ h => h) (Or.inr ⟨by rfl, rfl⟩) ?_ ?_;rotate_left;(simp only [Act.put, List.setIfInBounds_toArray, List.set_cons_zero, List.set_cons_succ, i64_w, i32_w];rfl)))
          (first|(refine pure_ (i := 36) (N := some 61) (v := ?_) (a' := ?_) #[true, true, true, true, true, true, true, true, true, true, true, true, true, true, true, true, true, true, true, true, true, true, true, true, true, true, true, true, true, true, true, true, true, true, true, true, true, false] rfl rfl (any_of HT_.out (by kernel_rfl)) (fun _ _ _ h => h) (Or.inl ⟨by rfl, ?_⟩) ?_ ?_;rotate_left;(intro w';go_simp;with_reducible rfl);rotate_left;(simp only [Act.put, List.setIfInBounds_toArray, List.set_cons_zero, List.set_cons_succ, i64_w, i32_w];rfl))|(refine pure_ (i := 36) (N := some 61) (v := undef) (a' := ?_) #[true, true, true, true, true, true, true, true, true, true, true, true, true, true, true, true, true, true, true, true, true, true, true, true, true, true, true, true, true, true, true, true, true, true, true, true, true, false] rfl rfl (any_of HT_.out (by kernel_rfl)) (fun _ _ _ h => h) (Or.inr ⟨by rfl, rfl⟩) ?_ ?_;rotate_left;(simp only [Act.put, List.setIfInBounds_toArray, List.set_cons_zero, List.set_cons_succ, i64_w, i32_w];rfl)))
          (refine pure_ (i := 37) (N := some 62) (v := ?_) (a' := ?_) #[true, true, true, true, true, true, true, true, true, true, true, true, true, true, true, true, true, true, true, true, true, true, true, true, true, true, true, true, true, true, true, true, true, true, true, true, true, true] rfl rfl (any_of HT_.out (by kernel_rfl)) (fun _ _ _ h => h) (Or.inl ⟨by rfl, ?_⟩) ?_ ?_;rotate_left;(intro w';go_simp;with_reducible rfl);rotate_left;(simp only [Act.put, List.setIfInBounds_toArray, List.set_cons_zero, List.set_cons_succ, i64_w, i32_w];rfl))
          refine done_ (done_of HT_.out (by kernel_rfl)) ?_
          try go_wp2
          go_meet
          case rel => first | exact ⟨_, (true), (by first | rfl | (simp; done) | (simp [*]; done)), H', ⟨by have := HK1.out; first | omega | exact Nat.le_refl _⟩, ⟨blk_below BK2.out HBc.out⟩, ⟨below_step HB.out HBc.out⟩⟩ | exact ⟨_, ((decide ((t3.length : Int) > (l0.length : Int)))), (by first | rfl | (simp; done) | (simp [*]; done)), H', ⟨by have := HK1.out; first | omega | exact Nat.le_refl _⟩, ⟨blk_below BK2.out HBc.out⟩, ⟨below_step HB.out HBc.out⟩⟩)
       case rest =>
        clear HC7
        try clear c1
        try clear p2
        try clear c3
        try clear c7
        try clear c12
        try clear c38
        try clear c38b0
        obtain ⟨kq, x62_6, rfl, HA, HJ6, BK2, HB⟩ := hcut
        cases kq with
        | zero => exact absurd HA.out (by simp [tree_Right.j1])
        | succ kj6 =>
         have H := HA.out
         clear HA
         simp only [tree_Right.j1] at H
         by_cases c48 : x62_6 = true
         ·subst c48
          have H1 : (some false) = some r := by rw [if_pos rfl] at H; exact H
          clear H
          have H := H1
          clear H1
          obtain rfl := Option.some.inj H
          go_wp2
          go_ret
          exact ⟨by first|rfl|(simp [errW_none, errW_some] <;> rfl)|(simp [*, errW_none, errW_some] <;> rfl), by repeat (first|(with_reducible first|exact HB.out|apply below_alloc|apply pw_below_drewN|apply below_drew1|refine below_set ?_ GE2.out)|exact HB.out)⟩
         ·replace c48 := Bool.eq_false_iff.mpr c48
          subst c48
          have H1 : ((vec_May.f ((rd_T31 l0 x16_1).f4.f0) ((rd_T31 l0 x16_1).f4.f1) ((rd_T31 l0 x16_1).f4.f2)).bind fun t10 => (if t10 = true then (tree_Right.l0 kj6 l0 l0 (l0.length : Int) (wrap64 (x16_1 + 1))) else (some false))) = some r := by rw [if_neg (show ¬ (false = true) by decide)] at H; exact H
          clear H
          have H := H1
          clear H1
          replace H := Option.bind_eq_some_iff.mp H
          obtain ⟨t10, A490, H⟩ := H
          replace H : (if t10 = true then (tree_Right.l0 kj6 l0 l0 (l0.length : Int) (wrap64 (x16_1 + 1))) else (some false)) = some r := H
          have A49 := Aside0.mk A490
          clear A490
          by_cases c50 : t10 = true
          ·subst c50
           have H1 : (tree_Right.l0 kj6 l0 l0 (l0.length : Int) (wrap64 (x16_1 + 1))) = some r := by rw [if_pos rfl] at H; exact H
           clear H
           have H := H1
           clear H1
           have H' := Aside0.mk H
           clear H
           have hcz51_0 : wc.cell? ⟨gb2, 0, none⟩ = some (.string ((rd_T31 l0 x16_1).f0)) := (blk_cell BK2.out 0).trans rfl
           have hcz51_1 : wc.cell? ⟨gb2, 1, none⟩ = some (.string ((rd_T31 l0 x16_1).f1)) := (blk_cell BK2.out 1).trans rfl
           have hcz51_2 : wc.cell? ⟨gb2, 2, none⟩ = some (.int .i64 ((rd_T31 l0 x16_1).f2.f0)) := (blk_cell BK2.out 2).trans rfl
           have hcz51_3 : wc.cell? ⟨gb2, 3, none⟩ = some (.int .i64 ((rd_T31 l0 x16_1).f2.f1)) := (blk_cell BK2.out 3).trans rfl
           have hcz51_4 : wc.cell? ⟨gb2, 4, none⟩ = some (.int .i64 ((rd_T31 l0 x16_1).f2.f2)) := (blk_cell BK2.out 4).trans rfl
           have hcz51_5 : wc.cell? ⟨gb2, 5, none⟩ = some (.int .i64 ((rd_T31 l0 x16_1).f3.f0)) := (blk_cell BK2.out 5).trans rfl
           have hcz51_6 : wc.cell? ⟨gb2, 6, none⟩ = some (.int .i64 ((rd_T31 l0 x16_1).f3.f1)) := (blk_cell BK2.out 6).trans rfl
           have hcz51_7 : wc.cell? ⟨gb2, 7, none⟩ = some (.int .i64 ((rd_T31 l0 x16_1).f3.f2)) := (blk_cell BK2.out 7).trans rfl
           have hcz51_8 : wc.cell? ⟨gb2, 8, none⟩ = some (.int .i64 ((rd_T31 l0 x16_1).f4.f0)) := (blk_cell BK2.out 8).trans rfl
           have hcz51_9 : wc.cell? ⟨gb2, 9, none⟩ = some (.int .i64 ((rd_T31 l0 x16_1).f4.f1)) := (blk_cell BK2.out 9).trans rfl
           have hcz51_10 : wc.cell? ⟨gb2, 10, none⟩ = some (.int .i64 ((rd_T31 l0 x16_1).f4.f2)) := (blk_cell BK2.out 10).trans rfl
           have hcz51_11 : wc.cell? ⟨gb2, 11, none⟩ = some (.int .i64 ((rd_T31 l0 x16_1).f5)) := (blk_cell BK2.out 11).trans rfl
           have hfz51_0 := blk_frozen BK2.out 0
           have hfz51_1 := blk_frozen BK2.out 1
           have hfz51_2 := blk_frozen BK2.out 2
           have hfz51_3 := blk_frozen BK2.out 3
           have hfz51_4 := blk_frozen BK2.out 4
           have hfz51_5 := blk_frozen BK2.out 5
           have hfz51_6 := blk_frozen BK2.out 6
           have hfz51_7 := blk_frozen BK2.out 7
           have hfz51_8 := blk_frozen BK2.out 8
           have hfz51_9 := blk_frozen BK2.out 9
           have hfz51_10 := blk_frozen BK2.out 10
           have hfz51_11 := blk_frozen BK2.out 11
           go_wp2_with (first|((with_reducible refine gate_callee (f := 115) rfl ?_);refine goesL_ (some 65) rfl rfl Try.func115 (by kernel_rfl) rfl #[.agg #[.int .i64 ((rd_T31 l0 x16_1).f4.f0), .int .i64 ((rd_T31 l0 x16_1).f4.f1), .int .i64 ((rd_T31 l0 x16_1).f4.f2)]] rfl (by (try simp only [List.map_toArray, List.map_cons, List.map_nil]);first|done|rfl|(simp only [List.length_drop, List.length_take];rfl)) ?_;(with_reducible refine (vec_May.calls ((rd_T31 l0 x16_1).f4.f0) ((rd_T31 l0 x16_1).f4.f1) ((rd_T31 l0 x16_1).f4.f2) true _ A49.out).mono ?_);rintro e w52 ⟨rfl, hb⟩;refine ⟨_, rfl, ?_⟩;have n0_ := Aside0.mk (blk_below (g := gb2) (o := .cells #[.string ((rd_T31 l0 x16_1).f0), .string ((rd_T31 l0 x16_1).f1), .int .i64 ((rd_T31 l0 x16_1).f2.f0), .int .i64 ((rd_T31 l0 x16_1).f2.f1), .int .i64 ((rd_T31 l0 x16_1).f2.f2), .int .i64 ((rd_T31 l0 x16_1).f3.f0), .int .i64 ((rd_T31 l0 x16_1).f3.f1), .int .i64 ((rd_T31 l0 x16_1).f3.f2), .int .i64 ((rd_T31 l0 x16_1).f4.f0), .int .i64 ((rd_T31 l0 x16_1).f4.f1), .int .i64 ((rd_T31 l0 x16_1).f4.f2), .int .i64 ((rd_T31 l0 x16_1).f5)] 31 (0, 0)) (by (with_reducible repeat (first|refine blk_drewN ?_ _|refine blk_drew ?_|refine blk_alloc ?_ _));exact BK2.out) hb);have n1_ := Aside0.mk (below_step (by repeat (first|(with_reducible first|exact HB.out|apply below_alloc|apply pw_below_drewN|apply below_drew1|refine below_set ?_ GE2.out)|exact HB.out)) hb);clear BK2;clear HB;have BK2 := n0_;have HB := n1_;clear n0_ n1_;(try clear hb);(try clear hb2);(try clear hk);(try clear hi)))
           go_roundg kj6
           case measure => have := HK1.out; have := HJ6.out; omega
           case rel => exact ⟨(wrap64 (x16_1 + 1)), (by first|rfl|(simp;done)|(simp [*];done)), H', ⟨by have := HK1.out;have := HJ6.out;omega⟩, ⟨by repeat (first|(with_reducible first|exact HB.out|apply below_alloc|apply pw_below_drewN|apply below_drew1|refine below_set ?_ GE2.out)|exact HB.out)⟩⟩
          ·replace c50 := Bool.eq_false_iff.mpr c50
           subst c50
           have H1 : (some false) = some r := by rw [if_neg (show ¬ (false = true) by decide)] at H; exact H
           clear H
           have H := H1
           clear H1
           obtain rfl := Option.some.inj H
           have hcz53_0 : wc.cell? ⟨gb2, 0, none⟩ = some (.string ((rd_T31 l0 x16_1).f0)) := (blk_cell BK2.out 0).trans rfl
           have hcz53_1 : wc.cell? ⟨gb2, 1, none⟩ = some (.string ((rd_T31 l0 x16_1).f1)) := (blk_cell BK2.out 1).trans rfl
           have hcz53_2 : wc.cell? ⟨gb2, 2, none⟩ = some (.int .i64 ((rd_T31 l0 x16_1).f2.f0)) := (blk_cell BK2.out 2).trans rfl
           have hcz53_3 : wc.cell? ⟨gb2, 3, none⟩ = some (.int .i64 ((rd_T31 l0 x16_1).f2.f1)) := (blk_cell BK2.out 3).trans rfl
           have hcz53_4 : wc.cell? ⟨gb2, 4, none⟩ = some (.int .i64 ((rd_T31 l0 x16_1).f2.f2)) := (blk_cell BK2.out 4).trans rfl
           have hcz53_5 : wc.cell? ⟨gb2, 5, none⟩ = some (.int .i64 ((rd_T31 l0 x16_1).f3.f0)) := (blk_cell BK2.out 5).trans rfl
           have hcz53_6 : wc.cell? ⟨gb2, 6, none⟩ = some (.int .i64 ((rd_T31 l0 x16_1).f3.f1)) := (blk_cell BK2.out 6).trans rfl
           have hcz53_7 : wc.cell? ⟨gb2, 7, none⟩ = some (.int .i64 ((rd_T31 l0 x16_1).f3.f2)) := (blk_cell BK2.out 7).trans rfl
           have hcz53_8 : wc.cell? ⟨gb2, 8, none⟩ = some (.int .i64 ((rd_T31 l0 x16_1).f4.f0)) := (blk_cell BK2.out 8).trans rfl
           have hcz53_9 : wc.cell? ⟨gb2, 9, none⟩ = some (.int .i64 ((rd_T31 l0 x16_1).f4.f1)) := (blk_cell BK2.out 9).trans rfl
           have hcz53_10 : wc.cell? ⟨gb2, 10, none⟩ = some (.int .i64 ((rd_T31 l0 x16_1).f4.f2)) := (blk_cell BK2.out 10).trans rfl
           have hcz53_11 : wc.cell? ⟨gb2, 11, none⟩ = some (.int .i64 ((rd_T31 l0 x16_1).f5)) := (blk_cell BK2.out 11).trans rfl
           have hfz53_0 := blk_frozen BK2.out 0
           have hfz53_1 := blk_frozen BK2.out 1
           have hfz53_2 := blk_frozen BK2.out 2
           have hfz53_3 := blk_frozen BK2.out 3
           have hfz53_4 := blk_frozen BK2.out 4
           have hfz53_5 := blk_frozen BK2.out 5
           have hfz53_6 := blk_frozen BK2.out 6
           have hfz53_7 := blk_frozen BK2.out 7
           have hfz53_8 := blk_frozen BK2.out 8
           have hfz53_9 := blk_frozen BK2.out 9
           have hfz53_10 := blk_frozen BK2.out 10
           have hfz53_11 := blk_frozen BK2.out 11
           go_wp2_with (first|((with_reducible refine gate_callee (f := 115) rfl ?_);refine goesL_ (some 65) rfl rfl Try.func115 (by kernel_rfl) rfl #[.agg #[.int .i64 ((rd_T31 l0 x16_1).f4.f0), .int .i64 ((rd_T31 l0 x16_1).f4.f1), .int .i64 ((rd_T31 l0 x16_1).f4.f2)]] rfl (by (try simp only [List.map_toArray, List.map_cons, List.map_nil]);first|done|rfl|(simp only [List.length_drop, List.length_take];rfl)) ?_;(with_reducible refine (vec_May.calls ((rd_T31 l0 x16_1).f4.f0) ((rd_T31 l0 x16_1).f4.f1) ((rd_T31 l0 x16_1).f4.f2) false _ A49.out).mono ?_);rintro e w54 ⟨rfl, hb⟩;refine ⟨_, rfl, ?_⟩;have n0_ := Aside0.mk (blk_below (g := gb2) (o := .cells #[.string ((rd_T31 l0 x16_1).f0), .string ((rd_T31 l0 x16_1).f1), .int .i64 ((rd_T31 l0 x16_1).f2.f0), .int .i64 ((rd_T31 l0 x16_1).f2.f1), .int .i64 ((rd_T31 l0 x16_1).f2.f2), .int .i64 ((rd_T31 l0 x16_1).f3.f0), .int .i64 ((rd_T31 l0 x16_1).f3.f1), .int .i64 ((rd_T31 l0 x16_1).f3.f2), .int .i64 ((rd_T31 l0 x16_1).f4.f0), .int .i64 ((rd_T31 l0 x16_1).f4.f1), .int .i64 ((rd_T31 l0 x16_1).f4.f2), .int .i64 ((rd_T31 l0 x16_1).f5)] 31 (0, 0)) (by (with_reducible repeat (first|refine blk_drewN ?_ _|refine blk_drew ?_|refine blk_alloc ?_ _));exact BK2.out) hb);have n1_ := Aside0.mk (below_step (by repeat (first|(with_reducible first|exact HB.out|apply below_alloc|apply pw_below_drewN|apply below_drew1|refine below_set ?_ GE2.out)|exact HB.out)) hb);clear BK2;clear HB;have BK2 := n0_;have HB := n1_;clear n0_ n1_;(try clear hb);(try clear hb2);(try clear hk);(try clear hi)))
           go_ret
           exact ⟨by first|rfl|(simp [errW_none, errW_some] <;> rfl)|(simp [*, errW_none, errW_some] <;> rfl), by repeat (first|(with_reducible first|exact HB.out|apply below_alloc|apply pw_below_drewN|apply below_drew1|refine below_set ?_ GE2.out)|exact HB.out)⟩
      ·rw [if_neg c5] at H
       exact absurd H (by simp)
     ·rw [if_neg c4] at H
      exact absurd H (by simp)
    ·rw [if_neg c3] at H
     have c3b0 : decide (x16_1 < (l0.length : Int)) = false := decide_eq_false c3
     clear c3
     have H' := Aside0.mk H
     clear H
     go_wp2
     go_loopg [70] k1 (fun kq v70 w' => ∃ (x70_2 : Int), v70 = .int .i64 x70_2 ∧ Aside0 (tree_Right.l1 kq l0 l0 (l0.length : Int) x70_2 = some r) ∧ Aside0 (kq ≤ k1) ∧ Aside0 (Below w.heap.size w w'))
     case atStart => exact ⟨(0), (by first|rfl|(simp;done)|(simp [*];done)), H', ⟨Nat.le_refl _⟩, ⟨by repeat (first|(with_reducible first|exact HB.out|apply below_alloc|apply pw_below_drewN|apply below_drew1)|exact HB.out)⟩⟩
     case round =>
      clear H'
      try clear c1
      try clear p2
      try clear c3
      try clear c3b0
      try clear c4
      try clear c5
      try clear p6
      try clear c7
      try clear c11
      try clear c12
      try clear c38
      try clear c38b0
      try clear c48
      try clear c50
      try clear hcz51_0
      try clear hcz51_1
      try clear hcz51_10
      try clear hcz51_11
      try clear hcz51_2
      try clear hcz51_3
      try clear hcz51_4
      try clear hcz51_5
      try clear hcz51_6
      try clear hcz51_7
      try clear hcz51_8
      try clear hcz51_9
      try clear hcz53_0
      try clear hcz53_1
      try clear hcz53_10
      try clear hcz53_11
      try clear hcz53_2
      try clear hcz53_3
      try clear hcz53_4
      try clear hcz53_5
      try clear hcz53_6
      try clear hcz53_7
      try clear hcz53_8
      try clear hcz53_9
      try clear hfz51_0
      try clear hfz51_1
      try clear hfz51_10
      try clear hfz51_11
      try clear hfz51_2
      try clear hfz51_3
      try clear hfz51_4
      try clear hfz51_5
      try clear hfz51_6
      try clear hfz51_7
      try clear hfz51_8
      try clear hfz51_9
      try clear hfz53_0
      try clear hfz53_1
      try clear hfz53_10
      try clear hfz53_11
      try clear hfz53_2
      try clear hfz53_3
      try clear hfz53_4
      try clear hfz53_5
      try clear hfz53_6
      try clear hfz53_7
      try clear hfz53_8
      try clear hfz53_9
      try clear p2
      obtain ⟨x70_2, rfl, HA, HK2, HB⟩ := hrel
      cases gk with
      | zero => exact absurd HA.out (by simp [tree_Right.l1])
      | succ k2 =>
       have H := HA.out
       clear HA
       simp only [tree_Right.l1] at H
       by_cases c55 : x70_2 < (l0.length : Int)
       ·rw [if_pos c55] at H
        have c55b0 : decide (x70_2 < (l0.length : Int)) = true := decide_eq_true c55
        clear c55
        by_cases c56 : 0 ≤ x70_2
        ·rw [if_pos c56] at H
         have c56b0 : decide (0 ≤ x70_2) = true := decide_eq_true c56
         clear c56
         by_cases c57 : x70_2 < (l0.length : Int)
         ·rw [if_pos c57] at H
          have c57b0 : decide (x70_2 < (l0.length : Int)) = true := decide_eq_true c57
          clear c57
          have H' := Aside0.mk H
          clear H
          have p11 : 0 ≤ (x70_2 : Int) := of_decide_eq_true (by first|(with_reducible assumption)|assumption)
          have q11 : x70_2 < (l0.length : Int) := of_decide_eq_true (by first|(with_reducible assumption)|assumption)
          obtain ⟨ad11, e11, hx11_0, hx11_1, hx11_2, hx11_3, hx11_4, hx11_5, hx11_6, hx11_7, hx11_8, hx11_9, hx11_10, hx11_11⟩ := at_T31 HR0.out x70_2 p11 q11
          cases e11
          replace hx11_0 := (HB.out.cell (World.block_lt_of_cell? w _ hx11_0)).trans hx11_0
          replace hx11_1 := (HB.out.cell (World.block_lt_of_cell? w _ hx11_1)).trans hx11_1
          replace hx11_2 := (HB.out.cell (World.block_lt_of_cell? w _ hx11_2)).trans hx11_2
          replace hx11_3 := (HB.out.cell (World.block_lt_of_cell? w _ hx11_3)).trans hx11_3
          replace hx11_4 := (HB.out.cell (World.block_lt_of_cell? w _ hx11_4)).trans hx11_4
          replace hx11_5 := (HB.out.cell (World.block_lt_of_cell? w _ hx11_5)).trans hx11_5
          replace hx11_6 := (HB.out.cell (World.block_lt_of_cell? w _ hx11_6)).trans hx11_6
          replace hx11_7 := (HB.out.cell (World.block_lt_of_cell? w _ hx11_7)).trans hx11_7
          replace hx11_8 := (HB.out.cell (World.block_lt_of_cell? w _ hx11_8)).trans hx11_8
          replace hx11_9 := (HB.out.cell (World.block_lt_of_cell? w _ hx11_9)).trans hx11_9
          replace hx11_10 := (HB.out.cell (World.block_lt_of_cell? w _ hx11_10)).trans hx11_10
          replace hx11_11 := (HB.out.cell (World.block_lt_of_cell? w _ hx11_11)).trans hx11_11
          replace p11 := eq_true p11
          replace q11 := eq_true q11
          go_wp2_with (first|((with_reducible refine gate_dst (N := 7) rfl ?_);(try (refine gate_guard (by rfl) ?_;dsimp only));refine box_event ?hg (N := 7) ?hd (cs := #[.string (⟨#[]⟩ : ByteArray), .string (⟨#[]⟩ : ByteArray), .int .i64 0, .int .i64 0, .int .i64 0, .int .i64 0, .int .i64 0, .int .i64 0, .int .i64 0, .int .i64 0, .int .i64 0, .int .i64 0]) (t := 31) ?hr ?_;(case hd => rfl);(case hg => rfl);(case hr => first|(go_simp;done)|(go_simp;rfl));intro gb12 hg w58 hbox hb;have n0_ := Aside0.mk (below_step (by repeat (first|(with_reducible first|exact HB.out|apply below_alloc|apply pw_below_drewN|apply below_drew1)|exact HB.out)) hb);have n1_ := Aside0.mk (hbox);have n2_ := Aside0.mk ((by rw [hg];exact (below_size (by repeat (first|(with_reducible first|exact HB.out|apply below_alloc|apply pw_below_drewN|apply below_drew1)|exact HB.out))) : w.heap.size ≤ gb12));have n3_ := Aside0.mk ((by rw [hg];exact (below_size (by repeat (first|(with_reducible first|exact HB.out|apply below_alloc|apply pw_below_drewN|apply below_drew1)|exact HB.out))) : w.heap.size ≤ gb12));clear HB;have HB := n0_;have BK12 := n1_;have GW12 := n2_;have GE12 := n3_;clear n0_ n1_ n2_ n3_;clear hb hbox hg;have hcz59_0 : w58.cell? ⟨gb12, 0, none⟩ = some (.string (⟨#[]⟩ : ByteArray)) := (blk_cell BK12.out 0).trans rfl;have hcz59_1 : w58.cell? ⟨gb12, 1, none⟩ = some (.string (⟨#[]⟩ : ByteArray)) := (blk_cell BK12.out 1).trans rfl;have hcz59_2 : w58.cell? ⟨gb12, 2, none⟩ = some (.int .i64 0) := (blk_cell BK12.out 2).trans rfl;have hcz59_3 : w58.cell? ⟨gb12, 3, none⟩ = some (.int .i64 0) := (blk_cell BK12.out 3).trans rfl;have hcz59_4 : w58.cell? ⟨gb12, 4, none⟩ = some (.int .i64 0) := (blk_cell BK12.out 4).trans rfl;have hcz59_5 : w58.cell? ⟨gb12, 5, none⟩ = some (.int .i64 0) := (blk_cell BK12.out 5).trans rfl;have hcz59_6 : w58.cell? ⟨gb12, 6, none⟩ = some (.int .i64 0) := (blk_cell BK12.out 6).trans rfl;have hcz59_7 : w58.cell? ⟨gb12, 7, none⟩ = some (.int .i64 0) := (blk_cell BK12.out 7).trans rfl;have hcz59_8 : w58.cell? ⟨gb12, 8, none⟩ = some (.int .i64 0) := (blk_cell BK12.out 8).trans rfl;have hcz59_9 : w58.cell? ⟨gb12, 9, none⟩ = some (.int .i64 0) := (blk_cell BK12.out 9).trans rfl;have hcz59_10 : w58.cell? ⟨gb12, 10, none⟩ = some (.int .i64 0) := (blk_cell BK12.out 10).trans rfl;have hcz59_11 : w58.cell? ⟨gb12, 11, none⟩ = some (.int .i64 0) := (blk_cell BK12.out 11).trans rfl;have hfz59_0 := blk_frozen BK12.out 0;have hfz59_1 := blk_frozen BK12.out 1;have hfz59_2 := blk_frozen BK12.out 2;have hfz59_3 := blk_frozen BK12.out 3;have hfz59_4 := blk_frozen BK12.out 4;have hfz59_5 := blk_frozen BK12.out 5;have hfz59_6 := blk_frozen BK12.out 6;have hfz59_7 := blk_frozen BK12.out 7;have hfz59_8 := blk_frozen BK12.out 8;have hfz59_9 := blk_frozen BK12.out 9;have hfz59_10 := blk_frozen BK12.out 10;have hfz59_11 := blk_frozen BK12.out 11)|((with_reducible refine gate_dst (N := 8) rfl ?_);(try (refine gate_guard (by rfl) ?_;dsimp only));refine box_event ?hg (N := 8) ?hd (cs := #[.string (⟨#[]⟩ : ByteArray), .string (⟨#[]⟩ : ByteArray), .int .i64 0, .int .i64 0, .int .i64 0, .int .i64 0, .int .i64 0, .int .i64 0, .int .i64 0, .int .i64 0, .int .i64 0, .int .i64 0, .slice none 0 0]) (t := 159) ?hr ?_;(case hd => rfl);(case hg => rfl);(case hr => first|(go_simp;done)|(go_simp;rfl));intro gb13 hg w60 hbox hb;have n0_ := Aside0.mk (blk_below (g := gb12) (o := .cells #[.string ((rd_T31 l0 x70_2).f0), .string ((rd_T31 l0 x70_2).f1), .int .i64 ((rd_T31 l0 x70_2).f2.f0), .int .i64 ((rd_T31 l0 x70_2).f2.f1), .int .i64 ((rd_T31 l0 x70_2).f2.f2), .int .i64 ((rd_T31 l0 x70_2).f3.f0), .int .i64 ((rd_T31 l0 x70_2).f3.f1), .int .i64 ((rd_T31 l0 x70_2).f3.f2), .int .i64 ((rd_T31 l0 x70_2).f4.f0), .int .i64 ((rd_T31 l0 x70_2).f4.f1), .int .i64 ((rd_T31 l0 x70_2).f4.f2), .int .i64 ((rd_T31 l0 x70_2).f5)] 31 (0, 0)) (by (with_reducible repeat (first|refine blk_drewN ?_ _|refine blk_drew ?_|refine blk_alloc ?_ _));refine blk_put (cs := #[.string ((rd_T31 l0 x70_2).f0), .string ((rd_T31 l0 x70_2).f1), .int .i64 ((rd_T31 l0 x70_2).f2.f0), .int .i64 ((rd_T31 l0 x70_2).f2.f1), .int .i64 ((rd_T31 l0 x70_2).f2.f2), .int .i64 ((rd_T31 l0 x70_2).f3.f0), .int .i64 ((rd_T31 l0 x70_2).f3.f1), .int .i64 ((rd_T31 l0 x70_2).f3.f2), .int .i64 ((rd_T31 l0 x70_2).f4.f0), .int .i64 ((rd_T31 l0 x70_2).f4.f1), .int .i64 ((rd_T31 l0 x70_2).f4.f2), .int .i64 0]) ?_ 11 _ rfl;(with_reducible repeat (first|refine blk_drewN ?_ _|refine blk_drew ?_|refine blk_alloc ?_ _));refine blk_put (cs := #[.string ((rd_T31 l0 x70_2).f0), .string ((rd_T31 l0 x70_2).f1), .int .i64 ((rd_T31 l0 x70_2).f2.f0), .int .i64 ((rd_T31 l0 x70_2).f2.f1), .int .i64 ((rd_T31 l0 x70_2).f2.f2), .int .i64 ((rd_T31 l0 x70_2).f3.f0), .int .i64 ((rd_T31 l0 x70_2).f3.f1), .int .i64 ((rd_T31 l0 x70_2).f3.f2), .int .i64 ((rd_T31 l0 x70_2).f4.f0), .int .i64 ((rd_T31 l0 x70_2).f4.f1), .int .i64 0, .int .i64 0]) ?_ 10 _ rfl;(with_reducible repeat (first|refine blk_drewN ?_ _|refine blk_drew ?_|refine blk_alloc ?_ _));refine blk_put (cs := #[.string ((rd_T31 l0 x70_2).f0), .string ((rd_T31 l0 x70_2).f1), .int .i64 ((rd_T31 l0 x70_2).f2.f0), .int .i64 ((rd_T31 l0 x70_2).f2.f1), .int .i64 ((rd_T31 l0 x70_2).f2.f2), .int .i64 ((rd_T31 l0 x70_2).f3.f0), .int .i64 ((rd_T31 l0 x70_2).f3.f1), .int .i64 ((rd_T31 l0 x70_2).f3.f2), .int .i64 ((rd_T31 l0 x70_2).f4.f0), .int .i64 0, .int .i64 0, .int .i64 0]) ?_ 9 _ rfl;(with_reducible repeat (first|refine blk_drewN ?_ _|refine blk_drew ?_|refine blk_alloc ?_ _));refine blk_put (cs := #[.string ((rd_T31 l0 x70_2).f0), .string ((rd_T31 l0 x70_2).f1), .int .i64 ((rd_T31 l0 x70_2).f2.f0), .int .i64 ((rd_T31 l0 x70_2).f2.f1), .int .i64 ((rd_T31 l0 x70_2).f2.f2), .int .i64 ((rd_T31 l0 x70_2).f3.f0), .int .i64 ((rd_T31 l0 x70_2).f3.f1), .int .i64 ((rd_T31 l0 x70_2).f3.f2), .int .i64 0, .int .i64 0, .int .i64 0, .int .i64 0]) ?_ 8 _ rfl;(with_reducible repeat (first|refine blk_drewN ?_ _|refine blk_drew ?_|refine blk_alloc ?_ _));refine blk_put (cs := #[.string ((rd_T31 l0 x70_2).f0), .string ((rd_T31 l0 x70_2).f1), .int .i64 ((rd_T31 l0 x70_2).f2.f0), .int .i64 ((rd_T31 l0 x70_2).f2.f1), .int .i64 ((rd_T31 l0 x70_2).f2.f2), .int .i64 ((rd_T31 l0 x70_2).f3.f0), .int .i64 ((rd_T31 l0 x70_2).f3.f1), .int .i64 0, .int .i64 0, .int .i64 0, .int .i64 0, .int .i64 0]) ?_ 7 _ rfl;(with_reducible repeat (first|refine blk_drewN ?_ _|refine blk_drew ?_|refine blk_alloc ?_ _));refine blk_put (cs := #[.string ((rd_T31 l0 x70_2).f0), .string ((rd_T31 l0 x70_2).f1), .int .i64 ((rd_T31 l0 x70_2).f2.f0), .int .i64 ((rd_T31 l0 x70_2).f2.f1), .int .i64 ((rd_T31 l0 x70_2).f2.f2), .int .i64 ((rd_T31 l0 x70_2).f3.f0), .int .i64 0, .int .i64 0, .int .i64 0, .int .i64 0, .int .i64 0, .int .i64 0]) ?_ 6 _ rfl;(with_reducible repeat (first|refine blk_drewN ?_ _|refine blk_drew ?_|refine blk_alloc ?_ _));refine blk_put (cs := #[.string ((rd_T31 l0 x70_2).f0), .string ((rd_T31 l0 x70_2).f1), .int .i64 ((rd_T31 l0 x70_2).f2.f0), .int .i64 ((rd_T31 l0 x70_2).f2.f1), .int .i64 ((rd_T31 l0 x70_2).f2.f2), .int .i64 0, .int .i64 0, .int .i64 0, .int .i64 0, .int .i64 0, .int .i64 0, .int .i64 0]) ?_ 5 _ rfl;(with_reducible repeat (first|refine blk_drewN ?_ _|refine blk_drew ?_|refine blk_alloc ?_ _));refine blk_put (cs := #[.string ((rd_T31 l0 x70_2).f0), .string ((rd_T31 l0 x70_2).f1), .int .i64 ((rd_T31 l0 x70_2).f2.f0), .int .i64 ((rd_T31 l0 x70_2).f2.f1), .int .i64 0, .int .i64 0, .int .i64 0, .int .i64 0, .int .i64 0, .int .i64 0, .int .i64 0, .int .i64 0]) ?_ 4 _ rfl;(with_reducible repeat (first|refine blk_drewN ?_ _|refine blk_drew ?_|refine blk_alloc ?_ _));refine blk_put (cs := #[.string ((rd_T31 l0 x70_2).f0), .string ((rd_T31 l0 x70_2).f1), .int .i64 ((rd_T31 l0 x70_2).f2.f0), .int .i64 0, .int .i64 0, .int .i64 0, .int .i64 0, .int .i64 0, .int .i64 0, .int .i64 0, .int .i64 0, .int .i64 0]) ?_ 3 _ rfl;(with_reducible repeat (first|refine blk_drewN ?_ _|refine blk_drew ?_|refine blk_alloc ?_ _));refine blk_put (cs := #[.string ((rd_T31 l0 x70_2).f0), .string ((rd_T31 l0 x70_2).f1), .int .i64 0, .int .i64 0, .int .i64 0, .int .i64 0, .int .i64 0, .int .i64 0, .int .i64 0, .int .i64 0, .int .i64 0, .int .i64 0]) ?_ 2 _ rfl;(with_reducible repeat (first|refine blk_drewN ?_ _|refine blk_drew ?_|refine blk_alloc ?_ _));refine blk_put (cs := #[.string ((rd_T31 l0 x70_2).f0), .string (⟨#[]⟩ : ByteArray), .int .i64 0, .int .i64 0, .int .i64 0, .int .i64 0, .int .i64 0, .int .i64 0, .int .i64 0, .int .i64 0, .int .i64 0, .int .i64 0]) ?_ 1 _ rfl;(with_reducible repeat (first|refine blk_drewN ?_ _|refine blk_drew ?_|refine blk_alloc ?_ _));refine blk_put (cs := #[.string (⟨#[]⟩ : ByteArray), .string (⟨#[]⟩ : ByteArray), .int .i64 0, .int .i64 0, .int .i64 0, .int .i64 0, .int .i64 0, .int .i64 0, .int .i64 0, .int .i64 0, .int .i64 0, .int .i64 0]) ?_ 0 _ rfl;(with_reducible repeat (first|refine blk_drewN ?_ _|refine blk_drew ?_|refine blk_alloc ?_ _));exact BK12.out) hb);have n1_ := Aside0.mk (below_step (by repeat (first|(with_reducible first|exact HB.out|apply below_alloc|apply pw_below_drewN|apply below_drew1|refine below_set ?_ GE12.out)|exact HB.out)) hb);have n2_ := Aside0.mk (hbox);have n3_ := Aside0.mk ((by rw [hg];exact (below_size (by repeat (first|(with_reducible first|exact HB.out|apply below_alloc|apply pw_below_drewN|apply below_drew1|refine below_set ?_ GE12.out)|exact HB.out))) : w.heap.size ≤ gb13));have n4_ := Aside0.mk ((by rw [hg];exact (below_size (by repeat (first|(with_reducible first|exact HB.out|apply below_alloc|apply pw_below_drewN|apply below_drew1|refine below_set ?_ GE12.out)|exact HB.out))) : w.heap.size ≤ gb13));have n5_ := Aside0.mk ((by rw [hg];exact Nat.ne_of_lt (blk_lt (g := gb12) (o := .cells #[.string ((rd_T31 l0 x70_2).f0), .string ((rd_T31 l0 x70_2).f1), .int .i64 ((rd_T31 l0 x70_2).f2.f0), .int .i64 ((rd_T31 l0 x70_2).f2.f1), .int .i64 ((rd_T31 l0 x70_2).f2.f2), .int .i64 ((rd_T31 l0 x70_2).f3.f0), .int .i64 ((rd_T31 l0 x70_2).f3.f1), .int .i64 ((rd_T31 l0 x70_2).f3.f2), .int .i64 ((rd_T31 l0 x70_2).f4.f0), .int .i64 ((rd_T31 l0 x70_2).f4.f1), .int .i64 ((rd_T31 l0 x70_2).f4.f2), .int .i64 ((rd_T31 l0 x70_2).f5)] 31 (0, 0)) (by (with_reducible repeat (first|refine blk_drewN ?_ _|refine blk_drew ?_|refine blk_alloc ?_ _));refine blk_put (cs := #[.string ((rd_T31 l0 x70_2).f0), .string ((rd_T31 l0 x70_2).f1), .int .i64 ((rd_T31 l0 x70_2).f2.f0), .int .i64 ((rd_T31 l0 x70_2).f2.f1), .int .i64 ((rd_T31 l0 x70_2).f2.f2), .int .i64 ((rd_T31 l0 x70_2).f3.f0), .int .i64 ((rd_T31 l0 x70_2).f3.f1), .int .i64 ((rd_T31 l0 x70_2).f3.f2), .int .i64 ((rd_T31 l0 x70_2).f4.f0), .int .i64 ((rd_T31 l0 x70_2).f4.f1), .int .i64 ((rd_T31 l0 x70_2).f4.f2), .int .i64 0]) ?_ 11 _ rfl;(with_reducible repeat (first|refine blk_drewN ?_ _|refine blk_drew ?_|refine blk_alloc ?_ _));refine blk_put (cs := #[.string ((rd_T31 l0 x70_2).f0), .string ((rd_T31 l0 x70_2).f1), .int .i64 ((rd_T31 l0 x70_2).f2.f0), .int .i64 ((rd_T31 l0 x70_2).f2.f1), .int .i64 ((rd_T31 l0 x70_2).f2.f2), .int .i64 ((rd_T31 l0 x70_2).f3.f0), .int .i64 ((rd_T31 l0 x70_2).f3.f1), .int .i64 ((rd_T31 l0 x70_2).f3.f2), .int .i64 ((rd_T31 l0 x70_2).f4.f0), .int .i64 ((rd_T31 l0 x70_2).f4.f1), .int .i64 0, .int .i64 0]) ?_ 10 _ rfl;(with_reducible repeat (first|refine blk_drewN ?_ _|refine blk_drew ?_|refine blk_alloc ?_ _));refine blk_put (cs := #[.string ((rd_T31 l0 x70_2).f0), .string ((rd_T31 l0 x70_2).f1), .int .i64 ((rd_T31 l0 x70_2).f2.f0), .int .i64 ((rd_T31 l0 x70_2).f2.f1), .int .i64 ((rd_T31 l0 x70_2).f2.f2), .int .i64 ((rd_T31 l0 x70_2).f3.f0), .int .i64 ((rd_T31 l0 x70_2).f3.f1), .int .i64 ((rd_T31 l0 x70_2).f3.f2), .int .i64 ((rd_T31 l0 x70_2).f4.f0), .int .i64 0, .int .i64 0, .int .i64 0]) ?_ 9 _ rfl;(with_reducible repeat (first|refine blk_drewN ?_ _|refine blk_drew ?_|refine blk_alloc ?_ _));refine blk_put (cs := #[.string ((rd_T31 l0 x70_2).f0), .string ((rd_T31 l0 x70_2).f1), .int .i64 ((rd_T31 l0 x70_2).f2.f0), .int .i64 ((rd_T31 l0 x70_2).f2.f1), .int .i64 ((rd_T31 l0 x70_2).f2.f2), .int .i64 ((rd_T31 l0 x70_2).f3.f0), .int .i64 ((rd_T31 l0 x70_2).f3.f1), .int .i64 ((rd_T31 l0 x70_2).f3.f2), .int .i64 0, .int .i64 0, .int .i64 0, .int .i64 0]) ?_ 8 _ rfl;(with_reducible repeat (first|refine blk_drewN ?_ _|refine blk_drew ?_|refine blk_alloc ?_ _));refine blk_put (cs := #[.string ((rd_T31 l0 x70_2).f0), .string ((rd_T31 l0 x70_2).f1), .int .i64 ((rd_T31 l0 x70_2).f2.f0), .int .i64 ((rd_T31 l0 x70_2).f2.f1), .int .i64 ((rd_T31 l0 x70_2).f2.f2), .int .i64 ((rd_T31 l0 x70_2).f3.f0), .int .i64 ((rd_T31 l0 x70_2).f3.f1), .int .i64 0, .int .i64 0, .int .i64 0, .int .i64 0, .int .i64 0]) ?_ 7 _ rfl;(with_reducible repeat (first|refine blk_drewN ?_ _|refine blk_drew ?_|refine blk_alloc ?_ _));refine blk_put (cs := #[.string ((rd_T31 l0 x70_2).f0), .string ((rd_T31 l0 x70_2).f1), .int .i64 ((rd_T31 l0 x70_2).f2.f0), .int .i64 ((rd_T31 l0 x70_2).f2.f1), .int .i64 ((rd_T31 l0 x70_2).f2.f2), .int .i64 ((rd_T31 l0 x70_2).f3.f0), .int .i64 0, .int .i64 0, .int .i64 0, .int .i64 0, .int .i64 0, .int .i64 0]) ?_ 6 _ rfl;(with_reducible repeat (first|refine blk_drewN ?_ _|refine blk_drew ?_|refine blk_alloc ?_ _));refine blk_put (cs := #[.string ((rd_T31 l0 x70_2).f0), .string ((rd_T31 l0 x70_2).f1), .int .i64 ((rd_T31 l0 x70_2).f2.f0), .int .i64 ((rd_T31 l0 x70_2).f2.f1), .int .i64 ((rd_T31 l0 x70_2).f2.f2), .int .i64 0, .int .i64 0, .int .i64 0, .int .i64 0, .int .i64 0, .int .i64 0, .int .i64 0]) ?_ 5 _ rfl;(with_reducible repeat (first|refine blk_drewN ?_ _|refine blk_drew ?_|refine blk_alloc ?_ _));refine blk_put (cs := #[.string ((rd_T31 l0 x70_2).f0), .string ((rd_T31 l0 x70_2).f1), .int .i64 ((rd_T31 l0 x70_2).f2.f0), .int .i64 ((rd_T31 l0 x70_2).f2.f1), .int .i64 0, .int .i64 0, .int .i64 0, .int .i64 0, .int .i64 0, .int .i64 0, .int .i64 0, .int .i64 0]) ?_ 4 _ rfl;(with_reducible repeat (first|refine blk_drewN ?_ _|refine blk_drew ?_|refine blk_alloc ?_ _));refine blk_put (cs := #[.string ((rd_T31 l0 x70_2).f0), .string ((rd_T31 l0 x70_2).f1), .int .i64 ((rd_T31 l0 x70_2).f2.f0), .int .i64 0, .int .i64 0, .int .i64 0, .int .i64 0, .int .i64 0, .int .i64 0, .int .i64 0, .int .i64 0, .int .i64 0]) ?_ 3 _ rfl;(with_reducible repeat (first|refine blk_drewN ?_ _|refine blk_drew ?_|refine blk_alloc ?_ _));refine blk_put (cs := #[.string ((rd_T31 l0 x70_2).f0), .string ((rd_T31 l0 x70_2).f1), .int .i64 0, .int .i64 0, .int .i64 0, .int .i64 0, .int .i64 0, .int .i64 0, .int .i64 0, .int .i64 0, .int .i64 0, .int .i64 0]) ?_ 2 _ rfl;(with_reducible repeat (first|refine blk_drewN ?_ _|refine blk_drew ?_|refine blk_alloc ?_ _));refine blk_put (cs := #[.string ((rd_T31 l0 x70_2).f0), .string (⟨#[]⟩ : ByteArray), .int .i64 0, .int .i64 0, .int .i64 0, .int .i64 0, .int .i64 0, .int .i64 0, .int .i64 0, .int .i64 0, .int .i64 0, .int .i64 0]) ?_ 1 _ rfl;(with_reducible repeat (first|refine blk_drewN ?_ _|refine blk_drew ?_|refine blk_alloc ?_ _));refine blk_put (cs := #[.string (⟨#[]⟩ : ByteArray), .string (⟨#[]⟩ : ByteArray), .int .i64 0, .int .i64 0, .int .i64 0, .int .i64 0, .int .i64 0, .int .i64 0, .int .i64 0, .int .i64 0, .int .i64 0, .int .i64 0]) ?_ 0 _ rfl;(with_reducible repeat (first|refine blk_drewN ?_ _|refine blk_drew ?_|refine blk_alloc ?_ _));exact BK12.out)) : gb12 ≠ gb13));have n6_ := Aside0.mk ((by rw [hg];exact Nat.ne_of_gt (blk_lt (g := gb12) (o := .cells #[.string ((rd_T31 l0 x70_2).f0), .string ((rd_T31 l0 x70_2).f1), .int .i64 ((rd_T31 l0 x70_2).f2.f0), .int .i64 ((rd_T31 l0 x70_2).f2.f1), .int .i64 ((rd_T31 l0 x70_2).f2.f2), .int .i64 ((rd_T31 l0 x70_2).f3.f0), .int .i64 ((rd_T31 l0 x70_2).f3.f1), .int .i64 ((rd_T31 l0 x70_2).f3.f2), .int .i64 ((rd_T31 l0 x70_2).f4.f0), .int .i64 ((rd_T31 l0 x70_2).f4.f1), .int .i64 ((rd_T31 l0 x70_2).f4.f2), .int .i64 ((rd_T31 l0 x70_2).f5)] 31 (0, 0)) (by (with_reducible repeat (first|refine blk_drewN ?_ _|refine blk_drew ?_|refine blk_alloc ?_ _));refine blk_put (cs := #[.string ((rd_T31 l0 x70_2).f0), .string ((rd_T31 l0 x70_2).f1), .int .i64 ((rd_T31 l0 x70_2).f2.f0), .int .i64 ((rd_T31 l0 x70_2).f2.f1), .int .i64 ((rd_T31 l0 x70_2).f2.f2), .int .i64 ((rd_T31 l0 x70_2).f3.f0), .int .i64 ((rd_T31 l0 x70_2).f3.f1), .int .i64 ((rd_T31 l0 x70_2).f3.f2), .int .i64 ((rd_T31 l0 x70_2).f4.f0), .int .i64 ((rd_T31 l0 x70_2).f4.f1), .int .i64 ((rd_T31 l0 x70_2).f4.f2), .int .i64 0]) ?_ 11 _ rfl;(with_reducible repeat (first|refine blk_drewN ?_ _|refine blk_drew ?_|refine blk_alloc ?_ _));refine blk_put (cs := #[.string ((rd_T31 l0 x70_2).f0), .string ((rd_T31 l0 x70_2).f1), .int .i64 ((rd_T31 l0 x70_2).f2.f0), .int .i64 ((rd_T31 l0 x70_2).f2.f1), .int .i64 ((rd_T31 l0 x70_2).f2.f2), .int .i64 ((rd_T31 l0 x70_2).f3.f0), .int .i64 ((rd_T31 l0 x70_2).f3.f1), .int .i64 ((rd_T31 l0 x70_2).f3.f2), .int .i64 ((rd_T31 l0 x70_2).f4.f0), .int .i64 ((rd_T31 l0 x70_2).f4.f1), .int .i64 0, .int .i64 0]) ?_ 10 _ rfl;(with_reducible repeat (first|refine blk_drewN ?_ _|refine blk_drew ?_|refine blk_alloc ?_ _));refine blk_put (cs := #[.string ((rd_T31 l0 x70_2).f0), .string ((rd_T31 l0 x70_2).f1), .int .i64 ((rd_T31 l0 x70_2).f2.f0), .int .i64 ((rd_T31 l0 x70_2).f2.f1), .int .i64 ((rd_T31 l0 x70_2).f2.f2), .int .i64 ((rd_T31 l0 x70_2).f3.f0), .int .i64 ((rd_T31 l0 x70_2).f3.f1), .int .i64 ((rd_T31 l0 x70_2).f3.f2), .int .i64 ((rd_T31 l0 x70_2).f4.f0), .int .i64 0, .int .i64 0, .int .i64 0]) ?_ 9 _ rfl;(with_reducible repeat (first|refine blk_drewN ?_ _|refine blk_drew ?_|refine blk_alloc ?_ _));refine blk_put (cs := #[.string ((rd_T31 l0 x70_2).f0), .string ((rd_T31 l0 x70_2).f1), .int .i64 ((rd_T31 l0 x70_2).f2.f0), .int .i64 ((rd_T31 l0 x70_2).f2.f1), .int .i64 ((rd_T31 l0 x70_2).f2.f2), .int .i64 ((rd_T31 l0 x70_2).f3.f0), .int .i64 ((rd_T31 l0 x70_2).f3.f1), .int .i64 ((rd_T31 l0 x70_2).f3.f2), .int .i64 0, .int .i64 0, .int .i64 0, .int .i64 0]) ?_ 8 _ rfl;(with_reducible repeat (first|refine blk_drewN ?_ _|refine blk_drew ?_|refine blk_alloc ?_ _));refine blk_put (cs := #[.string ((rd_T31 l0 x70_2).f0), .string ((rd_T31 l0 x70_2).f1), .int .i64 ((rd_T31 l0 x70_2).f2.f0), .int .i64 ((rd_T31 l0 x70_2).f2.f1), .int .i64 ((rd_T31 l0 x70_2).f2.f2), .int .i64 ((rd_T31 l0 x70_2).f3.f0), .int .i64 ((rd_T31 l0 x70_2).f3.f1), .int .i64 0, .int .i64 0, .int .i64 0, .int .i64 0, .int .i64 0]) ?_ 7 _ rfl;(with_reducible repeat (first|refine blk_drewN ?_ _|refine blk_drew ?_|refine blk_alloc ?_ _));refine blk_put (cs := #[.string ((rd_T31 l0 x70_2).f0), .string ((rd_T31 l0 x70_2).f1), .int .i64 ((rd_T31 l0 x70_2).f2.f0), .int .i64 ((rd_T31 l0 x70_2).f2.f1), .int .i64 ((rd_T31 l0 x70_2).f2.f2), .int .i64 ((rd_T31 l0 x70_2).f3.f0), .int .i64 0, .int .i64 0, .int .i64 0, .int .i64 0, .int .i64 0, .int .i64 0]) ?_ 6 _ rfl;(with_reducible repeat (first|refine blk_drewN ?_ _|refine blk_drew ?_|refine blk_alloc ?_ _));refine blk_put (cs := #[.string ((rd_T31 l0 x70_2).f0), .string ((rd_T31 l0 x70_2).f1), .int .i64 ((rd_T31 l0 x70_2).f2.f0), .int .i64 ((rd_T31 l0 x70_2).f2.f1), .int .i64 ((rd_T31 l0 x70_2).f2.f2), .int .i64 0, .int .i64 0, .int .i64 0, .int .i64 0, .int .i64 0, .int .i64 0, .int .i64 0]) ?_ 5 _ rfl;(with_reducible repeat (first|refine blk_drewN ?_ _|refine blk_drew ?_|refine blk_alloc ?_ _));refine blk_put (cs := #[.string ((rd_T31 l0 x70_2).f0), .string ((rd_T31 l0 x70_2).f1), .int .i64 ((rd_T31 l0 x70_2).f2.f0), .int .i64 ((rd_T31 l0 x70_2).f2.f1), .int .i64 0, .int .i64 0, .int .i64 0, .int .i64 0, .int .i64 0, .int .i64 0, .int .i64 0, .int .i64 0]) ?_ 4 _ rfl;(with_reducible repeat (first|refine blk_drewN ?_ _|refine blk_drew ?_|refine blk_alloc ?_ _));refine blk_put (cs := #[.string ((rd_T31 l0 x70_2).f0), .string ((rd_T31 l0 x70_2).f1), .int .i64 ((rd_T31 l0 x70_2).f2.f0), .int .i64 0, .int .i64 0, .int .i64 0, .int .i64 0, .int .i64 0, .int .i64 0, .int .i64 0, .int .i64 0, .int .i64 0]) ?_ 3 _ rfl;(with_reducible repeat (first|refine blk_drewN ?_ _|refine blk_drew ?_|refine blk_alloc ?_ _));refine blk_put (cs := #[.string ((rd_T31 l0 x70_2).f0), .string ((rd_T31 l0 x70_2).f1), .int .i64 0, .int .i64 0, .int .i64 0, .int .i64 0, .int .i64 0, .int .i64 0, .int .i64 0, .int .i64 0, .int .i64 0, .int .i64 0]) ?_ 2 _ rfl;(with_reducible repeat (first|refine blk_drewN ?_ _|refine blk_drew ?_|refine blk_alloc ?_ _));refine blk_put (cs := #[.string ((rd_T31 l0 x70_2).f0), .string (⟨#[]⟩ : ByteArray), .int .i64 0, .int .i64 0, .int .i64 0, .int .i64 0, .int .i64 0, .int .i64 0, .int .i64 0, .int .i64 0, .int .i64 0, .int .i64 0]) ?_ 1 _ rfl;(with_reducible repeat (first|refine blk_drewN ?_ _|refine blk_drew ?_|refine blk_alloc ?_ _));refine blk_put (cs := #[.string (⟨#[]⟩ : ByteArray), .string (⟨#[]⟩ : ByteArray), .int .i64 0, .int .i64 0, .int .i64 0, .int .i64 0, .int .i64 0, .int .i64 0, .int .i64 0, .int .i64 0, .int .i64 0, .int .i64 0]) ?_ 0 _ rfl;(with_reducible repeat (first|refine blk_drewN ?_ _|refine blk_drew ?_|refine blk_alloc ?_ _));exact BK12.out)) : gb13 ≠ gb12));clear BK12;clear HB;have BK12 := n0_;have HB := n1_;have BK13 := n2_;have GW13 := n3_;have GE13 := n4_;have NB12_13 := n5_;have NB13_12 := n6_;clear n0_ n1_ n2_ n3_ n4_ n5_ n6_;clear hb hbox hg;have hnb61 := NB13_12.out;have hnc61 := NB12_13.out;have hcz62_0 : w60.cell? ⟨gb13, 0, none⟩ = some (.string (⟨#[]⟩ : ByteArray)) := (blk_cell BK13.out 0).trans rfl;have hcz62_1 : w60.cell? ⟨gb13, 1, none⟩ = some (.string (⟨#[]⟩ : ByteArray)) := (blk_cell BK13.out 1).trans rfl;have hcz62_2 : w60.cell? ⟨gb13, 2, none⟩ = some (.int .i64 0) := (blk_cell BK13.out 2).trans rfl;have hcz62_3 : w60.cell? ⟨gb13, 3, none⟩ = some (.int .i64 0) := (blk_cell BK13.out 3).trans rfl;have hcz62_4 : w60.cell? ⟨gb13, 4, none⟩ = some (.int .i64 0) := (blk_cell BK13.out 4).trans rfl;have hcz62_5 : w60.cell? ⟨gb13, 5, none⟩ = some (.int .i64 0) := (blk_cell BK13.out 5).trans rfl;have hcz62_6 : w60.cell? ⟨gb13, 6, none⟩ = some (.int .i64 0) := (blk_cell BK13.out 6).trans rfl;have hcz62_7 : w60.cell? ⟨gb13, 7, none⟩ = some (.int .i64 0) := (blk_cell BK13.out 7).trans rfl;have hcz62_8 : w60.cell? ⟨gb13, 8, none⟩ = some (.int .i64 0) := (blk_cell BK13.out 8).trans rfl;have hcz62_9 : w60.cell? ⟨gb13, 9, none⟩ = some (.int .i64 0) := (blk_cell BK13.out 9).trans rfl;have hcz62_10 : w60.cell? ⟨gb13, 10, none⟩ = some (.int .i64 0) := (blk_cell BK13.out 10).trans rfl;have hcz62_11 : w60.cell? ⟨gb13, 11, none⟩ = some (.int .i64 0) := (blk_cell BK13.out 11).trans rfl;have hcz62_12 : w60.cell? ⟨gb13, 12, none⟩ = some (.slice none 0 0) := (blk_cell BK13.out 12).trans rfl;have hfz62_0 := blk_frozen BK13.out 0;have hfz62_1 := blk_frozen BK13.out 1;have hfz62_2 := blk_frozen BK13.out 2;have hfz62_3 := blk_frozen BK13.out 3;have hfz62_4 := blk_frozen BK13.out 4;have hfz62_5 := blk_frozen BK13.out 5;have hfz62_6 := blk_frozen BK13.out 6;have hfz62_7 := blk_frozen BK13.out 7;have hfz62_8 := blk_frozen BK13.out 8;have hfz62_9 := blk_frozen BK13.out 9;have hfz62_10 := blk_frozen BK13.out 10;have hfz62_11 := blk_frozen BK13.out 11;have hfz62_12 := blk_frozen BK13.out 12))
          go_loopg [78] k2 (fun kq v78 w' => ∃ (x78_3 : Int) (x14012_3 : List (S27)) (u14012 : Value), v78 = .int .i64 x78_3 ∧ Aside0 (tree_Right.l2 kq l0 l0 (l0.length : Int) x70_2 l0 (l0.length : Int) x78_3 ((rd_T31 l0 x70_2).f0) ((rd_T31 l0 x70_2).f1) ((rd_T31 l0 x70_2).f2.f0) ((rd_T31 l0 x70_2).f2.f1) ((rd_T31 l0 x70_2).f2.f2) ((rd_T31 l0 x70_2).f3.f0) ((rd_T31 l0 x70_2).f3.f1) ((rd_T31 l0 x70_2).f3.f2) ((rd_T31 l0 x70_2).f4.f0) ((rd_T31 l0 x70_2).f4.f1) ((rd_T31 l0 x70_2).f4.f2) ((rd_T31 l0 x70_2).f5) ((rd_T31 l0 x70_2).f0) ((rd_T31 l0 x70_2).f1) ((rd_T31 l0 x70_2).f2.f0) ((rd_T31 l0 x70_2).f2.f1) ((rd_T31 l0 x70_2).f2.f2) ((rd_T31 l0 x70_2).f3.f0) ((rd_T31 l0 x70_2).f3.f1) ((rd_T31 l0 x70_2).f3.f2) ((rd_T31 l0 x70_2).f4.f0) ((rd_T31 l0 x70_2).f4.f1) ((rd_T31 l0 x70_2).f4.f2) ((rd_T31 l0 x70_2).f5) x14012_3 = some r) ∧ Aside0 (kq ≤ k2) ∧ Aside0 (Kd.R k27 27 w' w.heap.size (fun _ => True) u14012 x14012_3) ∧ Aside0 (w'.heap[gb12]? = some (.cells #[.string ((rd_T31 l0 x70_2).f0), .string ((rd_T31 l0 x70_2).f1), .int .i64 ((rd_T31 l0 x70_2).f2.f0), .int .i64 ((rd_T31 l0 x70_2).f2.f1), .int .i64 ((rd_T31 l0 x70_2).f2.f2), .int .i64 ((rd_T31 l0 x70_2).f3.f0), .int .i64 ((rd_T31 l0 x70_2).f3.f1), .int .i64 ((rd_T31 l0 x70_2).f3.f2), .int .i64 ((rd_T31 l0 x70_2).f4.f0), .int .i64 ((rd_T31 l0 x70_2).f4.f1), .int .i64 ((rd_T31 l0 x70_2).f4.f2), .int .i64 ((rd_T31 l0 x70_2).f5)] 31 (0, 0))) ∧ Aside0 (w'.heap[gb13]? = some (.cells #[.string ((rd_T31 l0 x70_2).f0), .string ((rd_T31 l0 x70_2).f1), .int .i64 ((rd_T31 l0 x70_2).f2.f0), .int .i64 ((rd_T31 l0 x70_2).f2.f1), .int .i64 ((rd_T31 l0 x70_2).f2.f2), .int .i64 ((rd_T31 l0 x70_2).f3.f0), .int .i64 ((rd_T31 l0 x70_2).f3.f1), .int .i64 ((rd_T31 l0 x70_2).f3.f2), .int .i64 ((rd_T31 l0 x70_2).f4.f0), .int .i64 ((rd_T31 l0 x70_2).f4.f1), .int .i64 ((rd_T31 l0 x70_2).f4.f2), .int .i64 ((rd_T31 l0 x70_2).f5), u14012] 159 (0, 0))) ∧ Aside0 (Below w.heap.size w w'))
          case atStart => exact ⟨(0), (([] : List (S27))), (.slice none 0 0), (by first|rfl|(simp;done)|(simp [*];done)), H', ⟨Nat.le_refl _⟩, ⟨by first|exact Kd.R_nil _ _ _ _ _|exact Kd.N_nil _ _ _ _ _|exact Kd.V_nil _ _ _ _ _|exact Kd.Q_nil _ _ _ _ _|exact Kd.S_nil _ _ _ _ _⟩, ⟨by (with_reducible repeat (first|refine blk_drewN ?_ _|refine blk_drew ?_|refine blk_alloc ?_ _));refine blk_far ?_ NB12_13.out _;(with_reducible repeat (first|refine blk_drewN ?_ _|refine blk_drew ?_|refine blk_alloc ?_ _));refine blk_far ?_ NB12_13.out _;(with_reducible repeat (first|refine blk_drewN ?_ _|refine blk_drew ?_|refine blk_alloc ?_ _));refine blk_far ?_ NB12_13.out _;(with_reducible repeat (first|refine blk_drewN ?_ _|refine blk_drew ?_|refine blk_alloc ?_ _));refine blk_far ?_ NB12_13.out _;(with_reducible repeat (first|refine blk_drewN ?_ _|refine blk_drew ?_|refine blk_alloc ?_ _));refine blk_far ?_ NB12_13.out _;(with_reducible repeat (first|refine blk_drewN ?_ _|refine blk_drew ?_|refine blk_alloc ?_ _));refine blk_far ?_ NB12_13.out _;(with_reducible repeat (first|refine blk_drewN ?_ _|refine blk_drew ?_|refine blk_alloc ?_ _));refine blk_far ?_ NB12_13.out _;(with_reducible repeat (first|refine blk_drewN ?_ _|refine blk_drew ?_|refine blk_alloc ?_ _));refine blk_far ?_ NB12_13.out _;(with_reducible repeat (first|refine blk_drewN ?_ _|refine blk_drew ?_|refine blk_alloc ?_ _));refine blk_far ?_ NB12_13.out _;(with_reducible repeat (first|refine blk_drewN ?_ _|refine blk_drew ?_|refine blk_alloc ?_ _));refine blk_far ?_ NB12_13.out _;(with_reducible repeat (first|refine blk_drewN ?_ _|refine blk_drew ?_|refine blk_alloc ?_ _));refine blk_far ?_ NB12_13.out _;(with_reducible repeat (first|refine blk_drewN ?_ _|refine blk_drew ?_|refine blk_alloc ?_ _));refine blk_far ?_ NB12_13.out _;(with_reducible repeat (first|refine blk_drewN ?_ _|refine blk_drew ?_|refine blk_alloc ?_ _));refine blk_far ?_ NB12_13.out _;(with_reducible repeat (first|refine blk_drewN ?_ _|refine blk_drew ?_|refine blk_alloc ?_ _));exact BK12.out⟩, ⟨by (with_reducible repeat (first|refine blk_drewN ?_ _|refine blk_drew ?_|refine blk_alloc ?_ _));refine blk_put (cs := #[.string ((rd_T31 l0 x70_2).f0), .string ((rd_T31 l0 x70_2).f1), .int .i64 ((rd_T31 l0 x70_2).f2.f0), .int .i64 ((rd_T31 l0 x70_2).f2.f1), .int .i64 ((rd_T31 l0 x70_2).f2.f2), .int .i64 ((rd_T31 l0 x70_2).f3.f0), .int .i64 ((rd_T31 l0 x70_2).f3.f1), .int .i64 ((rd_T31 l0 x70_2).f3.f2), .int .i64 ((rd_T31 l0 x70_2).f4.f0), .int .i64 ((rd_T31 l0 x70_2).f4.f1), .int .i64 ((rd_T31 l0 x70_2).f4.f2), .int .i64 ((rd_T31 l0 x70_2).f5), .slice none 0 0]) ?_ 12 _ rfl;(with_reducible repeat (first|refine blk_drewN ?_ _|refine blk_drew ?_|refine blk_alloc ?_ _));refine blk_put (cs := #[.string ((rd_T31 l0 x70_2).f0), .string ((rd_T31 l0 x70_2).f1), .int .i64 ((rd_T31 l0 x70_2).f2.f0), .int .i64 ((rd_T31 l0 x70_2).f2.f1), .int .i64 ((rd_T31 l0 x70_2).f2.f2), .int .i64 ((rd_T31 l0 x70_2).f3.f0), .int .i64 ((rd_T31 l0 x70_2).f3.f1), .int .i64 ((rd_T31 l0 x70_2).f3.f2), .int .i64 ((rd_T31 l0 x70_2).f4.f0), .int .i64 ((rd_T31 l0 x70_2).f4.f1), .int .i64 ((rd_T31 l0 x70_2).f4.f2), .int .i64 0, .slice none 0 0]) ?_ 11 _ rfl;(with_reducible repeat (first|refine blk_drewN ?_ _|refine blk_drew ?_|refine blk_alloc ?_ _));refine blk_put (cs := #[.string ((rd_T31 l0 x70_2).f0), .string ((rd_T31 l0 x70_2).f1), .int .i64 ((rd_T31 l0 x70_2).f2.f0), .int .i64 ((rd_T31 l0 x70_2).f2.f1), .int .i64 ((rd_T31 l0 x70_2).f2.f2), .int .i64 ((rd_T31 l0 x70_2).f3.f0), .int .i64 ((rd_T31 l0 x70_2).f3.f1), .int .i64 ((rd_T31 l0 x70_2).f3.f2), .int .i64 ((rd_T31 l0 x70_2).f4.f0), .int .i64 ((rd_T31 l0 x70_2).f4.f1), .int .i64 0, .int .i64 0, .slice none 0 0]) ?_ 10 _ rfl;(with_reducible repeat (first|refine blk_drewN ?_ _|refine blk_drew ?_|refine blk_alloc ?_ _));refine blk_put (cs := #[.string ((rd_T31 l0 x70_2).f0), .string ((rd_T31 l0 x70_2).f1), .int .i64 ((rd_T31 l0 x70_2).f2.f0), .int .i64 ((rd_T31 l0 x70_2).f2.f1), .int .i64 ((rd_T31 l0 x70_2).f2.f2), .int .i64 ((rd_T31 l0 x70_2).f3.f0), .int .i64 ((rd_T31 l0 x70_2).f3.f1), .int .i64 ((rd_T31 l0 x70_2).f3.f2), .int .i64 ((rd_T31 l0 x70_2).f4.f0), .int .i64 0, .int .i64 0, .int .i64 0, .slice none 0 0]) ?_ 9 _ rfl;(with_reducible repeat (first|refine blk_drewN ?_ _|refine blk_drew ?_|refine blk_alloc ?_ _));refine blk_put (cs := #[.string ((rd_T31 l0 x70_2).f0), .string ((rd_T31 l0 x70_2).f1), .int .i64 ((rd_T31 l0 x70_2).f2.f0), .int .i64 ((rd_T31 l0 x70_2).f2.f1), .int .i64 ((rd_T31 l0 x70_2).f2.f2), .int .i64 ((rd_T31 l0 x70_2).f3.f0), .int .i64 ((rd_T31 l0 x70_2).f3.f1), .int .i64 ((rd_T31 l0 x70_2).f3.f2), .int .i64 0, .int .i64 0, .int .i64 0, .int .i64 0, .slice none 0 0]) ?_ 8 _ rfl;(with_reducible repeat (first|refine blk_drewN ?_ _|refine blk_drew ?_|refine blk_alloc ?_ _));refine blk_put (cs := #[.string ((rd_T31 l0 x70_2).f0), .string ((rd_T31 l0 x70_2).f1), .int .i64 ((rd_T31 l0 x70_2).f2.f0), .int .i64 ((rd_T31 l0 x70_2).f2.f1), .int .i64 ((rd_T31 l0 x70_2).f2.f2), .int .i64 ((rd_T31 l0 x70_2).f3.f0), .int .i64 ((rd_T31 l0 x70_2).f3.f1), .int .i64 0, .int .i64 0, .int .i64 0, .int .i64 0, .int .i64 0, .slice none 0 0]) ?_ 7 _ rfl;(with_reducible repeat (first|refine blk_drewN ?_ _|refine blk_drew ?_|refine blk_alloc ?_ _));refine blk_put (cs := #[.string ((rd_T31 l0 x70_2).f0), .string ((rd_T31 l0 x70_2).f1), .int .i64 ((rd_T31 l0 x70_2).f2.f0), .int .i64 ((rd_T31 l0 x70_2).f2.f1), .int .i64 ((rd_T31 l0 x70_2).f2.f2), .int .i64 ((rd_T31 l0 x70_2).f3.f0), .int .i64 0, .int .i64 0, .int .i64 0, .int .i64 0, .int .i64 0, .int .i64 0, .slice none 0 0]) ?_ 6 _ rfl;(with_reducible repeat (first|refine blk_drewN ?_ _|refine blk_drew ?_|refine blk_alloc ?_ _));refine blk_put (cs := #[.string ((rd_T31 l0 x70_2).f0), .string ((rd_T31 l0 x70_2).f1), .int .i64 ((rd_T31 l0 x70_2).f2.f0), .int .i64 ((rd_T31 l0 x70_2).f2.f1), .int .i64 ((rd_T31 l0 x70_2).f2.f2), .int .i64 0, .int .i64 0, .int .i64 0, .int .i64 0, .int .i64 0, .int .i64 0, .int .i64 0, .slice none 0 0]) ?_ 5 _ rfl;(with_reducible repeat (first|refine blk_drewN ?_ _|refine blk_drew ?_|refine blk_alloc ?_ _));refine blk_put (cs := #[.string ((rd_T31 l0 x70_2).f0), .string ((rd_T31 l0 x70_2).f1), .int .i64 ((rd_T31 l0 x70_2).f2.f0), .int .i64 ((rd_T31 l0 x70_2).f2.f1), .int .i64 0, .int .i64 0, .int .i64 0, .int .i64 0, .int .i64 0, .int .i64 0, .int .i64 0, .int .i64 0, .slice none 0 0]) ?_ 4 _ rfl;(with_reducible repeat (first|refine blk_drewN ?_ _|refine blk_drew ?_|refine blk_alloc ?_ _));refine blk_put (cs := #[.string ((rd_T31 l0 x70_2).f0), .string ((rd_T31 l0 x70_2).f1), .int .i64 ((rd_T31 l0 x70_2).f2.f0), .int .i64 0, .int .i64 0, .int .i64 0, .int .i64 0, .int .i64 0, .int .i64 0, .int .i64 0, .int .i64 0, .int .i64 0, .slice none 0 0]) ?_ 3 _ rfl;(with_reducible repeat (first|refine blk_drewN ?_ _|refine blk_drew ?_|refine blk_alloc ?_ _));refine blk_put (cs := #[.string ((rd_T31 l0 x70_2).f0), .string ((rd_T31 l0 x70_2).f1), .int .i64 0, .int .i64 0, .int .i64 0, .int .i64 0, .int .i64 0, .int .i64 0, .int .i64 0, .int .i64 0, .int .i64 0, .int .i64 0, .slice none 0 0]) ?_ 2 _ rfl;(with_reducible repeat (first|refine blk_drewN ?_ _|refine blk_drew ?_|refine blk_alloc ?_ _));refine blk_put (cs := #[.string ((rd_T31 l0 x70_2).f0), .string (⟨#[]⟩ : ByteArray), .int .i64 0, .int .i64 0, .int .i64 0, .int .i64 0, .int .i64 0, .int .i64 0, .int .i64 0, .int .i64 0, .int .i64 0, .int .i64 0, .slice none 0 0]) ?_ 1 _ rfl;(with_reducible repeat (first|refine blk_drewN ?_ _|refine blk_drew ?_|refine blk_alloc ?_ _));refine blk_put (cs := #[.string (⟨#[]⟩ : ByteArray), .string (⟨#[]⟩ : ByteArray), .int .i64 0, .int .i64 0, .int .i64 0, .int .i64 0, .int .i64 0, .int .i64 0, .int .i64 0, .int .i64 0, .int .i64 0, .int .i64 0, .slice none 0 0]) ?_ 0 _ rfl;(with_reducible repeat (first|refine blk_drewN ?_ _|refine blk_drew ?_|refine blk_alloc ?_ _));exact BK13.out⟩, ⟨by repeat (first|(with_reducible first|exact HB.out|apply below_alloc|apply pw_below_drewN|apply below_drew1|refine below_set ?_ GE12.out|refine below_set ?_ GE13.out)|exact HB.out)⟩⟩
          case round =>
           clear H'
           try clear c1
           try clear p1
           try clear q1
           try clear hx1
           try clear p2
           try clear c3
           try clear c3b0
           try clear c4
           try clear c5
           try clear c6
           try clear p6
           try clear c7
           try clear c11
           try clear p11
           try clear q11
           try clear hx11
           try clear c12
           try clear c38
           try clear c38b0
           try clear c48
           try clear c50
           try clear c55
           try clear c55b0
           try clear c56
           try clear c56b0
           try clear c57
           try clear c57b0
           try clear c61
           try clear hcz51_0
           try clear hcz51_1
           try clear hcz51_10
           try clear hcz51_11
           try clear hcz51_2
           try clear hcz51_3
           try clear hcz51_4
           try clear hcz51_5
           try clear hcz51_6
           try clear hcz51_7
           try clear hcz51_8
           try clear hcz51_9
           try clear hcz53_0
           try clear hcz53_1
           try clear hcz53_10
           try clear hcz53_11
           try clear hcz53_2
           try clear hcz53_3
           try clear hcz53_4
           try clear hcz53_5
           try clear hcz53_6
           try clear hcz53_7
           try clear hcz53_8
           try clear hcz53_9
           try clear hcz59_0
           try clear hcz59_1
           try clear hcz59_10
           try clear hcz59_11
           try clear hcz59_2
           try clear hcz59_3
           try clear hcz59_4
           try clear hcz59_5
           try clear hcz59_6
           try clear hcz59_7
           try clear hcz59_8
           try clear hcz59_9
           try clear hcz62_0
           try clear hcz62_1
           try clear hcz62_10
           try clear hcz62_11
           try clear hcz62_12
           try clear hcz62_2
           try clear hcz62_3
           try clear hcz62_4
           try clear hcz62_5
           try clear hcz62_6
           try clear hcz62_7
           try clear hcz62_8
           try clear hcz62_9
           try clear hfz51_0
           try clear hfz51_1
           try clear hfz51_10
           try clear hfz51_11
           try clear hfz51_2
           try clear hfz51_3
           try clear hfz51_4
           try clear hfz51_5
           try clear hfz51_6
           try clear hfz51_7
           try clear hfz51_8
           try clear hfz51_9
           try clear hfz53_0
           try clear hfz53_1
           try clear hfz53_10
           try clear hfz53_11
           try clear hfz53_2
           try clear hfz53_3
           try clear hfz53_4
           try clear hfz53_5
           try clear hfz53_6
           try clear hfz53_7
           try clear hfz53_8
           try clear hfz53_9
           try clear hfz59_0
           try clear hfz59_1
           try clear hfz59_10
           try clear hfz59_11
           try clear hfz59_2
           try clear hfz59_3
           try clear hfz59_4
           try clear hfz59_5
           try clear hfz59_6
           try clear hfz59_7
           try clear hfz59_8
           try clear hfz59_9
           try clear hfz62_0
           try clear hfz62_1
           try clear hfz62_10
           try clear hfz62_11
           try clear hfz62_12
           try clear hfz62_2
           try clear hfz62_3
           try clear hfz62_4
           try clear hfz62_5
           try clear hfz62_6
           try clear hfz62_7
           try clear hfz62_8
           try clear hfz62_9
           try clear hx11_0
           try clear hx11_1
           try clear hx11_10
           try clear hx11_11
           try clear hx11_2
           try clear hx11_3
           try clear hx11_4
           try clear hx11_5
           try clear hx11_6
           try clear hx11_7
           try clear hx11_8
           try clear hx11_9
           try clear p11
           try clear p2
           try clear p6
           try clear q11
           obtain ⟨x78_3, x14012_3, u14012, rfl, HA, HK3, HO_14012, BK12, BK13, HB⟩ := hrel
           cases gk with
           | zero => exact absurd HA.out (by simp [tree_Right.l2])
           | succ k3 =>
            have H := HA.out
            clear HA
            simp only [tree_Right.l2] at H
            by_cases c63 : x78_3 < (l0.length : Int)
            ·rw [if_pos c63] at H
             have c63b0 : decide (x78_3 < (l0.length : Int)) = true := decide_eq_true c63
             clear c63
             by_cases c64 : 0 ≤ x78_3
             ·rw [if_pos c64] at H
              have c64b0 : decide (0 ≤ x78_3) = true := decide_eq_true c64
              clear c64
              by_cases c65 : x78_3 < (l0.length : Int)
              ·rw [if_pos c65] at H
               have c65b0 : decide (x78_3 < (l0.length : Int)) = true := decide_eq_true c65
               clear c65
               by_cases c66 : ((rd_T31 l0 x78_3).f1).toList = ((rd_T31 l0 x70_2).f0).toList
               ·rw [if_pos c66] at H
                have c66b0 : (((rd_T31 l0 x78_3).f1).toList == ((rd_T31 l0 x70_2).f0).toList) = true := beq_iff_eq.mpr c66
                have c66b1 : (((rd_T31 l0 x78_3).f1).toList != ((rd_T31 l0 x70_2).f0).toList) = false := bne_eq_false_iff_eq.mpr c66
                clear c66
                by_cases c67 : x14012_3.length < 5864062014805
                ·rw [if_pos c67] at H
                 have LMc67 := Aside0.mk c67
                 clear c67
                 obtain ⟨y16, hy16⟩ : ∃ y_ : List (S27), y_ = (x14012_3 ++ [(⟨(rd_T31 l0 x78_3).f4.f0, (rd_T31 l0 x78_3).f4.f1, (rd_T31 l0 x78_3).f4.f2⟩ : S27)]) := ⟨_, rfl⟩
                 replace H : (tree_Right.l2 k3 l0 l0 (l0.length : Int) x70_2 l0 (l0.length : Int) (wrap64 (x78_3 + 1)) ((rd_T31 l0 x70_2).f0) ((rd_T31 l0 x70_2).f1) ((rd_T31 l0 x70_2).f2.f0) ((rd_T31 l0 x70_2).f2.f1) ((rd_T31 l0 x70_2).f2.f2) ((rd_T31 l0 x70_2).f3.f0) ((rd_T31 l0 x70_2).f3.f1) ((rd_T31 l0 x70_2).f3.f2) ((rd_T31 l0 x70_2).f4.f0) ((rd_T31 l0 x70_2).f4.f1) ((rd_T31 l0 x70_2).f4.f2) ((rd_T31 l0 x70_2).f5) ((rd_T31 l0 x70_2).f0) ((rd_T31 l0 x70_2).f1) ((rd_T31 l0 x70_2).f2.f0) ((rd_T31 l0 x70_2).f2.f1) ((rd_T31 l0 x70_2).f2.f2) ((rd_T31 l0 x70_2).f3.f0) ((rd_T31 l0 x70_2).f3.f1) ((rd_T31 l0 x70_2).f3.f2) ((rd_T31 l0 x70_2).f4.f0) ((rd_T31 l0 x70_2).f4.f1) ((rd_T31 l0 x70_2).f4.f2) ((rd_T31 l0 x70_2).f5) y16) = some r := by first|(rw [hy16];with_reducible exact H)|(have H2_ := (Option.bind_some _ _).symm.trans H;rw [hy16];with_reducible exact H2_)|(have H2_ := (Option.bind_some _ _).symm.trans H;with_reducible exact H2_)|with_reducible exact H|(rw [hy16];exact H)|exact H
                 have Ny16 := Aside0.mk hy16
                 clear hy16
                 have H' := Aside0.mk H
                 clear H
                 have p14 : 0 ≤ (x78_3 : Int) := of_decide_eq_true (by first|(with_reducible assumption)|assumption)
                 have q14 : x78_3 < (l0.length : Int) := of_decide_eq_true (by first|(with_reducible assumption)|assumption)
                 obtain ⟨ad14, e14, hx14_0, hx14_1, hx14_2, hx14_3, hx14_4, hx14_5, hx14_6, hx14_7, hx14_8, hx14_9, hx14_10, hx14_11⟩ := at_T31 HR0.out x78_3 p14 q14
                 obtain rfl : ad11 = ad14 := (by injection e14)
                 replace hx14_0 := (HB.out.cell (World.block_lt_of_cell? w _ hx14_0)).trans hx14_0
                 replace hx14_1 := (HB.out.cell (World.block_lt_of_cell? w _ hx14_1)).trans hx14_1
                 replace hx14_2 := (HB.out.cell (World.block_lt_of_cell? w _ hx14_2)).trans hx14_2
                 replace hx14_3 := (HB.out.cell (World.block_lt_of_cell? w _ hx14_3)).trans hx14_3
                 replace hx14_4 := (HB.out.cell (World.block_lt_of_cell? w _ hx14_4)).trans hx14_4
                 replace hx14_5 := (HB.out.cell (World.block_lt_of_cell? w _ hx14_5)).trans hx14_5
                 replace hx14_6 := (HB.out.cell (World.block_lt_of_cell? w _ hx14_6)).trans hx14_6
                 replace hx14_7 := (HB.out.cell (World.block_lt_of_cell? w _ hx14_7)).trans hx14_7
                 replace hx14_8 := (HB.out.cell (World.block_lt_of_cell? w _ hx14_8)).trans hx14_8
                 replace hx14_9 := (HB.out.cell (World.block_lt_of_cell? w _ hx14_9)).trans hx14_9
                 replace hx14_10 := (HB.out.cell (World.block_lt_of_cell? w _ hx14_10)).trans hx14_10
                 replace hx14_11 := (HB.out.cell (World.block_lt_of_cell? w _ hx14_11)).trans hx14_11
                 replace p14 := eq_true p14
                 replace q14 := eq_true q14
                 go_wp2_with (first|((with_reducible refine gate_dst (N := 10) rfl ?_);(try (refine gate_guard (by rfl) ?_;dsimp only));refine box_event ?hg (N := 10) ?hd (cs := #[.string (⟨#[]⟩ : ByteArray), .string (⟨#[]⟩ : ByteArray), .int .i64 0, .int .i64 0, .int .i64 0, .int .i64 0, .int .i64 0, .int .i64 0, .int .i64 0, .int .i64 0, .int .i64 0, .int .i64 0]) (t := 31) ?hr ?_;(case hd => rfl);(case hg => rfl);(case hr => first|(go_simp;done)|(go_simp;rfl));intro gb15 hg w68 hbox hb;have n0_ := Aside0.mk (Kd.R_below (by (with_reducible repeat (first|apply Kd.R_alloc|apply Kd.R_drewN|apply Kd.R_drew));exact HO_14012.out) hb);have n1_ := Aside0.mk (blk_below (g := gb12) (o := .cells #[.string ((rd_T31 l0 x70_2).f0), .string ((rd_T31 l0 x70_2).f1), .int .i64 ((rd_T31 l0 x70_2).f2.f0), .int .i64 ((rd_T31 l0 x70_2).f2.f1), .int .i64 ((rd_T31 l0 x70_2).f2.f2), .int .i64 ((rd_T31 l0 x70_2).f3.f0), .int .i64 ((rd_T31 l0 x70_2).f3.f1), .int .i64 ((rd_T31 l0 x70_2).f3.f2), .int .i64 ((rd_T31 l0 x70_2).f4.f0), .int .i64 ((rd_T31 l0 x70_2).f4.f1), .int .i64 ((rd_T31 l0 x70_2).f4.f2), .int .i64 ((rd_T31 l0 x70_2).f5)] 31 (0, 0)) (by (with_reducible repeat (first|refine blk_drewN ?_ _|refine blk_drew ?_|refine blk_alloc ?_ _));exact BK12.out) hb);have n2_ := Aside0.mk (blk_below (g := gb13) (o := .cells #[.string ((rd_T31 l0 x70_2).f0), .string ((rd_T31 l0 x70_2).f1), .int .i64 ((rd_T31 l0 x70_2).f2.f0), .int .i64 ((rd_T31 l0 x70_2).f2.f1), .int .i64 ((rd_T31 l0 x70_2).f2.f2), .int .i64 ((rd_T31 l0 x70_2).f3.f0), .int .i64 ((rd_T31 l0 x70_2).f3.f1), .int .i64 ((rd_T31 l0 x70_2).f3.f2), .int .i64 ((rd_T31 l0 x70_2).f4.f0), .int .i64 ((rd_T31 l0 x70_2).f4.f1), .int .i64 ((rd_T31 l0 x70_2).f4.f2), .int .i64 ((rd_T31 l0 x70_2).f5), u14012] 159 (0, 0)) (by (with_reducible repeat (first|refine blk_drewN ?_ _|refine blk_drew ?_|refine blk_alloc ?_ _));exact BK13.out) hb);have n3_ := Aside0.mk (below_step (by repeat (first|(with_reducible first|exact HB.out|apply below_alloc|apply pw_below_drewN|apply below_drew1|refine below_set ?_ GE12.out|refine below_set ?_ GE13.out)|exact HB.out)) hb);have n4_ := Aside0.mk (hbox);have n5_ := Aside0.mk ((by rw [hg];exact (below_size (by repeat (first|(with_reducible first|exact HB.out|apply below_alloc|apply pw_below_drewN|apply below_drew1|refine below_set ?_ GE12.out|refine below_set ?_ GE13.out)|exact HB.out))) : w.heap.size ≤ gb15));have n6_ := Aside0.mk ((by rw [hg];exact (below_size (by repeat (first|(with_reducible first|exact HB.out|apply below_alloc|apply pw_below_drewN|apply below_drew1|refine below_set ?_ GE12.out|refine below_set ?_ GE13.out)|exact HB.out))) : w.heap.size ≤ gb15));have n7_ := Aside0.mk ((by rw [hg];exact Nat.ne_of_lt (blk_lt (g := gb12) (o := .cells #[.string ((rd_T31 l0 x70_2).f0), .string ((rd_T31 l0 x70_2).f1), .int .i64 ((rd_T31 l0 x70_2).f2.f0), .int .i64 ((rd_T31 l0 x70_2).f2.f1), .int .i64 ((rd_T31 l0 x70_2).f2.f2), .int .i64 ((rd_T31 l0 x70_2).f3.f0), .int .i64 ((rd_T31 l0 x70_2).f3.f1), .int .i64 ((rd_T31 l0 x70_2).f3.f2), .int .i64 ((rd_T31 l0 x70_2).f4.f0), .int .i64 ((rd_T31 l0 x70_2).f4.f1), .int .i64 ((rd_T31 l0 x70_2).f4.f2), .int .i64 ((rd_T31 l0 x70_2).f5)] 31 (0, 0)) (by (with_reducible repeat (first|refine blk_drewN ?_ _|refine blk_drew ?_|refine blk_alloc ?_ _));exact BK12.out)) : gb12 ≠ gb15));have n8_ := Aside0.mk ((by rw [hg];exact Nat.ne_of_gt (blk_lt (g := gb12) (o := .cells #[.string ((rd_T31 l0 x70_2).f0), .string ((rd_T31 l0 x70_2).f1), .int .i64 ((rd_T31 l0 x70_2).f2.f0), .int .i64 ((rd_T31 l0 x70_2).f2.f1), .int .i64 ((rd_T31 l0 x70_2).f2.f2), .int .i64 ((rd_T31 l0 x70_2).f3.f0), .int .i64 ((rd_T31 l0 x70_2).f3.f1), .int .i64 ((rd_T31 l0 x70_2).f3.f2), .int .i64 ((rd_T31 l0 x70_2).f4.f0), .int .i64 ((rd_T31 l0 x70_2).f4.f1), .int .i64 ((rd_T31 l0 x70_2).f4.f2), .int .i64 ((rd_T31 l0 x70_2).f5)] 31 (0, 0)) (by (with_reducible repeat (first|refine blk_drewN ?_ _|refine blk_drew ?_|refine blk_alloc ?_ _));exact BK12.out)) : gb15 ≠ gb12));have n9_ := Aside0.mk ((by rw [hg];exact Nat.ne_of_lt (blk_lt (g := gb13) (o := .cells #[.string ((rd_T31 l0 x70_2).f0), .string ((rd_T31 l0 x70_2).f1), .int .i64 ((rd_T31 l0 x70_2).f2.f0), .int .i64 ((rd_T31 l0 x70_2).f2.f1), .int .i64 ((rd_T31 l0 x70_2).f2.f2), .int .i64 ((rd_T31 l0 x70_2).f3.f0), .int .i64 ((rd_T31 l0 x70_2).f3.f1), .int .i64 ((rd_T31 l0 x70_2).f3.f2), .int .i64 ((rd_T31 l0 x70_2).f4.f0), .int .i64 ((rd_T31 l0 x70_2).f4.f1), .int .i64 ((rd_T31 l0 x70_2).f4.f2), .int .i64 ((rd_T31 l0 x70_2).f5), u14012] 159 (0, 0)) (by (with_reducible repeat (first|refine blk_drewN ?_ _|refine blk_drew ?_|refine blk_alloc ?_ _));exact BK13.out)) : gb13 ≠ gb15));have n10_ := Aside0.mk ((by rw [hg];exact Nat.ne_of_gt (blk_lt (g := gb13) (o := .cells #[.string ((rd_T31 l0 x70_2).f0), .string ((rd_T31 l0 x70_2).f1), .int .i64 ((rd_T31 l0 x70_2).f2.f0), .int .i64 ((rd_T31 l0 x70_2).f2.f1), .int .i64 ((rd_T31 l0 x70_2).f2.f2), .int .i64 ((rd_T31 l0 x70_2).f3.f0), .int .i64 ((rd_T31 l0 x70_2).f3.f1), .int .i64 ((rd_T31 l0 x70_2).f3.f2), .int .i64 ((rd_T31 l0 x70_2).f4.f0), .int .i64 ((rd_T31 l0 x70_2).f4.f1), .int .i64 ((rd_T31 l0 x70_2).f4.f2), .int .i64 ((rd_T31 l0 x70_2).f5), u14012] 159 (0, 0)) (by (with_reducible repeat (first|refine blk_drewN ?_ _|refine blk_drew ?_|refine blk_alloc ?_ _));exact BK13.out)) : gb15 ≠ gb13));clear HO_14012;clear BK12;clear BK13;clear HB;have HO_14012 := n0_;have BK12 := n1_;have BK13 := n2_;have HB := n3_;have BK15 := n4_;have GW15 := n5_;have GE15 := n6_;have NB12_15 := n7_;have NB15_12 := n8_;have NB13_15 := n9_;have NB15_13 := n10_;clear n0_ n1_ n2_ n3_ n4_ n5_ n6_ n7_ n8_ n9_ n10_;clear hb hbox hg;have hnb69 := NB15_12.out;have hnc69 := NB12_15.out;have hnb70 := NB15_13.out;have hnc70 := NB13_15.out;have hcz71_0 : w68.cell? ⟨gb15, 0, none⟩ = some (.string (⟨#[]⟩ : ByteArray)) := (blk_cell BK15.out 0).trans rfl;have hcz71_1 : w68.cell? ⟨gb15, 1, none⟩ = some (.string (⟨#[]⟩ : ByteArray)) := (blk_cell BK15.out 1).trans rfl;have hcz71_2 : w68.cell? ⟨gb15, 2, none⟩ = some (.int .i64 0) := (blk_cell BK15.out 2).trans rfl;have hcz71_3 : w68.cell? ⟨gb15, 3, none⟩ = some (.int .i64 0) := (blk_cell BK15.out 3).trans rfl;have hcz71_4 : w68.cell? ⟨gb15, 4, none⟩ = some (.int .i64 0) := (blk_cell BK15.out 4).trans rfl;have hcz71_5 : w68.cell? ⟨gb15, 5, none⟩ = some (.int .i64 0) := (blk_cell BK15.out 5).trans rfl;have hcz71_6 : w68.cell? ⟨gb15, 6, none⟩ = some (.int .i64 0) := (blk_cell BK15.out 6).trans rfl;have hcz71_7 : w68.cell? ⟨gb15, 7, none⟩ = some (.int .i64 0) := (blk_cell BK15.out 7).trans rfl;have hcz71_8 : w68.cell? ⟨gb15, 8, none⟩ = some (.int .i64 0) := (blk_cell BK15.out 8).trans rfl;have hcz71_9 : w68.cell? ⟨gb15, 9, none⟩ = some (.int .i64 0) := (blk_cell BK15.out 9).trans rfl;have hcz71_10 : w68.cell? ⟨gb15, 10, none⟩ = some (.int .i64 0) := (blk_cell BK15.out 10).trans rfl;have hcz71_11 : w68.cell? ⟨gb15, 11, none⟩ = some (.int .i64 0) := (blk_cell BK15.out 11).trans rfl;have hfz71_0 := blk_frozen BK15.out 0;have hfz71_1 := blk_frozen BK15.out 1;have hfz71_2 := blk_frozen BK15.out 2;have hfz71_3 := blk_frozen BK15.out 3;have hfz71_4 := blk_frozen BK15.out 4;have hfz71_5 := blk_frozen BK15.out 5;have hfz71_6 := blk_frozen BK15.out 6;have hfz71_7 := blk_frozen BK15.out 7;have hfz71_8 := blk_frozen BK15.out 8;have hfz71_9 := blk_frozen BK15.out 9;have hfz71_10 := blk_frozen BK15.out 10;have hfz71_11 := blk_frozen BK15.out 11;have hnb72 := NB12_13.out;have hnc72 := NB13_12.out;have hcz73_0 : w68.cell? ⟨gb12, 0, none⟩ = some (.string ((rd_T31 l0 x70_2).f0)) := (blk_cell BK12.out 0).trans rfl;have hcz73_1 : w68.cell? ⟨gb12, 1, none⟩ = some (.string ((rd_T31 l0 x70_2).f1)) := (blk_cell BK12.out 1).trans rfl;have hcz73_2 : w68.cell? ⟨gb12, 2, none⟩ = some (.int .i64 ((rd_T31 l0 x70_2).f2.f0)) := (blk_cell BK12.out 2).trans rfl;have hcz73_3 : w68.cell? ⟨gb12, 3, none⟩ = some (.int .i64 ((rd_T31 l0 x70_2).f2.f1)) := (blk_cell BK12.out 3).trans rfl;have hcz73_4 : w68.cell? ⟨gb12, 4, none⟩ = some (.int .i64 ((rd_T31 l0 x70_2).f2.f2)) := (blk_cell BK12.out 4).trans rfl;have hcz73_5 : w68.cell? ⟨gb12, 5, none⟩ = some (.int .i64 ((rd_T31 l0 x70_2).f3.f0)) := (blk_cell BK12.out 5).trans rfl;have hcz73_6 : w68.cell? ⟨gb12, 6, none⟩ = some (.int .i64 ((rd_T31 l0 x70_2).f3.f1)) := (blk_cell BK12.out 6).trans rfl;have hcz73_7 : w68.cell? ⟨gb12, 7, none⟩ = some (.int .i64 ((rd_T31 l0 x70_2).f3.f2)) := (blk_cell BK12.out 7).trans rfl;have hcz73_8 : w68.cell? ⟨gb12, 8, none⟩ = some (.int .i64 ((rd_T31 l0 x70_2).f4.f0)) := (blk_cell BK12.out 8).trans rfl;have hcz73_9 : w68.cell? ⟨gb12, 9, none⟩ = some (.int .i64 ((rd_T31 l0 x70_2).f4.f1)) := (blk_cell BK12.out 9).trans rfl;have hcz73_10 : w68.cell? ⟨gb12, 10, none⟩ = some (.int .i64 ((rd_T31 l0 x70_2).f4.f2)) := (blk_cell BK12.out 10).trans rfl;have hcz73_11 : w68.cell? ⟨gb12, 11, none⟩ = some (.int .i64 ((rd_T31 l0 x70_2).f5)) := (blk_cell BK12.out 11).trans rfl;have hfz73_0 := blk_frozen BK12.out 0;have hfz73_1 := blk_frozen BK12.out 1;have hfz73_2 := blk_frozen BK12.out 2;have hfz73_3 := blk_frozen BK12.out 3;have hfz73_4 := blk_frozen BK12.out 4;have hfz73_5 := blk_frozen BK12.out 5;have hfz73_6 := blk_frozen BK12.out 6;have hfz73_7 := blk_frozen BK12.out 7;have hfz73_8 := blk_frozen BK12.out 8;have hfz73_9 := blk_frozen BK12.out 9;have hfz73_10 := blk_frozen BK12.out 10;have hfz73_11 := blk_frozen BK12.out 11;have hcz74_0 : w68.cell? ⟨gb13, 0, none⟩ = some (.string ((rd_T31 l0 x70_2).f0)) := (blk_cell BK13.out 0).trans rfl;have hcz74_1 : w68.cell? ⟨gb13, 1, none⟩ = some (.string ((rd_T31 l0 x70_2).f1)) := (blk_cell BK13.out 1).trans rfl;have hcz74_2 : w68.cell? ⟨gb13, 2, none⟩ = some (.int .i64 ((rd_T31 l0 x70_2).f2.f0)) := (blk_cell BK13.out 2).trans rfl;have hcz74_3 : w68.cell? ⟨gb13, 3, none⟩ = some (.int .i64 ((rd_T31 l0 x70_2).f2.f1)) := (blk_cell BK13.out 3).trans rfl;have hcz74_4 : w68.cell? ⟨gb13, 4, none⟩ = some (.int .i64 ((rd_T31 l0 x70_2).f2.f2)) := (blk_cell BK13.out 4).trans rfl;have hcz74_5 : w68.cell? ⟨gb13, 5, none⟩ = some (.int .i64 ((rd_T31 l0 x70_2).f3.f0)) := (blk_cell BK13.out 5).trans rfl;have hcz74_6 : w68.cell? ⟨gb13, 6, none⟩ = some (.int .i64 ((rd_T31 l0 x70_2).f3.f1)) := (blk_cell BK13.out 6).trans rfl;have hcz74_7 : w68.cell? ⟨gb13, 7, none⟩ = some (.int .i64 ((rd_T31 l0 x70_2).f3.f2)) := (blk_cell BK13.out 7).trans rfl;have hcz74_8 : w68.cell? ⟨gb13, 8, none⟩ = some (.int .i64 ((rd_T31 l0 x70_2).f4.f0)) := (blk_cell BK13.out 8).trans rfl;have hcz74_9 : w68.cell? ⟨gb13, 9, none⟩ = some (.int .i64 ((rd_T31 l0 x70_2).f4.f1)) := (blk_cell BK13.out 9).trans rfl;have hcz74_10 : w68.cell? ⟨gb13, 10, none⟩ = some (.int .i64 ((rd_T31 l0 x70_2).f4.f2)) := (blk_cell BK13.out 10).trans rfl;have hcz74_11 : w68.cell? ⟨gb13, 11, none⟩ = some (.int .i64 ((rd_T31 l0 x70_2).f5)) := (blk_cell BK13.out 11).trans rfl;have hcz74_12 : w68.cell? ⟨gb13, 12, none⟩ = some (u14012) := (blk_cell BK13.out 12).trans rfl;have hfz74_0 := blk_frozen BK13.out 0;have hfz74_1 := blk_frozen BK13.out 1;have hfz74_2 := blk_frozen BK13.out 2;have hfz74_3 := blk_frozen BK13.out 3;have hfz74_4 := blk_frozen BK13.out 4;have hfz74_5 := blk_frozen BK13.out 5;have hfz74_6 := blk_frozen BK13.out 6;have hfz74_7 := blk_frozen BK13.out 7;have hfz74_8 := blk_frozen BK13.out 8;have hfz74_9 := blk_frozen BK13.out 9;have hfz74_10 := blk_frozen BK13.out 10;have hfz74_11 := blk_frozen BK13.out 11;have hfz74_12 := blk_frozen BK13.out 12)|((with_reducible refine gate_builtin (b := .append) (xs := #[.tmp 88, .tmp 91]) rfl ?_);(try (refine gate_guard (by rfl) ?_;dsimp only));at_builtin;refine Kd.R_append k27 (w0 := w) w.heap.size rfl (.tmp 88) (.tmp 91) 157 27 (.agg #[(.int .i64 0), (.int .i64 0), (.int .i64 0)]) 24 rfl Try.underlying157 info27 rfl (by decide) (by omega) u14012 x14012_3 (⟨(rd_T31 l0 x78_3).f4.f0, (rd_T31 l0 x78_3).f4.f1, (rd_T31 l0 x78_3).f4.f2⟩ : S27) [.int .i64 ((rd_T31 l0 x78_3).f4.f0), .int .i64 ((rd_T31 l0 x78_3).f4.f1), .int .i64 ((rd_T31 l0 x78_3).f4.f2)] (fun _ => True) (fun _ => False) rfl (by first|(go_simp;done)|(go_simp;rfl)) ?aP (fun _ hk => hk.elim) ?aF ?aO ?aB ?aS ?aL ?_;(case aP => exact k27_mkM _ _ _ (⟨(rd_T31 l0 x78_3).f4.f0, (rd_T31 l0 x78_3).f4.f1, (rd_T31 l0 x78_3).f4.f2⟩ : S27));(case aB => exact (by repeat (first|(with_reducible first|exact HB.out|apply below_alloc|apply pw_below_drewN|apply below_drew1|refine below_set ?_ GE12.out|refine below_set ?_ GE13.out|refine below_set ?_ GE15.out)|exact HB.out)));(case aF => exact (fun _ _ => trivial));(case aO => exact (by (with_reducible repeat (first|apply Kd.R_alloc|apply Kd.R_drewN|apply Kd.R_drew));exact Kd.R_mono (Kd.R_far (p := ⟨gb15, 11, none⟩) (Kd.R_far (p := ⟨gb15, 10, none⟩) (Kd.R_far (p := ⟨gb15, 9, none⟩) (Kd.R_far (p := ⟨gb15, 8, none⟩) (Kd.R_far (p := ⟨gb15, 7, none⟩) (Kd.R_far (p := ⟨gb15, 6, none⟩) (Kd.R_far (p := ⟨gb15, 5, none⟩) (Kd.R_far (p := ⟨gb15, 4, none⟩) (Kd.R_far (p := ⟨gb15, 3, none⟩) (Kd.R_far (p := ⟨gb15, 2, none⟩) (Kd.R_far (p := ⟨gb15, 1, none⟩) (Kd.R_far (p := ⟨gb15, 0, none⟩) (Kd.R_types HO_14012.out BK15.out (by decide)) (fun _ hk => hk.2) (.string ((rd_T31 l0 x78_3).f0))) (fun _ hk => hk.2) (.string ((rd_T31 l0 x78_3).f1))) (fun _ hk => hk.2) (.int .i64 ((rd_T31 l0 x78_3).f2.f0))) (fun _ hk => hk.2) (.int .i64 ((rd_T31 l0 x78_3).f2.f1))) (fun _ hk => hk.2) (.int .i64 ((rd_T31 l0 x78_3).f2.f2))) (fun _ hk => hk.2) (.int .i64 ((rd_T31 l0 x78_3).f3.f0))) (fun _ hk => hk.2) (.int .i64 ((rd_T31 l0 x78_3).f3.f1))) (fun _ hk => hk.2) (.int .i64 ((rd_T31 l0 x78_3).f3.f2))) (fun _ hk => hk.2) (.int .i64 ((rd_T31 l0 x78_3).f4.f0))) (fun _ hk => hk.2) (.int .i64 ((rd_T31 l0 x78_3).f4.f1))) (fun _ hk => hk.2) (.int .i64 ((rd_T31 l0 x78_3).f4.f2))) (fun _ hk => hk.2) (.int .i64 ((rd_T31 l0 x78_3).f5))) (fun _ hk => trivial)));(case aS => exact (below_size (by repeat (first|(with_reducible first|exact HB.out|apply below_alloc|apply pw_below_drewN|apply below_drew1|refine below_set ?_ GE12.out|refine below_set ?_ GE13.out|refine below_set ?_ GE15.out)|exact HB.out))));(case aL => have := LMc67.out;omega);intro v17 w75 ho hb hg hat;rw [← Ny16.out] at ho;have n0_ := Aside0.mk (blk_grown (g := gb12) (o := .cells #[.string ((rd_T31 l0 x70_2).f0), .string ((rd_T31 l0 x70_2).f1), .int .i64 ((rd_T31 l0 x70_2).f2.f0), .int .i64 ((rd_T31 l0 x70_2).f2.f1), .int .i64 ((rd_T31 l0 x70_2).f2.f2), .int .i64 ((rd_T31 l0 x70_2).f3.f0), .int .i64 ((rd_T31 l0 x70_2).f3.f1), .int .i64 ((rd_T31 l0 x70_2).f3.f2), .int .i64 ((rd_T31 l0 x70_2).f4.f0), .int .i64 ((rd_T31 l0 x70_2).f4.f1), .int .i64 ((rd_T31 l0 x70_2).f4.f2), .int .i64 ((rd_T31 l0 x70_2).f5)] 31 (0, 0)) (by (with_reducible repeat (first|refine blk_drewN ?_ _|refine blk_drew ?_|refine blk_alloc ?_ _));refine blk_far ?_ NB12_15.out _;(with_reducible repeat (first|refine blk_drewN ?_ _|refine blk_drew ?_|refine blk_alloc ?_ _));refine blk_far ?_ NB12_15.out _;(with_reducible repeat (first|refine blk_drewN ?_ _|refine blk_drew ?_|refine blk_alloc ?_ _));refine blk_far ?_ NB12_15.out _;(with_reducible repeat (first|refine blk_drewN ?_ _|refine blk_drew ?_|refine blk_alloc ?_ _));refine blk_far ?_ NB12_15.out _;(with_reducible repeat (first|refine blk_drewN ?_ _|refine blk_drew ?_|refine blk_alloc ?_ _));refine blk_far ?_ NB12_15.out _;(with_reducible repeat (first|refine blk_drewN ?_ _|refine blk_drew ?_|refine blk_alloc ?_ _));refine blk_far ?_ NB12_15.out _;(with_reducible repeat (first|refine blk_drewN ?_ _|refine blk_drew ?_|refine blk_alloc ?_ _));refine blk_far ?_ NB12_15.out _;(with_reducible repeat (first|refine blk_drewN ?_ _|refine blk_drew ?_|refine blk_alloc ?_ _));refine blk_far ?_ NB12_15.out _;(with_reducible repeat (first|refine blk_drewN ?_ _|refine blk_drew ?_|refine blk_alloc ?_ _));refine blk_far ?_ NB12_15.out _;(with_reducible repeat (first|refine blk_drewN ?_ _|refine blk_drew ?_|refine blk_alloc ?_ _));refine blk_far ?_ NB12_15.out _;(with_reducible repeat (first|refine blk_drewN ?_ _|refine blk_drew ?_|refine blk_alloc ?_ _));refine blk_far ?_ NB12_15.out _;(with_reducible repeat (first|refine blk_drewN ?_ _|refine blk_drew ?_|refine blk_alloc ?_ _));refine blk_far ?_ NB12_15.out _;(with_reducible repeat (first|refine blk_drewN ?_ _|refine blk_drew ?_|refine blk_alloc ?_ _));exact BK12.out) hg (Kd.R_ne HO_14012.out BK12.out (by decide)));have n1_ := Aside0.mk (blk_grown (g := gb13) (o := .cells #[.string ((rd_T31 l0 x70_2).f0), .string ((rd_T31 l0 x70_2).f1), .int .i64 ((rd_T31 l0 x70_2).f2.f0), .int .i64 ((rd_T31 l0 x70_2).f2.f1), .int .i64 ((rd_T31 l0 x70_2).f2.f2), .int .i64 ((rd_T31 l0 x70_2).f3.f0), .int .i64 ((rd_T31 l0 x70_2).f3.f1), .int .i64 ((rd_T31 l0 x70_2).f3.f2), .int .i64 ((rd_T31 l0 x70_2).f4.f0), .int .i64 ((rd_T31 l0 x70_2).f4.f1), .int .i64 ((rd_T31 l0 x70_2).f4.f2), .int .i64 ((rd_T31 l0 x70_2).f5), u14012] 159 (0, 0)) (by (with_reducible repeat (first|refine blk_drewN ?_ _|refine blk_drew ?_|refine blk_alloc ?_ _));refine blk_far ?_ NB13_15.out _;(with_reducible repeat (first|refine blk_drewN ?_ _|refine blk_drew ?_|refine blk_alloc ?_ _));refine blk_far ?_ NB13_15.out _;(with_reducible repeat (first|refine blk_drewN ?_ _|refine blk_drew ?_|refine blk_alloc ?_ _));refine blk_far ?_ NB13_15.out _;(with_reducible repeat (first|refine blk_drewN ?_ _|refine blk_drew ?_|refine blk_alloc ?_ _));refine blk_far ?_ NB13_15.out _;(with_reducible repeat (first|refine blk_drewN ?_ _|refine blk_drew ?_|refine blk_alloc ?_ _));refine blk_far ?_ NB13_15.out _;(with_reducible repeat (first|refine blk_drewN ?_ _|refine blk_drew ?_|refine blk_alloc ?_ _));refine blk_far ?_ NB13_15.out _;(with_reducible repeat (first|refine blk_drewN ?_ _|refine blk_drew ?_|refine blk_alloc ?_ _));refine blk_far ?_ NB13_15.out _;(with_reducible repeat (first|refine blk_drewN ?_ _|refine blk_drew ?_|refine blk_alloc ?_ _));refine blk_far ?_ NB13_15.out _;(with_reducible repeat (first|refine blk_drewN ?_ _|refine blk_drew ?_|refine blk_alloc ?_ _));refine blk_far ?_ NB13_15.out _;(with_reducible repeat (first|refine blk_drewN ?_ _|refine blk_drew ?_|refine blk_alloc ?_ _));refine blk_far ?_ NB13_15.out _;(with_reducible repeat (first|refine blk_drewN ?_ _|refine blk_drew ?_|refine blk_alloc ?_ _));refine blk_far ?_ NB13_15.out _;(with_reducible repeat (first|refine blk_drewN ?_ _|refine blk_drew ?_|refine blk_alloc ?_ _));refine blk_far ?_ NB13_15.out _;(with_reducible repeat (first|refine blk_drewN ?_ _|refine blk_drew ?_|refine blk_alloc ?_ _));exact BK13.out) hg (Kd.R_ne HO_14012.out BK13.out (by decide)));have n2_ := Aside0.mk (blk_grown (g := gb15) (o := .cells #[.string ((rd_T31 l0 x78_3).f0), .string ((rd_T31 l0 x78_3).f1), .int .i64 ((rd_T31 l0 x78_3).f2.f0), .int .i64 ((rd_T31 l0 x78_3).f2.f1), .int .i64 ((rd_T31 l0 x78_3).f2.f2), .int .i64 ((rd_T31 l0 x78_3).f3.f0), .int .i64 ((rd_T31 l0 x78_3).f3.f1), .int .i64 ((rd_T31 l0 x78_3).f3.f2), .int .i64 ((rd_T31 l0 x78_3).f4.f0), .int .i64 ((rd_T31 l0 x78_3).f4.f1), .int .i64 ((rd_T31 l0 x78_3).f4.f2), .int .i64 ((rd_T31 l0 x78_3).f5)] 31 (0, 0)) (by (with_reducible repeat (first|refine blk_drewN ?_ _|refine blk_drew ?_|refine blk_alloc ?_ _));refine blk_put (cs := #[.string ((rd_T31 l0 x78_3).f0), .string ((rd_T31 l0 x78_3).f1), .int .i64 ((rd_T31 l0 x78_3).f2.f0), .int .i64 ((rd_T31 l0 x78_3).f2.f1), .int .i64 ((rd_T31 l0 x78_3).f2.f2), .int .i64 ((rd_T31 l0 x78_3).f3.f0), .int .i64 ((rd_T31 l0 x78_3).f3.f1), .int .i64 ((rd_T31 l0 x78_3).f3.f2), .int .i64 ((rd_T31 l0 x78_3).f4.f0), .int .i64 ((rd_T31 l0 x78_3).f4.f1), .int .i64 ((rd_T31 l0 x78_3).f4.f2), .int .i64 0]) ?_ 11 _ rfl;(with_reducible repeat (first|refine blk_drewN ?_ _|refine blk_drew ?_|refine blk_alloc ?_ _));refine blk_put (cs := #[.string ((rd_T31 l0 x78_3).f0), .string ((rd_T31 l0 x78_3).f1), .int .i64 ((rd_T31 l0 x78_3).f2.f0), .int .i64 ((rd_T31 l0 x78_3).f2.f1), .int .i64 ((rd_T31 l0 x78_3).f2.f2), .int .i64 ((rd_T31 l0 x78_3).f3.f0), .int .i64 ((rd_T31 l0 x78_3).f3.f1), .int .i64 ((rd_T31 l0 x78_3).f3.f2), .int .i64 ((rd_T31 l0 x78_3).f4.f0), .int .i64 ((rd_T31 l0 x78_3).f4.f1), .int .i64 0, .int .i64 0]) ?_ 10 _ rfl;(with_reducible repeat (first|refine blk_drewN ?_ _|refine blk_drew ?_|refine blk_alloc ?_ _));refine blk_put (cs := #[.string ((rd_T31 l0 x78_3).f0), .string ((rd_T31 l0 x78_3).f1), .int .i64 ((rd_T31 l0 x78_3).f2.f0), .int .i64 ((rd_T31 l0 x78_3).f2.f1), .int .i64 ((rd_T31 l0 x78_3).f2.f2), .int .i64 ((rd_T31 l0 x78_3).f3.f0), .int .i64 ((rd_T31 l0 x78_3).f3.f1), .int .i64 ((rd_T31 l0 x78_3).f3.f2), .int .i64 ((rd_T31 l0 x78_3).f4.f0), .int .i64 0, .int .i64 0, .int .i64 0]) ?_ 9 _ rfl;(with_reducible repeat (first|refine blk_drewN ?_ _|refine blk_drew ?_|refine blk_alloc ?_ _));refine blk_put (cs := #[.string ((rd_T31 l0 x78_3).f0), .string ((rd_T31 l0 x78_3).f1), .int .i64 ((rd_T31 l0 x78_3).f2.f0), .int .i64 ((rd_T31 l0 x78_3).f2.f1), .int .i64 ((rd_T31 l0 x78_3).f2.f2), .int .i64 ((rd_T31 l0 x78_3).f3.f0), .int .i64 ((rd_T31 l0 x78_3).f3.f1), .int .i64 ((rd_T31 l0 x78_3).f3.f2), .int .i64 0, .int .i64 0, .int .i64 0, .int .i64 0]) ?_ 8 _ rfl;(with_reducible repeat (first|refine blk_drewN ?_ _|refine blk_drew ?_|refine blk_alloc ?_ _));refine blk_put (cs := #[.string ((rd_T31 l0 x78_3).f0), .string ((rd_T31 l0 x78_3).f1), .int .i64 ((rd_T31 l0 x78_3).f2.f0), .int .i64 ((rd_T31 l0 x78_3).f2.f1), .int .i64 ((rd_T31 l0 x78_3).f2.f2), .int .i64 ((rd_T31 l0 x78_3).f3.f0), .int .i64 ((rd_T31 l0 x78_3).f3.f1), .int .i64 0, .int .i64 0, .int .i64 0, .int .i64 0, .int .i64 0]) ?_ 7 _ rfl;(with_reducible repeat (first|refine blk_drewN ?_ _|refine blk_drew ?_|refine blk_alloc ?_ _));refine blk_put (cs := #[.string ((rd_T31 l0 x78_3).f0), .string ((rd_T31 l0 x78_3).f1), .int .i64 ((rd_T31 l0 x78_3).f2.f0), .int .i64 ((rd_T31 l0 x78_3).f2.f1), .int .i64 ((rd_T31 l0 x78_3).f2.f2), .int .i64 ((rd_T31 l0 x78_3).f3.f0), .int .i64 0, .int .i64 0, .int .i64 0, .int .i64 0, .int .i64 0, .int .i64 0]) ?_ 6 _ rfl;(with_reducible repeat (first|refine blk_drewN ?_ _|refine blk_drew ?_|refine blk_alloc ?_ _));refine blk_put (cs := #[.string ((rd_T31 l0 x78_3).f0), .string ((rd_T31 l0 x78_3).f1), .int .i64 ((rd_T31 l0 x78_3).f2.f0), .int .i64 ((rd_T31 l0 x78_3).f2.f1), .int .i64 ((rd_T31 l0 x78_3).f2.f2), .int .i64 0, .int .i64 0, .int .i64 0, .int .i64 0, .int .i64 0, .int .i64 0, .int .i64 0]) ?_ 5 _ rfl;(with_reducible repeat (first|refine blk_drewN ?_ _|refine blk_drew ?_|refine blk_alloc ?_ _));refine blk_put (cs := #[.string ((rd_T31 l0 x78_3).f0), .string ((rd_T31 l0 x78_3).f1), .int .i64 ((rd_T31 l0 x78_3).f2.f0), .int .i64 ((rd_T31 l0 x78_3).f2.f1), .int .i64 0, .int .i64 0, .int .i64 0, .int .i64 0, .int .i64 0, .int .i64 0, .int .i64 0, .int .i64 0]) ?_ 4 _ rfl;(with_reducible repeat (first|refine blk_drewN ?_ _|refine blk_drew ?_|refine blk_alloc ?_ _));refine blk_put (cs := #[.string ((rd_T31 l0 x78_3).f0), .string ((rd_T31 l0 x78_3).f1), .int .i64 ((rd_T31 l0 x78_3).f2.f0), .int .i64 0, .int .i64 0, .int .i64 0, .int .i64 0, .int .i64 0, .int .i64 0, .int .i64 0, .int .i64 0, .int .i64 0]) ?_ 3 _ rfl;(with_reducible repeat (first|refine blk_drewN ?_ _|refine blk_drew ?_|refine blk_alloc ?_ _));refine blk_put (cs := #[.string ((rd_T31 l0 x78_3).f0), .string ((rd_T31 l0 x78_3).f1), .int .i64 0, .int .i64 0, .int .i64 0, .int .i64 0, .int .i64 0, .int .i64 0, .int .i64 0, .int .i64 0, .int .i64 0, .int .i64 0]) ?_ 2 _ rfl;(with_reducible repeat (first|refine blk_drewN ?_ _|refine blk_drew ?_|refine blk_alloc ?_ _));refine blk_put (cs := #[.string ((rd_T31 l0 x78_3).f0), .string (⟨#[]⟩ : ByteArray), .int .i64 0, .int .i64 0, .int .i64 0, .int .i64 0, .int .i64 0, .int .i64 0, .int .i64 0, .int .i64 0, .int .i64 0, .int .i64 0]) ?_ 1 _ rfl;(with_reducible repeat (first|refine blk_drewN ?_ _|refine blk_drew ?_|refine blk_alloc ?_ _));refine blk_put (cs := #[.string (⟨#[]⟩ : ByteArray), .string (⟨#[]⟩ : ByteArray), .int .i64 0, .int .i64 0, .int .i64 0, .int .i64 0, .int .i64 0, .int .i64 0, .int .i64 0, .int .i64 0, .int .i64 0, .int .i64 0]) ?_ 0 _ rfl;(with_reducible repeat (first|refine blk_drewN ?_ _|refine blk_drew ?_|refine blk_alloc ?_ _));exact BK15.out) hg (Kd.R_ne HO_14012.out BK15.out (by decide)));have n3_ := Aside0.mk (hb);have n4_ := Aside0.mk (ho);clear BK12;clear BK13;clear BK15;clear HB;clear HO_14012;have BK12 := n0_;have BK13 := n1_;have BK15 := n2_;have HB := n3_;have HO18 := n4_;clear n0_ n1_ n2_ n3_ n4_;clear ho hb hg hat;obtain ⟨Ao76, co76, eo76⟩ := Kd.R_slice HO18.out;subst eo76;have hcz77_0 : w75.cell? ⟨gb13, 0, none⟩ = some (.string ((rd_T31 l0 x70_2).f0)) := (blk_cell BK13.out 0).trans rfl;have hcz77_1 : w75.cell? ⟨gb13, 1, none⟩ = some (.string ((rd_T31 l0 x70_2).f1)) := (blk_cell BK13.out 1).trans rfl;have hcz77_2 : w75.cell? ⟨gb13, 2, none⟩ = some (.int .i64 ((rd_T31 l0 x70_2).f2.f0)) := (blk_cell BK13.out 2).trans rfl;have hcz77_3 : w75.cell? ⟨gb13, 3, none⟩ = some (.int .i64 ((rd_T31 l0 x70_2).f2.f1)) := (blk_cell BK13.out 3).trans rfl;have hcz77_4 : w75.cell? ⟨gb13, 4, none⟩ = some (.int .i64 ((rd_T31 l0 x70_2).f2.f2)) := (blk_cell BK13.out 4).trans rfl;have hcz77_5 : w75.cell? ⟨gb13, 5, none⟩ = some (.int .i64 ((rd_T31 l0 x70_2).f3.f0)) := (blk_cell BK13.out 5).trans rfl;have hcz77_6 : w75.cell? ⟨gb13, 6, none⟩ = some (.int .i64 ((rd_T31 l0 x70_2).f3.f1)) := (blk_cell BK13.out 6).trans rfl;have hcz77_7 : w75.cell? ⟨gb13, 7, none⟩ = some (.int .i64 ((rd_T31 l0 x70_2).f3.f2)) := (blk_cell BK13.out 7).trans rfl;have hcz77_8 : w75.cell? ⟨gb13, 8, none⟩ = some (.int .i64 ((rd_T31 l0 x70_2).f4.f0)) := (blk_cell BK13.out 8).trans rfl;have hcz77_9 : w75.cell? ⟨gb13, 9, none⟩ = some (.int .i64 ((rd_T31 l0 x70_2).f4.f1)) := (blk_cell BK13.out 9).trans rfl;have hcz77_10 : w75.cell? ⟨gb13, 10, none⟩ = some (.int .i64 ((rd_T31 l0 x70_2).f4.f2)) := (blk_cell BK13.out 10).trans rfl;have hcz77_11 : w75.cell? ⟨gb13, 11, none⟩ = some (.int .i64 ((rd_T31 l0 x70_2).f5)) := (blk_cell BK13.out 11).trans rfl;have hcz77_12 : w75.cell? ⟨gb13, 12, none⟩ = some (u14012) := (blk_cell BK13.out 12).trans rfl;have hfz77_0 := blk_frozen BK13.out 0;have hfz77_1 := blk_frozen BK13.out 1;have hfz77_2 := blk_frozen BK13.out 2;have hfz77_3 := blk_frozen BK13.out 3;have hfz77_4 := blk_frozen BK13.out 4;have hfz77_5 := blk_frozen BK13.out 5;have hfz77_6 := blk_frozen BK13.out 6;have hfz77_7 := blk_frozen BK13.out 7;have hfz77_8 := blk_frozen BK13.out 8;have hfz77_9 := blk_frozen BK13.out 9;have hfz77_10 := blk_frozen BK13.out 10;have hfz77_11 := blk_frozen BK13.out 11;have hfz77_12 := blk_frozen BK13.out 12))
                 go_roundg k3
                 case measure => have := HK1.out; have := HK2.out; have := HK3.out; omega
                 case rel => exact ⟨(wrap64 (x78_3 + 1)), (y16), (.slice Ao76 y16.length co76), (by first|rfl|(simp;done)|(simp [*];done)), H', ⟨by have := HK1.out;have := HK2.out;have := HK3.out;omega⟩, ⟨by (with_reducible repeat (first|apply Kd.R_alloc|apply Kd.R_drewN|apply Kd.R_drew));exact Kd.R_mono (Kd.R_far (p := ⟨gb13, 12, none⟩) (Kd.R_types HO18.out BK13.out (by decide)) (fun _ hk => hk.2) (.slice Ao76 y16.length co76)) (fun _ hk => trivial)⟩, ⟨by (with_reducible repeat (first|refine blk_drewN ?_ _|refine blk_drew ?_|refine blk_alloc ?_ _));refine blk_far ?_ NB12_13.out _;(with_reducible repeat (first|refine blk_drewN ?_ _|refine blk_drew ?_|refine blk_alloc ?_ _));exact BK12.out⟩, ⟨by (with_reducible repeat (first|refine blk_drewN ?_ _|refine blk_drew ?_|refine blk_alloc ?_ _));refine blk_put (cs := #[.string ((rd_T31 l0 x70_2).f0), .string ((rd_T31 l0 x70_2).f1), .int .i64 ((rd_T31 l0 x70_2).f2.f0), .int .i64 ((rd_T31 l0 x70_2).f2.f1), .int .i64 ((rd_T31 l0 x70_2).f2.f2), .int .i64 ((rd_T31 l0 x70_2).f3.f0), .int .i64 ((rd_T31 l0 x70_2).f3.f1), .int .i64 ((rd_T31 l0 x70_2).f3.f2), .int .i64 ((rd_T31 l0 x70_2).f4.f0), .int .i64 ((rd_T31 l0 x70_2).f4.f1), .int .i64 ((rd_T31 l0 x70_2).f4.f2), .int .i64 ((rd_T31 l0 x70_2).f5), u14012]) ?_ 12 _ rfl;(with_reducible repeat (first|refine blk_drewN ?_ _|refine blk_drew ?_|refine blk_alloc ?_ _));exact BK13.out⟩, ⟨by repeat (first|(with_reducible first|exact HB.out|apply below_alloc|apply pw_below_drewN|apply below_drew1|refine below_set ?_ GE12.out|refine below_set ?_ GE13.out|refine below_set ?_ GE15.out)|exact HB.out)⟩⟩
                ·rw [if_neg c67] at H
                 exact absurd H (by simp)
               ·rw [if_neg c66] at H
                have c66b0 : (((rd_T31 l0 x78_3).f1).toList == ((rd_T31 l0 x70_2).f0).toList) = false := beq_eq_false_iff_ne.mpr c66
                have c66b1 : (((rd_T31 l0 x78_3).f1).toList != ((rd_T31 l0 x70_2).f0).toList) = true := bne_iff_ne.mpr c66
                have H' := Aside0.mk H
                clear H
                have p14 : 0 ≤ (x78_3 : Int) := of_decide_eq_true (by first|(with_reducible assumption)|assumption)
                have q14 : x78_3 < (l0.length : Int) := of_decide_eq_true (by first|(with_reducible assumption)|assumption)
                obtain ⟨ad14, e14, hx14_0, hx14_1, hx14_2, hx14_3, hx14_4, hx14_5, hx14_6, hx14_7, hx14_8, hx14_9, hx14_10, hx14_11⟩ := at_T31 HR0.out x78_3 p14 q14
                obtain rfl : ad11 = ad14 := (by injection e14)
                replace hx14_0 := (HB.out.cell (World.block_lt_of_cell? w _ hx14_0)).trans hx14_0
                replace hx14_1 := (HB.out.cell (World.block_lt_of_cell? w _ hx14_1)).trans hx14_1
                replace hx14_2 := (HB.out.cell (World.block_lt_of_cell? w _ hx14_2)).trans hx14_2
                replace hx14_3 := (HB.out.cell (World.block_lt_of_cell? w _ hx14_3)).trans hx14_3
                replace hx14_4 := (HB.out.cell (World.block_lt_of_cell? w _ hx14_4)).trans hx14_4
                replace hx14_5 := (HB.out.cell (World.block_lt_of_cell? w _ hx14_5)).trans hx14_5
                replace hx14_6 := (HB.out.cell (World.block_lt_of_cell? w _ hx14_6)).trans hx14_6
                replace hx14_7 := (HB.out.cell (World.block_lt_of_cell? w _ hx14_7)).trans hx14_7
                replace hx14_8 := (HB.out.cell (World.block_lt_of_cell? w _ hx14_8)).trans hx14_8
                replace hx14_9 := (HB.out.cell (World.block_lt_of_cell? w _ hx14_9)).trans hx14_9
                replace hx14_10 := (HB.out.cell (World.block_lt_of_cell? w _ hx14_10)).trans hx14_10
                replace hx14_11 := (HB.out.cell (World.block_lt_of_cell? w _ hx14_11)).trans hx14_11
                replace p14 := eq_true p14
                replace q14 := eq_true q14
                go_wp2_with (first|((with_reducible refine gate_dst (N := 10) rfl ?_);(try (refine gate_guard (by rfl) ?_;dsimp only));refine box_event ?hg (N := 10) ?hd (cs := #[.string (⟨#[]⟩ : ByteArray), .string (⟨#[]⟩ : ByteArray), .int .i64 0, .int .i64 0, .int .i64 0, .int .i64 0, .int .i64 0, .int .i64 0, .int .i64 0, .int .i64 0, .int .i64 0, .int .i64 0]) (t := 31) ?hr ?_;(case hd => rfl);(case hg => rfl);(case hr => first|(go_simp;done)|(go_simp;rfl));intro gb15 hg w78 hbox hb;have n0_ := Aside0.mk (Kd.R_below (by (with_reducible repeat (first|apply Kd.R_alloc|apply Kd.R_drewN|apply Kd.R_drew));exact HO_14012.out) hb);have n1_ := Aside0.mk (blk_below (g := gb12) (o := .cells #[.string ((rd_T31 l0 x70_2).f0), .string ((rd_T31 l0 x70_2).f1), .int .i64 ((rd_T31 l0 x70_2).f2.f0), .int .i64 ((rd_T31 l0 x70_2).f2.f1), .int .i64 ((rd_T31 l0 x70_2).f2.f2), .int .i64 ((rd_T31 l0 x70_2).f3.f0), .int .i64 ((rd_T31 l0 x70_2).f3.f1), .int .i64 ((rd_T31 l0 x70_2).f3.f2), .int .i64 ((rd_T31 l0 x70_2).f4.f0), .int .i64 ((rd_T31 l0 x70_2).f4.f1), .int .i64 ((rd_T31 l0 x70_2).f4.f2), .int .i64 ((rd_T31 l0 x70_2).f5)] 31 (0, 0)) (by (with_reducible repeat (first|refine blk_drewN ?_ _|refine blk_drew ?_|refine blk_alloc ?_ _));exact BK12.out) hb);have n2_ := Aside0.mk (blk_below (g := gb13) (o := .cells #[.string ((rd_T31 l0 x70_2).f0), .string ((rd_T31 l0 x70_2).f1), .int .i64 ((rd_T31 l0 x70_2).f2.f0), .int .i64 ((rd_T31 l0 x70_2).f2.f1), .int .i64 ((rd_T31 l0 x70_2).f2.f2), .int .i64 ((rd_T31 l0 x70_2).f3.f0), .int .i64 ((rd_T31 l0 x70_2).f3.f1), .int .i64 ((rd_T31 l0 x70_2).f3.f2), .int .i64 ((rd_T31 l0 x70_2).f4.f0), .int .i64 ((rd_T31 l0 x70_2).f4.f1), .int .i64 ((rd_T31 l0 x70_2).f4.f2), .int .i64 ((rd_T31 l0 x70_2).f5), u14012] 159 (0, 0)) (by (with_reducible repeat (first|refine blk_drewN ?_ _|refine blk_drew ?_|refine blk_alloc ?_ _));exact BK13.out) hb);have n3_ := Aside0.mk (below_step (by repeat (first|(with_reducible first|exact HB.out|apply below_alloc|apply pw_below_drewN|apply below_drew1|refine below_set ?_ GE12.out|refine below_set ?_ GE13.out)|exact HB.out)) hb);have n4_ := Aside0.mk (hbox);have n5_ := Aside0.mk ((by rw [hg];exact (below_size (by repeat (first|(with_reducible first|exact HB.out|apply below_alloc|apply pw_below_drewN|apply below_drew1|refine below_set ?_ GE12.out|refine below_set ?_ GE13.out)|exact HB.out))) : w.heap.size ≤ gb15));have n6_ := Aside0.mk ((by rw [hg];exact (below_size (by repeat (first|(with_reducible first|exact HB.out|apply below_alloc|apply pw_below_drewN|apply below_drew1|refine below_set ?_ GE12.out|refine below_set ?_ GE13.out)|exact HB.out))) : w.heap.size ≤ gb15));have n7_ := Aside0.mk ((by rw [hg];exact Nat.ne_of_lt (blk_lt (g := gb12) (o := .cells #[.string ((rd_T31 l0 x70_2).f0), .string ((rd_T31 l0 x70_2).f1), .int .i64 ((rd_T31 l0 x70_2).f2.f0), .int .i64 ((rd_T31 l0 x70_2).f2.f1), .int .i64 ((rd_T31 l0 x70_2).f2.f2), .int .i64 ((rd_T31 l0 x70_2).f3.f0), .int .i64 ((rd_T31 l0 x70_2).f3.f1), .int .i64 ((rd_T31 l0 x70_2).f3.f2), .int .i64 ((rd_T31 l0 x70_2).f4.f0), .int .i64 ((rd_T31 l0 x70_2).f4.f1), .int .i64 ((rd_T31 l0 x70_2).f4.f2), .int .i64 ((rd_T31 l0 x70_2).f5)] 31 (0, 0)) (by (with_reducible repeat (first|refine blk_drewN ?_ _|refine blk_drew ?_|refine blk_alloc ?_ _));exact BK12.out)) : gb12 ≠ gb15));have n8_ := Aside0.mk ((by rw [hg];exact Nat.ne_of_gt (blk_lt (g := gb12) (o := .cells #[.string ((rd_T31 l0 x70_2).f0), .string ((rd_T31 l0 x70_2).f1), .int .i64 ((rd_T31 l0 x70_2).f2.f0), .int .i64 ((rd_T31 l0 x70_2).f2.f1), .int .i64 ((rd_T31 l0 x70_2).f2.f2), .int .i64 ((rd_T31 l0 x70_2).f3.f0), .int .i64 ((rd_T31 l0 x70_2).f3.f1), .int .i64 ((rd_T31 l0 x70_2).f3.f2), .int .i64 ((rd_T31 l0 x70_2).f4.f0), .int .i64 ((rd_T31 l0 x70_2).f4.f1), .int .i64 ((rd_T31 l0 x70_2).f4.f2), .int .i64 ((rd_T31 l0 x70_2).f5)] 31 (0, 0)) (by (with_reducible repeat (first|refine blk_drewN ?_ _|refine blk_drew ?_|refine blk_alloc ?_ _));exact BK12.out)) : gb15 ≠ gb12));have n9_ := Aside0.mk ((by rw [hg];exact Nat.ne_of_lt (blk_lt (g := gb13) (o := .cells #[.string ((rd_T31 l0 x70_2).f0), .string ((rd_T31 l0 x70_2).f1), .int .i64 ((rd_T31 l0 x70_2).f2.f0), .int .i64 ((rd_T31 l0 x70_2).f2.f1), .int .i64 ((rd_T31 l0 x70_2).f2.f2), .int .i64 ((rd_T31 l0 x70_2).f3.f0), .int .i64 ((rd_T31 l0 x70_2).f3.f1), .int .i64 ((rd_T31 l0 x70_2).f3.f2), .int .i64 ((rd_T31 l0 x70_2).f4.f0), .int .i64 ((rd_T31 l0 x70_2).f4.f1), .int .i64 ((rd_T31 l0 x70_2).f4.f2), .int .i64 ((rd_T31 l0 x70_2).f5), u14012] 159 (0, 0)) (by (with_reducible repeat (first|refine blk_drewN ?_ _|refine blk_drew ?_|refine blk_alloc ?_ _));exact BK13.out)) : gb13 ≠ gb15));have n10_ := Aside0.mk ((by rw [hg];exact Nat.ne_of_gt (blk_lt (g := gb13) (o := .cells #[.string ((rd_T31 l0 x70_2).f0), .string ((rd_T31 l0 x70_2).f1), .int .i64 ((rd_T31 l0 x70_2).f2.f0), .int .i64 ((rd_T31 l0 x70_2).f2.f1), .int .i64 ((rd_T31 l0 x70_2).f2.f2), .int .i64 ((rd_T31 l0 x70_2).f3.f0), .int .i64 ((rd_T31 l0 x70_2).f3.f1), .int .i64 ((rd_T31 l0 x70_2).f3.f2), .int .i64 ((rd_T31 l0 x70_2).f4.f0), .int .i64 ((rd_T31 l0 x70_2).f4.f1), .int .i64 ((rd_T31 l0 x70_2).f4.f2), .int .i64 ((rd_T31 l0 x70_2).f5), u14012] 159 (0, 0)) (by (with_reducible repeat (first|refine blk_drewN ?_ _|refine blk_drew ?_|refine blk_alloc ?_ _));exact BK13.out)) : gb15 ≠ gb13));clear HO_14012;clear BK12;clear BK13;clear HB;have HO_14012 := n0_;have BK12 := n1_;have BK13 := n2_;have HB := n3_;have BK15 := n4_;have GW15 := n5_;have GE15 := n6_;have NB12_15 := n7_;have NB15_12 := n8_;have NB13_15 := n9_;have NB15_13 := n10_;clear n0_ n1_ n2_ n3_ n4_ n5_ n6_ n7_ n8_ n9_ n10_;clear hb hbox hg;have hnb79 := NB15_12.out;have hnc79 := NB12_15.out;have hnb80 := NB15_13.out;have hnc80 := NB13_15.out;have hcz81_0 : w78.cell? ⟨gb15, 0, none⟩ = some (.string (⟨#[]⟩ : ByteArray)) := (blk_cell BK15.out 0).trans rfl;have hcz81_1 : w78.cell? ⟨gb15, 1, none⟩ = some (.string (⟨#[]⟩ : ByteArray)) := (blk_cell BK15.out 1).trans rfl;have hcz81_2 : w78.cell? ⟨gb15, 2, none⟩ = some (.int .i64 0) := (blk_cell BK15.out 2).trans rfl;have hcz81_3 : w78.cell? ⟨gb15, 3, none⟩ = some (.int .i64 0) := (blk_cell BK15.out 3).trans rfl;have hcz81_4 : w78.cell? ⟨gb15, 4, none⟩ = some (.int .i64 0) := (blk_cell BK15.out 4).trans rfl;have hcz81_5 : w78.cell? ⟨gb15, 5, none⟩ = some (.int .i64 0) := (blk_cell BK15.out 5).trans rfl;have hcz81_6 : w78.cell? ⟨gb15, 6, none⟩ = some (.int .i64 0) := (blk_cell BK15.out 6).trans rfl;have hcz81_7 : w78.cell? ⟨gb15, 7, none⟩ = some (.int .i64 0) := (blk_cell BK15.out 7).trans rfl;have hcz81_8 : w78.cell? ⟨gb15, 8, none⟩ = some (.int .i64 0) := (blk_cell BK15.out 8).trans rfl;have hcz81_9 : w78.cell? ⟨gb15, 9, none⟩ = some (.int .i64 0) := (blk_cell BK15.out 9).trans rfl;have hcz81_10 : w78.cell? ⟨gb15, 10, none⟩ = some (.int .i64 0) := (blk_cell BK15.out 10).trans rfl;have hcz81_11 : w78.cell? ⟨gb15, 11, none⟩ = some (.int .i64 0) := (blk_cell BK15.out 11).trans rfl;have hfz81_0 := blk_frozen BK15.out 0;have hfz81_1 := blk_frozen BK15.out 1;have hfz81_2 := blk_frozen BK15.out 2;have hfz81_3 := blk_frozen BK15.out 3;have hfz81_4 := blk_frozen BK15.out 4;have hfz81_5 := blk_frozen BK15.out 5;have hfz81_6 := blk_frozen BK15.out 6;have hfz81_7 := blk_frozen BK15.out 7;have hfz81_8 := blk_frozen BK15.out 8;have hfz81_9 := blk_frozen BK15.out 9;have hfz81_10 := blk_frozen BK15.out 10;have hfz81_11 := blk_frozen BK15.out 11;have hnb82 := NB12_13.out;have hnc82 := NB13_12.out;have hcz83_0 : w78.cell? ⟨gb12, 0, none⟩ = some (.string ((rd_T31 l0 x70_2).f0)) := (blk_cell BK12.out 0).trans rfl;have hcz83_1 : w78.cell? ⟨gb12, 1, none⟩ = some (.string ((rd_T31 l0 x70_2).f1)) := (blk_cell BK12.out 1).trans rfl;have hcz83_2 : w78.cell? ⟨gb12, 2, none⟩ = some (.int .i64 ((rd_T31 l0 x70_2).f2.f0)) := (blk_cell BK12.out 2).trans rfl;have hcz83_3 : w78.cell? ⟨gb12, 3, none⟩ = some (.int .i64 ((rd_T31 l0 x70_2).f2.f1)) := (blk_cell BK12.out 3).trans rfl;have hcz83_4 : w78.cell? ⟨gb12, 4, none⟩ = some (.int .i64 ((rd_T31 l0 x70_2).f2.f2)) := (blk_cell BK12.out 4).trans rfl;have hcz83_5 : w78.cell? ⟨gb12, 5, none⟩ = some (.int .i64 ((rd_T31 l0 x70_2).f3.f0)) := (blk_cell BK12.out 5).trans rfl;have hcz83_6 : w78.cell? ⟨gb12, 6, none⟩ = some (.int .i64 ((rd_T31 l0 x70_2).f3.f1)) := (blk_cell BK12.out 6).trans rfl;have hcz83_7 : w78.cell? ⟨gb12, 7, none⟩ = some (.int .i64 ((rd_T31 l0 x70_2).f3.f2)) := (blk_cell BK12.out 7).trans rfl;have hcz83_8 : w78.cell? ⟨gb12, 8, none⟩ = some (.int .i64 ((rd_T31 l0 x70_2).f4.f0)) := (blk_cell BK12.out 8).trans rfl;have hcz83_9 : w78.cell? ⟨gb12, 9, none⟩ = some (.int .i64 ((rd_T31 l0 x70_2).f4.f1)) := (blk_cell BK12.out 9).trans rfl;have hcz83_10 : w78.cell? ⟨gb12, 10, none⟩ = some (.int .i64 ((rd_T31 l0 x70_2).f4.f2)) := (blk_cell BK12.out 10).trans rfl;have hcz83_11 : w78.cell? ⟨gb12, 11, none⟩ = some (.int .i64 ((rd_T31 l0 x70_2).f5)) := (blk_cell BK12.out 11).trans rfl;have hfz83_0 := blk_frozen BK12.out 0;have hfz83_1 := blk_frozen BK12.out 1;have hfz83_2 := blk_frozen BK12.out 2;have hfz83_3 := blk_frozen BK12.out 3;have hfz83_4 := blk_frozen BK12.out 4;have hfz83_5 := blk_frozen BK12.out 5;have hfz83_6 := blk_frozen BK12.out 6;have hfz83_7 := blk_frozen BK12.out 7;have hfz83_8 := blk_frozen BK12.out 8;have hfz83_9 := blk_frozen BK12.out 9;have hfz83_10 := blk_frozen BK12.out 10;have hfz83_11 := blk_frozen BK12.out 11))
                go_roundg k3
                case measure => have := HK1.out; have := HK2.out; have := HK3.out; omega
                case rel => exact ⟨(wrap64 (x78_3 + 1)), (x14012_3), (u14012), (by first|rfl|(simp;done)|(simp [*];done)), H', ⟨by have := HK1.out;have := HK2.out;have := HK3.out;omega⟩, ⟨by (with_reducible repeat (first|apply Kd.R_alloc|apply Kd.R_drewN|apply Kd.R_drew));exact Kd.R_mono (Kd.R_far (p := ⟨gb15, 11, none⟩) (Kd.R_far (p := ⟨gb15, 10, none⟩) (Kd.R_far (p := ⟨gb15, 9, none⟩) (Kd.R_far (p := ⟨gb15, 8, none⟩) (Kd.R_far (p := ⟨gb15, 7, none⟩) (Kd.R_far (p := ⟨gb15, 6, none⟩) (Kd.R_far (p := ⟨gb15, 5, none⟩) (Kd.R_far (p := ⟨gb15, 4, none⟩) (Kd.R_far (p := ⟨gb15, 3, none⟩) (Kd.R_far (p := ⟨gb15, 2, none⟩) (Kd.R_far (p := ⟨gb15, 1, none⟩) (Kd.R_far (p := ⟨gb15, 0, none⟩) (Kd.R_types HO_14012.out BK15.out (by decide)) (fun _ hk => hk.2) (.string ((rd_T31 l0 x78_3).f0))) (fun _ hk => hk.2) (.string ((rd_T31 l0 x78_3).f1))) (fun _ hk => hk.2) (.int .i64 ((rd_T31 l0 x78_3).f2.f0))) (fun _ hk => hk.2) (.int .i64 ((rd_T31 l0 x78_3).f2.f1))) (fun _ hk => hk.2) (.int .i64 ((rd_T31 l0 x78_3).f2.f2))) (fun _ hk => hk.2) (.int .i64 ((rd_T31 l0 x78_3).f3.f0))) (fun _ hk => hk.2) (.int .i64 ((rd_T31 l0 x78_3).f3.f1))) (fun _ hk => hk.2) (.int .i64 ((rd_T31 l0 x78_3).f3.f2))) (fun _ hk => hk.2) (.int .i64 ((rd_T31 l0 x78_3).f4.f0))) (fun _ hk => hk.2) (.int .i64 ((rd_T31 l0 x78_3).f4.f1))) (fun _ hk => hk.2) (.int .i64 ((rd_T31 l0 x78_3).f4.f2))) (fun _ hk => hk.2) (.int .i64 ((rd_T31 l0 x78_3).f5))) (fun _ hk => trivial)⟩, ⟨by (with_reducible repeat (first|refine blk_drewN ?_ _|refine blk_drew ?_|refine blk_alloc ?_ _));refine blk_far ?_ NB12_15.out _;(with_reducible repeat (first|refine blk_drewN ?_ _|refine blk_drew ?_|refine blk_alloc ?_ _));refine blk_far ?_ NB12_15.out _;(with_reducible repeat (first|refine blk_drewN ?_ _|refine blk_drew ?_|refine blk_alloc ?_ _));refine blk_far ?_ NB12_15.out _;(with_reducible repeat (first|refine blk_drewN ?_ _|refine blk_drew ?_|refine blk_alloc ?_ _));refine blk_far ?_ NB12_15.out _;(with_reducible repeat (first|refine blk_drewN ?_ _|refine blk_drew ?_|refine blk_alloc ?_ _));refine blk_far ?_ NB12_15.out _;(with_reducible repeat (first|refine blk_drewN ?_ _|refine blk_drew ?_|refine blk_alloc ?_ _));refine blk_far ?_ NB12_15.out _;(with_reducible repeat (first|refine blk_drewN ?_ _|refine blk_drew ?_|refine blk_alloc ?_ _));refine blk_far ?_ NB12_15.out _;(with_reducible repeat (first|refine blk_drewN ?_ _|refine blk_drew ?_|refine blk_alloc ?_ _));refine blk_far ?_ NB12_15.out _;(with_reducible repeat (first|refine blk_drewN ?_ _|refine blk_drew ?_|refine blk_alloc ?_ _));refine blk_far ?_ NB12_15.out _;(with_reducible repeat (first|refine blk_drewN ?_ _|refine blk_drew ?_|refine blk_alloc ?_ _));refine blk_far ?_ NB12_15.out _;(with_reducible repeat (first|refine blk_drewN ?_ _|refine blk_drew ?_|refine blk_alloc ?_ _));refine blk_far ?_ NB12_15.out _;(with_reducible repeat (first|refine blk_drewN ?_ _|refine blk_drew ?_|refine blk_alloc ?_ _));refine blk_far ?_ NB12_15.out _;(with_reducible repeat (first|refine blk_drewN ?_ _|refine blk_drew ?_|refine blk_alloc ?_ _));exact BK12.out⟩, ⟨by (with_reducible repeat (first|refine blk_drewN ?_ _|refine blk_drew ?_|refine blk_alloc ?_ _));refine blk_far ?_ NB13_15.out _;(with_reducible repeat (first|refine blk_drewN ?_ _|refine blk_drew ?_|refine blk_alloc ?_ _));refine blk_far ?_ NB13_15.out _;(with_reducible repeat (first|refine blk_drewN ?_ _|refine blk_drew ?_|refine blk_alloc ?_ _));refine blk_far ?_ NB13_15.out _;(with_reducible repeat (first|refine blk_drewN ?_ _|refine blk_drew ?_|refine blk_alloc ?_ _));refine blk_far ?_ NB13_15.out _;(with_reducible repeat (first|refine blk_drewN ?_ _|refine blk_drew ?_|refine blk_alloc ?_ _));refine blk_far ?_ NB13_15.out _;(with_reducible repeat (first|refine blk_drewN ?_ _|refine blk_drew ?_|refine blk_alloc ?_ _));refine blk_far ?_ NB13_15.out _;(with_reducible repeat (first|refine blk_drewN ?_ _|refine blk_drew ?_|refine blk_alloc ?_ _));refine blk_far ?_ NB13_15.out _;(with_reducible repeat (first|refine blk_drewN ?_ _|refine blk_drew ?_|refine blk_alloc ?_ _));refine blk_far ?_ NB13_15.out _;(with_reducible repeat (first|refine blk_drewN ?_ _|refine blk_drew ?_|refine blk_alloc ?_ _));refine blk_far ?_ NB13_15.out _;(with_reducible repeat (first|refine blk_drewN ?_ _|refine blk_drew ?_|refine blk_alloc ?_ _));refine blk_far ?_ NB13_15.out _;(with_reducible repeat (first|refine blk_drewN ?_ _|refine blk_drew ?_|refine blk_alloc ?_ _));refine blk_far ?_ NB13_15.out _;(with_reducible repeat (first|refine blk_drewN ?_ _|refine blk_drew ?_|refine blk_alloc ?_ _));refine blk_far ?_ NB13_15.out _;(with_reducible repeat (first|refine blk_drewN ?_ _|refine blk_drew ?_|refine blk_alloc ?_ _));exact BK13.out⟩, ⟨by repeat (first|(with_reducible first|exact HB.out|apply below_alloc|apply pw_below_drewN|apply below_drew1|refine below_set ?_ GE12.out|refine below_set ?_ GE13.out|refine below_set ?_ GE15.out)|exact HB.out)⟩⟩
              ·rw [if_neg c65] at H
               exact absurd H (by simp)
             ·rw [if_neg c64] at H
              exact absurd H (by simp)
            ·rw [if_neg c63] at H
             have c63b0 : decide (x78_3 < (l0.length : Int)) = false := decide_eq_false c63
             clear c63
             replace H := Option.bind_eq_some_iff.mp H
             obtain ⟨t19, A840, H⟩ := H
             replace H : (if t19 = true then (tree_Right.l1 k3 l0 l0 (l0.length : Int) (wrap64 (x70_2 + 1))) else (some false)) = some r := H
             have A84 := Aside0.mk A840
             clear A840
             by_cases c85 : t19 = true
             ·subst c85
              have H1 : (tree_Right.l1 k3 l0 l0 (l0.length : Int) (wrap64 (x70_2 + 1))) = some r := by rw [if_pos rfl] at H; exact H
              clear H
              have H := H1
              clear H1
              have H' := Aside0.mk H
              clear H
              have hnb86 := NB13_12.out
              have hnc86 := NB12_13.out
              have hcz87_0 : wr.cell? ⟨gb13, 0, none⟩ = some (.string ((rd_T31 l0 x70_2).f0)) := (blk_cell BK13.out 0).trans rfl
              have hcz87_1 : wr.cell? ⟨gb13, 1, none⟩ = some (.string ((rd_T31 l0 x70_2).f1)) := (blk_cell BK13.out 1).trans rfl
              have hcz87_2 : wr.cell? ⟨gb13, 2, none⟩ = some (.int .i64 ((rd_T31 l0 x70_2).f2.f0)) := (blk_cell BK13.out 2).trans rfl
              have hcz87_3 : wr.cell? ⟨gb13, 3, none⟩ = some (.int .i64 ((rd_T31 l0 x70_2).f2.f1)) := (blk_cell BK13.out 3).trans rfl
              have hcz87_4 : wr.cell? ⟨gb13, 4, none⟩ = some (.int .i64 ((rd_T31 l0 x70_2).f2.f2)) := (blk_cell BK13.out 4).trans rfl
              have hcz87_5 : wr.cell? ⟨gb13, 5, none⟩ = some (.int .i64 ((rd_T31 l0 x70_2).f3.f0)) := (blk_cell BK13.out 5).trans rfl
              have hcz87_6 : wr.cell? ⟨gb13, 6, none⟩ = some (.int .i64 ((rd_T31 l0 x70_2).f3.f1)) := (blk_cell BK13.out 6).trans rfl
              have hcz87_7 : wr.cell? ⟨gb13, 7, none⟩ = some (.int .i64 ((rd_T31 l0 x70_2).f3.f2)) := (blk_cell BK13.out 7).trans rfl
              have hcz87_8 : wr.cell? ⟨gb13, 8, none⟩ = some (.int .i64 ((rd_T31 l0 x70_2).f4.f0)) := (blk_cell BK13.out 8).trans rfl
              have hcz87_9 : wr.cell? ⟨gb13, 9, none⟩ = some (.int .i64 ((rd_T31 l0 x70_2).f4.f1)) := (blk_cell BK13.out 9).trans rfl
              have hcz87_10 : wr.cell? ⟨gb13, 10, none⟩ = some (.int .i64 ((rd_T31 l0 x70_2).f4.f2)) := (blk_cell BK13.out 10).trans rfl
              have hcz87_11 : wr.cell? ⟨gb13, 11, none⟩ = some (.int .i64 ((rd_T31 l0 x70_2).f5)) := (blk_cell BK13.out 11).trans rfl
              have hcz87_12 : wr.cell? ⟨gb13, 12, none⟩ = some (u14012) := (blk_cell BK13.out 12).trans rfl
              have hfz87_0 := blk_frozen BK13.out 0
              have hfz87_1 := blk_frozen BK13.out 1
              have hfz87_2 := blk_frozen BK13.out 2
              have hfz87_3 := blk_frozen BK13.out 3
              have hfz87_4 := blk_frozen BK13.out 4
              have hfz87_5 := blk_frozen BK13.out 5
              have hfz87_6 := blk_frozen BK13.out 6
              have hfz87_7 := blk_frozen BK13.out 7
              have hfz87_8 := blk_frozen BK13.out 8
              have hfz87_9 := blk_frozen BK13.out 9
              have hfz87_10 := blk_frozen BK13.out 10
              have hfz87_11 := blk_frozen BK13.out 11
              have hfz87_12 := blk_frozen BK13.out 12
              obtain ⟨Ao88, co88, eo88⟩ := Kd.R_slice HO_14012.out
              subst eo88
              go_wp2_with (first|((with_reducible refine gate_callee (f := 126) rfl ?_);refine goesL_ (some 96) rfl rfl Try.func126 (by kernel_rfl) rfl #[.agg #[.string ((rd_T31 l0 x70_2).f0), .string ((rd_T31 l0 x70_2).f1), .int .i64 ((rd_T31 l0 x70_2).f2.f0), .int .i64 ((rd_T31 l0 x70_2).f2.f1), .int .i64 ((rd_T31 l0 x70_2).f2.f2), .int .i64 ((rd_T31 l0 x70_2).f3.f0), .int .i64 ((rd_T31 l0 x70_2).f3.f1), .int .i64 ((rd_T31 l0 x70_2).f3.f2), .int .i64 ((rd_T31 l0 x70_2).f4.f0), .int .i64 ((rd_T31 l0 x70_2).f4.f1), .int .i64 ((rd_T31 l0 x70_2).f4.f2), .int .i64 ((rd_T31 l0 x70_2).f5), .slice Ao88 x14012_3.length co88]] rfl (by (try simp only [List.map_toArray, List.map_cons, List.map_nil]);first|done|rfl|(simp only [List.length_drop, List.length_take];rfl)) ?_;(with_reducible refine (tree_node_fits.calls ((rd_T31 l0 x70_2).f0) ((rd_T31 l0 x70_2).f1) ((rd_T31 l0 x70_2).f2.f0) ((rd_T31 l0 x70_2).f2.f1) ((rd_T31 l0 x70_2).f2.f2) ((rd_T31 l0 x70_2).f3.f0) ((rd_T31 l0 x70_2).f3.f1) ((rd_T31 l0 x70_2).f3.f2) ((rd_T31 l0 x70_2).f4.f0) ((rd_T31 l0 x70_2).f4.f1) ((rd_T31 l0 x70_2).f4.f2) ((rd_T31 l0 x70_2).f5) (fun k_ => some k_ = (.slice Ao88 x14012_3.length co88 : Value).ownBlock) (.slice Ao88 x14012_3.length co88) x14012_3 true w _ ?side1 ?side2 A84.out).mono ?_);(case side1 => repeat (first|(with_reducible first|exact HB.out|apply below_alloc|apply pw_below_drewN|apply below_drew1|refine below_set ?_ GE12.out|refine below_set ?_ GE13.out)|exact HB.out));(case side2 => exact Kd.R_tight rfl HO_14012.out);rintro e w89 ⟨rfl, hb, hkp⟩;refine ⟨_, rfl, ?_⟩;have n0_ := Aside0.mk (blk_kept (by (with_reducible repeat (first|refine blk_drewN ?_ _|refine blk_drew ?_|refine blk_alloc ?_ _));exact BK12.out) hkp (fun hs_ => (fun e_ => (Kd.R_ne HO_14012.out BK12.out (by decide)) e_) hs_));have n1_ := Aside0.mk (blk_kept (by (with_reducible repeat (first|refine blk_drewN ?_ _|refine blk_drew ?_|refine blk_alloc ?_ _));exact BK13.out) hkp (fun hs_ => (fun e_ => (Kd.R_ne HO_14012.out BK13.out (by decide)) e_) hs_));have n2_ := Aside0.mk (hb);clear BK12;clear BK13;clear HB;clear HO_14012;have BK12 := n0_;have BK13 := n1_;have HB := n2_;clear n0_ n1_ n2_;(try clear hb);(try clear hkp)))
              go_roundg k3
              case measure => have := HK1.out; have := HK2.out; have := HK3.out; omega
              case rel => exact ⟨(wrap64 (x70_2 + 1)), (by first|rfl|(simp;done)|(simp [*];done)), H', ⟨by have := HK1.out;have := HK2.out;have := HK3.out;omega⟩, ⟨by repeat (first|(with_reducible first|exact HB.out|apply below_alloc|apply pw_below_drewN|apply below_drew1|refine below_set ?_ GE12.out|refine below_set ?_ GE13.out)|exact HB.out)⟩⟩
             ·replace c85 := Bool.eq_false_iff.mpr c85
              subst c85
              have H1 : (some false) = some r := by rw [if_neg (show ¬ (false = true) by decide)] at H; exact H
              clear H
              have H := H1
              clear H1
              obtain rfl := Option.some.inj H
              have hnb90 := NB13_12.out
              have hnc90 := NB12_13.out
              have hcz91_0 : wr.cell? ⟨gb13, 0, none⟩ = some (.string ((rd_T31 l0 x70_2).f0)) := (blk_cell BK13.out 0).trans rfl
              have hcz91_1 : wr.cell? ⟨gb13, 1, none⟩ = some (.string ((rd_T31 l0 x70_2).f1)) := (blk_cell BK13.out 1).trans rfl
              have hcz91_2 : wr.cell? ⟨gb13, 2, none⟩ = some (.int .i64 ((rd_T31 l0 x70_2).f2.f0)) := (blk_cell BK13.out 2).trans rfl
              have hcz91_3 : wr.cell? ⟨gb13, 3, none⟩ = some (.int .i64 ((rd_T31 l0 x70_2).f2.f1)) := (blk_cell BK13.out 3).trans rfl
              have hcz91_4 : wr.cell? ⟨gb13, 4, none⟩ = some (.int .i64 ((rd_T31 l0 x70_2).f2.f2)) := (blk_cell BK13.out 4).trans rfl
              have hcz91_5 : wr.cell? ⟨gb13, 5, none⟩ = some (.int .i64 ((rd_T31 l0 x70_2).f3.f0)) := (blk_cell BK13.out 5).trans rfl
              have hcz91_6 : wr.cell? ⟨gb13, 6, none⟩ = some (.int .i64 ((rd_T31 l0 x70_2).f3.f1)) := (blk_cell BK13.out 6).trans rfl
              have hcz91_7 : wr.cell? ⟨gb13, 7, none⟩ = some (.int .i64 ((rd_T31 l0 x70_2).f3.f2)) := (blk_cell BK13.out 7).trans rfl
              have hcz91_8 : wr.cell? ⟨gb13, 8, none⟩ = some (.int .i64 ((rd_T31 l0 x70_2).f4.f0)) := (blk_cell BK13.out 8).trans rfl
              have hcz91_9 : wr.cell? ⟨gb13, 9, none⟩ = some (.int .i64 ((rd_T31 l0 x70_2).f4.f1)) := (blk_cell BK13.out 9).trans rfl
              have hcz91_10 : wr.cell? ⟨gb13, 10, none⟩ = some (.int .i64 ((rd_T31 l0 x70_2).f4.f2)) := (blk_cell BK13.out 10).trans rfl
              have hcz91_11 : wr.cell? ⟨gb13, 11, none⟩ = some (.int .i64 ((rd_T31 l0 x70_2).f5)) := (blk_cell BK13.out 11).trans rfl
              have hcz91_12 : wr.cell? ⟨gb13, 12, none⟩ = some (u14012) := (blk_cell BK13.out 12).trans rfl
              have hfz91_0 := blk_frozen BK13.out 0
              have hfz91_1 := blk_frozen BK13.out 1
              have hfz91_2 := blk_frozen BK13.out 2
              have hfz91_3 := blk_frozen BK13.out 3
              have hfz91_4 := blk_frozen BK13.out 4
              have hfz91_5 := blk_frozen BK13.out 5
              have hfz91_6 := blk_frozen BK13.out 6
              have hfz91_7 := blk_frozen BK13.out 7
              have hfz91_8 := blk_frozen BK13.out 8
              have hfz91_9 := blk_frozen BK13.out 9
              have hfz91_10 := blk_frozen BK13.out 10
              have hfz91_11 := blk_frozen BK13.out 11
              have hfz91_12 := blk_frozen BK13.out 12
              obtain ⟨Ao92, co92, eo92⟩ := Kd.R_slice HO_14012.out
              subst eo92
              go_wp2_with (first|((with_reducible refine gate_callee (f := 126) rfl ?_);refine goesL_ (some 96) rfl rfl Try.func126 (by kernel_rfl) rfl #[.agg #[.string ((rd_T31 l0 x70_2).f0), .string ((rd_T31 l0 x70_2).f1), .int .i64 ((rd_T31 l0 x70_2).f2.f0), .int .i64 ((rd_T31 l0 x70_2).f2.f1), .int .i64 ((rd_T31 l0 x70_2).f2.f2), .int .i64 ((rd_T31 l0 x70_2).f3.f0), .int .i64 ((rd_T31 l0 x70_2).f3.f1), .int .i64 ((rd_T31 l0 x70_2).f3.f2), .int .i64 ((rd_T31 l0 x70_2).f4.f0), .int .i64 ((rd_T31 l0 x70_2).f4.f1), .int .i64 ((rd_T31 l0 x70_2).f4.f2), .int .i64 ((rd_T31 l0 x70_2).f5), .slice Ao92 x14012_3.length co92]] rfl (by (try simp only [List.map_toArray, List.map_cons, List.map_nil]);first|done|rfl|(simp only [List.length_drop, List.length_take];rfl)) ?_;(with_reducible refine (tree_node_fits.calls ((rd_T31 l0 x70_2).f0) ((rd_T31 l0 x70_2).f1) ((rd_T31 l0 x70_2).f2.f0) ((rd_T31 l0 x70_2).f2.f1) ((rd_T31 l0 x70_2).f2.f2) ((rd_T31 l0 x70_2).f3.f0) ((rd_T31 l0 x70_2).f3.f1) ((rd_T31 l0 x70_2).f3.f2) ((rd_T31 l0 x70_2).f4.f0) ((rd_T31 l0 x70_2).f4.f1) ((rd_T31 l0 x70_2).f4.f2) ((rd_T31 l0 x70_2).f5) (fun k_ => some k_ = (.slice Ao92 x14012_3.length co92 : Value).ownBlock) (.slice Ao92 x14012_3.length co92) x14012_3 false w _ ?side1 ?side2 A84.out).mono ?_);(case side1 => repeat (first|(with_reducible first|exact HB.out|apply below_alloc|apply pw_below_drewN|apply below_drew1|refine below_set ?_ GE12.out|refine below_set ?_ GE13.out)|exact HB.out));(case side2 => exact Kd.R_tight rfl HO_14012.out);rintro e w93 ⟨rfl, hb, hkp⟩;refine ⟨_, rfl, ?_⟩;have n0_ := Aside0.mk (blk_kept (by (with_reducible repeat (first|refine blk_drewN ?_ _|refine blk_drew ?_|refine blk_alloc ?_ _));exact BK12.out) hkp (fun hs_ => (fun e_ => (Kd.R_ne HO_14012.out BK12.out (by decide)) e_) hs_));have n1_ := Aside0.mk (blk_kept (by (with_reducible repeat (first|refine blk_drewN ?_ _|refine blk_drew ?_|refine blk_alloc ?_ _));exact BK13.out) hkp (fun hs_ => (fun e_ => (Kd.R_ne HO_14012.out BK13.out (by decide)) e_) hs_));have n2_ := Aside0.mk (hb);clear BK12;clear BK13;clear HB;clear HO_14012;have BK12 := n0_;have BK13 := n1_;have HB := n2_;clear n0_ n1_ n2_;(try clear hb);(try clear hkp)))
              go_ret
              exact ⟨by first|rfl|(simp [errW_none, errW_some] <;> rfl)|(simp [*, errW_none, errW_some] <;> rfl), by repeat (first|(with_reducible first|exact HB.out|apply below_alloc|apply pw_below_drewN|apply below_drew1|refine below_set ?_ GE12.out|refine below_set ?_ GE13.out)|exact HB.out)⟩
         ·rw [if_neg c57] at H
          exact absurd H (by simp)
        ·rw [if_neg c56] at H
         exact absurd H (by simp)
       ·rw [if_neg c55] at H
        have c55b0 : decide (x70_2 < (l0.length : Int)) = false := decide_eq_false c55
        clear c55
        obtain rfl := Option.some.inj H
        go_wp2
        go_ret
        exact ⟨by first|rfl|(simp [errW_none, errW_some] <;> rfl)|(simp [*, errW_none, errW_some] <;> rfl), by repeat (first|(with_reducible first|exact HB.out|apply below_alloc|apply pw_below_drewN|apply below_drew1)|exact HB.out)⟩
end Go.Proofs.Ytcgefpklljclgaa.Print

namespace Go.Proofs.Ytcgefpklljclgaa.Print
open Go.RowKit Go.Proofs.YtcgefpklljclgaaW.PrintWords Go.Proofs.YtcgefpklljclgaaW.PrintLast Go.Proofs.YtcgefpklljclgaaW.PrintMore
attribute [local go_sem] max2_int min2_int max_two min_two max_three min_three max_four min_four   -- for this text's walks alone
set_option linter.unusedVariables false
set_option linter.unusedSimpArgs false
mutual
def law12_Great.l0 : Nat → List (S31) → Int → Option (Bool)
 | 0, _, _ => none
 | k + 1, x0, x3 => if x3 < (x0.length : Int) then (law12_Great.j1 k x0 x3 (decide (x3 < 150))) else (law12_Great.j1 k x0 x3 false)
def law12_Great.j1 : Nat → List (S31) → Int → Bool → Option (Bool)
 | 0, _, _, _ => none
 | k + 1, x0, x3, x11 => if x11 = true then (if 0 ≤ x3 then (if x3 < (x0.length : Int) then (if (((rd_T31 x0 x3).f0).size : Int) > 100 then (some true) else (if (((rd_T31 x0 x3).f1).size : Int) > 100 then (some true) else (law12_Great.l0 k x0 (wrap64 (x3 + 1))))) else (none)) else (none)) else (some (decide ((x0.length : Int) > 130)))
end
def law12_Great.f (k : Nat) (l0 : List (S31)) : Option (Bool) := law12_Great.l0 k l0 0
theorem law12_Great.mono_l : ∀ k, (∀ y0 y1, LeO (law12_Great.l0 k y0 y1) (law12_Great.l0 (k + 1) y0 y1)) ∧ (∀ y0 y1 y2, LeO (law12_Great.j1 k y0 y1 y2) (law12_Great.j1 (k + 1) y0 y1 y2))
 | 0 => ⟨fun _ _ r h => by simp [law12_Great.l0] at h, fun _ _ _ r h => by simp [law12_Great.j1] at h⟩
 | k + 1 => by
  obtain ⟨ih0, ih1⟩ := law12_Great.mono_l k
  refine ⟨?_, ?_⟩
  ·intro y0 y1
   unfold law12_Great.l0
   repeat' first
   | (with_reducible exact ih0 _ _)
   | (with_reducible exact ih1 _ _ _)
   | (with_reducible exact LeO.refl _)
   | (with_reducible exact LeO.none _)
   | (with_reducible refine LeO.ite ?_ ?_)
   | (with_reducible refine LeO.bind ?_ (fun _ => ?_))
   | exact ih0 _ _
   | exact ih1 _ _ _
   | exact LeO.none _
   | refine LeO.ite ?_ ?_
   | refine LeO.bind ?_ (fun _ => ?_)
  ·intro y0 y1 y2
   unfold law12_Great.j1
   repeat' first
   | (with_reducible exact ih0 _ _)
   | (with_reducible exact ih1 _ _ _)
   | (with_reducible exact LeO.refl _)
   | (with_reducible exact LeO.none _)
   | (with_reducible refine LeO.ite ?_ ?_)
   | (with_reducible refine LeO.bind ?_ (fun _ => ?_))
   | exact ih0 _ _
   | exact ih1 _ _ _
   | exact LeO.none _
   | refine LeO.ite ?_ ?_
   | refine LeO.bind ?_ (fun _ => ?_)
theorem law12_Great.mono : ∀ a0 k, LeO (law12_Great.f k a0) (law12_Great.f (k + 1) a0) := by
 intro a0 k
 obtain ⟨ih0, ih1⟩ := law12_Great.mono_l k
 unfold law12_Great.f
 repeat' first
   | (with_reducible exact ih0 _ _)
   | (with_reducible exact ih1 _ _ _)
   | (with_reducible exact LeO.refl _)
   | (with_reducible exact LeO.none _)
   | (with_reducible refine LeO.ite ?_ ?_)
   | (with_reducible refine LeO.bind ?_ (fun _ => ?_))
   | exact ih0 _ _
   | exact ih1 _ _ _
   | exact LeO.none _
   | refine LeO.ite ?_ ?_
   | refine LeO.bind ?_ (fun _ => ?_)
set_option maxHeartbeats 8000000 in
set_option maxRecDepth 100000 in
theorem law12_Great.calls (k : Nat) (A0 : Option Addr) (c0 : Nat) (l0 : List (S31)) (r : Bool) (w : World) (hr0 : Kd.C k31 w A0 l0.length l0) (hc0 : l0.length ≤ c0) (h : law12_Great.f k l0 = some r) :
  Calls Try.prog 36 #[.slice A0 l0.length c0] w fun e w' => e = .returned (.bool r) ∧ Drawn0 w w' := by
 have HR0 := Aside0.mk hr0
 have HC0 := Aside0.mk hc0
 clear hr0 hc0
 have H : (law12_Great.l0 k l0 0) = some r := h
 clear h
 have H' := Aside0.mk H
 clear H
 go_enter Try.func36, Try.ntmps36
 go_wp2
 go_loopg [3] k (fun kq v3 w' => ∃ (x3_1 : Int), v3 = .int .i64 x3_1 ∧ Aside0 (law12_Great.l0 kq l0 x3_1 = some r) ∧ Aside0 (kq ≤ k) ∧ Drawn0 w w')
 case atStart => exact ⟨(0), (by first | rfl | (simp; done) | (simp [*]; done)), H', ⟨Nat.le_refl _⟩, by repeat (first | exact Drawn0.refl _ | apply Drawn0.step)⟩
 case round =>
  clear H'
  obtain ⟨x3_1, rfl, HA, HK1, ⟨m1, rfl⟩⟩ := hrel
  cases gk with
  | zero => exact absurd HA.out (by simp [law12_Great.l0])
  | succ k1 =>
   have H := HA.out
   clear HA
   simp only [law12_Great.l0] at H
   have HC2 := Aside0.mk H
   clear H
   go_upto_region 2 with (fail)
   go_cut [11] (fun v11 wc => ∃ (kq : Nat) (x11_1 : Bool), v11 = .bool x11_1 ∧ Aside0 (law12_Great.j1 kq l0 x3_1 x11_1 = some r) ∧ Aside0 (kq ≤ k1) ∧ Drawn0 w wc)
   case first =>
    have H := HC2.out
    clear HC2
    by_cases c3 : x3_1 < (l0.length : Int)
    ·rw [if_pos c3] at H
     have c3b0 : decide (x3_1 < (l0.length : Int)) = true := decide_eq_true c3
     clear c3
     (first | rw [c3b0] | (simp only [i64_w, i32_w]; rw [c3b0]) | skip)
     have H' := Aside0.mk H
     clear H
     go_wp2
     go_meet
     case rel => exact ⟨_, (decide (x3_1 < 150)), (by first|rfl|(simp;done)|(simp [*];done)), H', ⟨by have := HK1.out;first|omega|exact Nat.le_refl _⟩, by repeat (first|exact Drawn0.refl _|apply Drawn0.step)⟩
    ·rw [if_neg c3] at H
     have c3b0 : decide (x3_1 < (l0.length : Int)) = false := decide_eq_false c3
     clear c3
     (first | rw [c3b0] | (simp only [i64_w, i32_w]; rw [c3b0]) | skip)
     have H' := Aside0.mk H
     clear H
     go_wp2
     go_meet
     case rel => exact ⟨_, (false), (by first|rfl|(simp;done)|(simp [*];done)), H', ⟨by have := HK1.out;first|omega|exact Nat.le_refl _⟩, by repeat (first|exact Drawn0.refl _|apply Drawn0.step)⟩
   case rest =>
    clear HC2
    try clear p2
    try clear c3
    try clear c3b0
    obtain ⟨kq, x11_1, rfl, HA, HJ1, ⟨mc1, rfl⟩⟩ := hcut
    cases kq with
    | zero => exact absurd HA.out (by simp [law12_Great.j1])
    | succ kj1 =>
     have H := HA.out
     clear HA
     simp only [law12_Great.j1] at H
     by_cases c4 : x11_1 = true
     ·subst c4
      have H1 : (if 0 ≤ x3_1 then (if x3_1 < (l0.length : Int) then (if (((rd_T31 l0 x3_1).f0).size : Int) > 100 then (some true) else (if (((rd_T31 l0 x3_1).f1).size : Int) > 100 then (some true) else (law12_Great.l0 kj1 l0 (wrap64 (x3_1 + 1))))) else (none)) else (none)) = some r := by rw [if_pos rfl] at H; exact H
      clear H
      have H := H1
      clear H1
      by_cases c5 : 0 ≤ x3_1
      ·rw [if_pos c5] at H
       have c5b0 : decide (0 ≤ x3_1) = true := decide_eq_true c5
       clear c5
       by_cases c6 : x3_1 < (l0.length : Int)
       ·rw [if_pos c6] at H
        have c6b0 : decide (x3_1 < (l0.length : Int)) = true := decide_eq_true c6
        clear c6
        by_cases c7 : (((rd_T31 l0 x3_1).f0).size : Int) > 100
        ·rw [if_pos c7] at H
         have c7b0 : decide (100 < (((rd_T31 l0 x3_1).f0).size : Int)) = true := decide_eq_true c7
         have c7b1 : decide (100 < ((rd_T31 l0 x3_1).f0).size) = true := decide_eq_true (by omega)
         clear c7
         obtain rfl := Option.some.inj H
         have p1 : 0 ≤ (x3_1 : Int) := of_decide_eq_true (by first|(with_reducible assumption)|assumption)
         have q1 : x3_1 < (l0.length : Int) := of_decide_eq_true (by first|(with_reducible assumption)|assumption)
         obtain ⟨ad1, e1, hx1_0, hx1_1, hx1_2, hx1_3, hx1_4, hx1_5, hx1_6, hx1_7, hx1_8, hx1_9, hx1_10, hx1_11⟩ := at_T31 HR0.out x3_1 p1 q1
         cases e1
         replace p1 := eq_true p1
         replace q1 := eq_true q1
         go_wp2
         go_ret
         exact ⟨by first | rfl | (simp; done) | (simp [*]; done), by repeat (first | exact Drawn0.refl _ | apply Drawn0.step)⟩
        ·rw [if_neg c7] at H
         have c7b0 : decide (100 < (((rd_T31 l0 x3_1).f0).size : Int)) = false := decide_eq_false c7
         have c7b1 : decide (100 < ((rd_T31 l0 x3_1).f0).size) = false := decide_eq_false (by omega)
         clear c7
         by_cases c8 : (((rd_T31 l0 x3_1).f1).size : Int) > 100
         ·rw [if_pos c8] at H
          have c8b0 : decide (100 < (((rd_T31 l0 x3_1).f1).size : Int)) = true := decide_eq_true c8
          have c8b1 : decide (100 < ((rd_T31 l0 x3_1).f1).size) = true := decide_eq_true (by omega)
          clear c8
          obtain rfl := Option.some.inj H
          have p1 : 0 ≤ (x3_1 : Int) := of_decide_eq_true (by first|(with_reducible assumption)|assumption)
          have q1 : x3_1 < (l0.length : Int) := of_decide_eq_true (by first|(with_reducible assumption)|assumption)
          obtain ⟨ad1, e1, hx1_0, hx1_1, hx1_2, hx1_3, hx1_4, hx1_5, hx1_6, hx1_7, hx1_8, hx1_9, hx1_10, hx1_11⟩ := at_T31 HR0.out x3_1 p1 q1
          cases e1
          replace p1 := eq_true p1
          replace q1 := eq_true q1
          have p2 : 0 ≤ (x3_1 : Int) := of_decide_eq_true (by first|(with_reducible assumption)|assumption)
          have q2 : x3_1 < (l0.length : Int) := of_decide_eq_true (by first|(with_reducible assumption)|assumption)
          obtain ⟨ad2, e2, hx2_0, hx2_1, hx2_2, hx2_3, hx2_4, hx2_5, hx2_6, hx2_7, hx2_8, hx2_9, hx2_10, hx2_11⟩ := at_T31 HR0.out x3_1 p2 q2
          obtain rfl : ad1 = ad2 := (by injection e2)
          replace p2 := eq_true p2
          replace q2 := eq_true q2
          go_wp2
          go_ret
          exact ⟨by first | rfl | (simp; done) | (simp [*]; done), by repeat (first | exact Drawn0.refl _ | apply Drawn0.step)⟩
         ·rw [if_neg c8] at H
          have c8b0 : decide (100 < (((rd_T31 l0 x3_1).f1).size : Int)) = false := decide_eq_false c8
          have c8b1 : decide (100 < ((rd_T31 l0 x3_1).f1).size) = false := decide_eq_false (by omega)
          clear c8
          have H' := Aside0.mk H
          clear H
          have p1 : 0 ≤ (x3_1 : Int) := of_decide_eq_true (by first|(with_reducible assumption)|assumption)
          have q1 : x3_1 < (l0.length : Int) := of_decide_eq_true (by first|(with_reducible assumption)|assumption)
          obtain ⟨ad1, e1, hx1_0, hx1_1, hx1_2, hx1_3, hx1_4, hx1_5, hx1_6, hx1_7, hx1_8, hx1_9, hx1_10, hx1_11⟩ := at_T31 HR0.out x3_1 p1 q1
          cases e1
          replace p1 := eq_true p1
          replace q1 := eq_true q1
          have p2 : 0 ≤ (x3_1 : Int) := of_decide_eq_true (by first|(with_reducible assumption)|assumption)
          have q2 : x3_1 < (l0.length : Int) := of_decide_eq_true (by first|(with_reducible assumption)|assumption)
          obtain ⟨ad2, e2, hx2_0, hx2_1, hx2_2, hx2_3, hx2_4, hx2_5, hx2_6, hx2_7, hx2_8, hx2_9, hx2_10, hx2_11⟩ := at_T31 HR0.out x3_1 p2 q2
          obtain rfl : ad1 = ad2 := (by injection e2)
          replace p2 := eq_true p2
          replace q2 := eq_true q2
          go_wp2
          go_roundg kj1
          case measure => have := HK1.out; have := HJ1.out; omega
          case rel => exact ⟨(wrap64 (x3_1 + 1)), (by first|rfl|(simp;done)|(simp [*];done)), H', ⟨by have := HK1.out;have := HJ1.out;omega⟩, by repeat (first|exact Drawn0.refl _|apply Drawn0.step)⟩
       ·rw [if_neg c6] at H
        exact absurd H (by simp)
      ·rw [if_neg c5] at H
       exact absurd H (by simp)
     ·replace c4 := Bool.eq_false_iff.mpr c4
      subst c4
      have H1 : (some (decide ((l0.length : Int) > 130))) = some r := by rw [if_neg (show ¬ (false = true) by decide)] at H; exact H
      clear H
      have H := H1
      clear H1
      obtain rfl := Option.some.inj H
      go_wp2
      go_ret
      exact ⟨by first | rfl | (simp; done) | (simp [*]; done), by repeat (first | exact Drawn0.refl _ | apply Drawn0.step)⟩
end Go.Proofs.Ytcgefpklljclgaa.Print

namespace Go.Proofs.Ytcgefpklljclgaa.Print
open Go.RowKit Go.Proofs.YtcgefpklljclgaaW.PrintWords Go.Proofs.YtcgefpklljclgaaW.PrintLast Go.Proofs.YtcgefpklljclgaaW.PrintMore
attribute [local go_sem] max2_int min2_int max_two min_two max_three min_three max_four min_four   -- for this text's walks alone
set_option linter.unusedVariables false
set_option linter.unusedSimpArgs false
/-! ### tree_Depth: function 72 -/
def tree_Depth.f (k : Nat) (l0 : List (S31)) (a1 : ByteArray) : Option (Int) := (tree_Up.f k l0 a1).bind fun t1 => (some (t1.length : Int))
theorem tree_Depth.mono : ∀ a0 a1 k, LeO (tree_Depth.f k a0 a1) (tree_Depth.f (k + 1) a0 a1) := by
 intro a0 a1 k
 unfold tree_Depth.f
 repeat' first
   | (with_reducible exact tree_Up.mono _ _ _)
   | (with_reducible exact LeO.refl _)
   | (with_reducible exact LeO.none _)
   | (with_reducible refine LeO.ite ?_ ?_)
   | (with_reducible refine LeO.bind ?_ (fun _ => ?_))
   | exact tree_Up.mono _ _ _
   | exact LeO.none _
   | refine LeO.ite ?_ ?_
   | refine LeO.bind ?_ (fun _ => ?_)
set_option maxHeartbeats 8000000 in
set_option maxRecDepth 100000 in
theorem tree_Depth.calls (k : Nat) (A0 : Option Addr) (c0 : Nat) (l0 : List (S31)) (a1 : ByteArray) (r : Int) (w : World) (hr0 : Kd.C k31 w A0 l0.length l0) (hc0 : l0.length ≤ c0) (h : tree_Depth.f k l0 a1 = some r) :
  Calls Try.prog 72 #[.slice A0 l0.length c0, .string a1] w fun e w' => e = .returned (.int .i64 r) ∧ Below w.heap.size w w' := by
 have HR0 := Aside0.mk hr0
 have HC0 := Aside0.mk hc0
 clear hr0 hc0
 have HB := Aside0.mk (Below.refl w.heap.size w)
 have H : ((tree_Up.f k l0 a1).bind fun t1 => (some (t1.length : Int))) = some r := h
 clear h
 replace H := Option.bind_eq_some_iff.mp H
 obtain ⟨t1, A30, H⟩ := H
 replace H : (some (t1.length : Int)) = some r := H
 have A3 := Aside0.mk A30
 clear A30
 obtain rfl := Option.some.inj H
 go_enter Try.func72, Try.ntmps72
 go_wp2_with (first|((with_reducible refine gate_callee (f := 70) rfl ?_);refine goesL_ (some 7) rfl rfl Try.func70 (by kernel_rfl) rfl #[.slice A0 l0.length c0, .string a1] rfl (by (try simp only [List.map_toArray, List.map_cons, List.map_nil]);first|done|rfl|(simp only [List.length_drop, List.length_take];rfl)) ?_;(with_reducible refine (tree_Up.calls k _ _ l0 a1 t1 _ ?side1 ?side2 A3.out).mono ?_);(case side1 => repeat (first|exact HR0.out|(with_reducible refine Kd.C_alloc ?_ _)|(with_reducible refine Kd.C_drewN ?_ _)|(with_reducible refine Kd.C_drew ?_)));(case side2 => exact HC0.out);rintro e w4 ⟨v2, rfl, ho0, hb⟩;refine ⟨_, rfl, ?_⟩;have n0_ := Aside0.mk (Kd.R_lower ho0 (below_size (by repeat (first|(with_reducible first|exact HB.out|apply below_alloc|apply pw_below_drewN|apply below_drew1)|exact HB.out))));have n1_ := Aside0.mk (below_step (by repeat (first|(with_reducible first|exact HB.out|apply below_alloc|apply pw_below_drewN|apply below_drew1)|exact HB.out)) hb);clear HB;have HO3 := n0_;have HB := n1_;clear n0_ n1_;(try clear hb);(try clear hb2);(try clear hk);(try clear hi);(try clear ho0);obtain ⟨Ao5, co5, eo5⟩ := Kd.R_slice HO3.out;subst eo5))
 go_ret
 exact ⟨by first|rfl|(simp [errW_none, errW_some] <;> rfl)|(simp [*, errW_none, errW_some] <;> rfl), by repeat (first|(with_reducible first|exact HB.out|apply below_alloc|apply pw_below_drewN|apply below_drew1)|exact HB.out)⟩
end Go.Proofs.Ytcgefpklljclgaa.Print

namespace Go.Proofs.Ytcgefpklljclgaa.Print
open Go.RowKit Go.Proofs.YtcgefpklljclgaaW.PrintWords Go.Proofs.YtcgefpklljclgaaW.PrintLast Go.Proofs.YtcgefpklljclgaaW.PrintMore
attribute [local go_sem] max2_int min2_int max_two min_two max_three min_three max_four min_four   -- for this text's walks alone
set_option linter.unusedVariables false
set_option linter.unusedSimpArgs false
/-! ### tree_Below: function 73 -/
def tree_Below.l0 : Nat → ByteArray → List ByteArray → List (S31) → Int → Int → Option (List ByteArray)
 | 0, _, _, _, _, _ => none
 | k + 1, x1, x5, x8, x9, x10 => if x10 < x9 then (if 0 ≤ x10 then (if x10 < (x8.length : Int) then (if ((rd_T31 x8 x10).f1).toList = x1.toList then (if x5.length < 8796093022208 then (tree_Below.l0 k x1 (x5 ++ [(rd_T31 x8 x10).f0]) x8 x9 (wrap64 (x10 + 1))) else (none)) else (tree_Below.l0 k x1 x5 x8 x9 (wrap64 (x10 + 1)))) else (none)) else (none)) else (some x5)
def tree_Below.f (k : Nat) (l0 : List (S31)) (a1 : ByteArray) : Option (List ByteArray) := tree_Below.l0 k a1 ([] : List ByteArray) l0 (l0.length : Int) 0
theorem tree_Below.mono_l : ∀ k, (∀ y0 y1 y2 y3 y4, LeO (tree_Below.l0 k y0 y1 y2 y3 y4) (tree_Below.l0 (k + 1) y0 y1 y2 y3 y4))
 | 0 => fun _ _ _ _ _ r h => by simp [tree_Below.l0] at h
 | k + 1 => by
  have ih0 := tree_Below.mono_l k
  ·intro y0 y1 y2 y3 y4
   unfold tree_Below.l0
   repeat' first
   | (with_reducible exact ih0 _ _ _ _ _)
   | (with_reducible exact LeO.refl _)
   | (with_reducible exact LeO.none _)
   | (with_reducible refine LeO.ite ?_ ?_)
   | (with_reducible refine LeO.bind ?_ (fun _ => ?_))
   | exact ih0 _ _ _ _ _
   | exact LeO.none _
   | refine LeO.ite ?_ ?_
   | refine LeO.bind ?_ (fun _ => ?_)
theorem tree_Below.mono : ∀ a0 a1 k, LeO (tree_Below.f k a0 a1) (tree_Below.f (k + 1) a0 a1) := by
 intro a0 a1 k
 have ih0 := tree_Below.mono_l k
 unfold tree_Below.f
 repeat' first
   | (with_reducible exact ih0 _ _ _ _ _)
   | (with_reducible exact LeO.refl _)
   | (with_reducible exact LeO.none _)
   | (with_reducible refine LeO.ite ?_ ?_)
   | (with_reducible refine LeO.bind ?_ (fun _ => ?_))
   | exact ih0 _ _ _ _ _
   | exact LeO.none _
   | refine LeO.ite ?_ ?_
   | refine LeO.bind ?_ (fun _ => ?_)
set_option maxHeartbeats 8000000 in
set_option maxRecDepth 100000 in
theorem tree_Below.calls (k : Nat) (A0 : Option Addr) (c0 : Nat) (l0 : List (S31)) (a1 : ByteArray) (r : List ByteArray) (w : World) (hr0 : Kd.C k31 w A0 l0.length l0) (hc0 : l0.length ≤ c0) (h : tree_Below.f k l0 a1 = some r) :
  Calls Try.prog 73 #[.slice A0 l0.length c0, .string a1] w fun e w' => ∃ v0_ : Value, e = .returned (v0_) ∧ Kd.R Kd.string 9 w' w.heap.size (fun _ => True) v0_ r ∧ Below w.heap.size w w' := by
 have hu31 := Try.underlying31
 have HR0 := Aside0.mk hr0
 have HC0 := Aside0.mk hc0
 clear hr0 hc0
 have HB := Aside0.mk (Below.refl w.heap.size w)
 have H : (tree_Below.l0 k a1 ([] : List ByteArray) l0 (l0.length : Int) 0) = some r := h
 clear h
 have H' := Aside0.mk H
 clear H
 go_enter Try.func73, Try.ntmps73
 go_wp2
 go_loopg [5, 10] k (fun kq v5 v10 w' => ∃ (x5_1 : List ByteArray) (x10_1 : Int), v10 = .int .i64 x10_1 ∧ Aside0 (tree_Below.l0 kq a1 x5_1 l0 (l0.length : Int) x10_1 = some r) ∧ Aside0 (kq ≤ k) ∧ Aside0 (Kd.R Kd.string 9 w' w.heap.size (fun _ => True) v5 x5_1) ∧ Aside0 (Below w.heap.size w w'))
 case atStart => exact ⟨(([] : List ByteArray)), (0), (by first|rfl|(simp;done)|(simp [*];done)), H', ⟨Nat.le_refl _⟩, ⟨by first|exact Kd.R_nil _ _ _ _ _|exact Kd.N_nil _ _ _ _ _|exact Kd.V_nil _ _ _ _ _|exact Kd.Q_nil _ _ _ _ _|exact Kd.S_nil _ _ _ _ _⟩, ⟨by repeat (first|(with_reducible first|exact HB.out|apply below_alloc|apply pw_below_drewN|apply below_drew1)|exact HB.out)⟩⟩
 case round =>
  clear H'
  try clear p2
  obtain ⟨x5_1, x10_1, rfl, HA, HK1, HO_5, HB⟩ := hrel
  cases gk with
  | zero => exact absurd HA.out (by simp [tree_Below.l0])
  | succ k1 =>
   have H := HA.out
   clear HA
   simp only [tree_Below.l0] at H
   by_cases c3 : x10_1 < (l0.length : Int)
   ·rw [if_pos c3] at H
    have c3b0 : decide (x10_1 < (l0.length : Int)) = true := decide_eq_true c3
    clear c3
    by_cases c4 : 0 ≤ x10_1
    ·rw [if_pos c4] at H
     have c4b0 : decide (0 ≤ x10_1) = true := decide_eq_true c4
     clear c4
     by_cases c5 : x10_1 < (l0.length : Int)
     ·rw [if_pos c5] at H
      have c5b0 : decide (x10_1 < (l0.length : Int)) = true := decide_eq_true c5
      clear c5
      by_cases c6 : ((rd_T31 l0 x10_1).f1).toList = a1.toList
      ·rw [if_pos c6] at H
       have c6b0 : (((rd_T31 l0 x10_1).f1).toList == a1.toList) = true := beq_iff_eq.mpr c6
       have c6b1 : (((rd_T31 l0 x10_1).f1).toList != a1.toList) = false := bne_eq_false_iff_eq.mpr c6
       clear c6
       by_cases c7 : x5_1.length < 8796093022208
       ·rw [if_pos c7] at H
        have LMc7 := Aside0.mk c7
        clear c7
        obtain ⟨y3, hy3⟩ : ∃ y_ : List ByteArray, y_ = (x5_1 ++ [(rd_T31 l0 x10_1).f0]) := ⟨_, rfl⟩
        replace H : (tree_Below.l0 k1 a1 y3 l0 (l0.length : Int) (wrap64 (x10_1 + 1))) = some r := by first|(rw [hy3];with_reducible exact H)|(have H2_ := (Option.bind_some _ _).symm.trans H;rw [hy3];with_reducible exact H2_)|(have H2_ := (Option.bind_some _ _).symm.trans H;with_reducible exact H2_)|with_reducible exact H|(rw [hy3];exact H)|exact H
        have Ny3 := Aside0.mk hy3
        clear hy3
        have H' := Aside0.mk H
        clear H
        have p1 : 0 ≤ (x10_1 : Int) := of_decide_eq_true (by first|(with_reducible assumption)|assumption)
        have q1 : x10_1 < (l0.length : Int) := of_decide_eq_true (by first|(with_reducible assumption)|assumption)
        obtain ⟨ad1, e1, hx1_0, hx1_1, hx1_2, hx1_3, hx1_4, hx1_5, hx1_6, hx1_7, hx1_8, hx1_9, hx1_10, hx1_11⟩ := at_T31 HR0.out x10_1 p1 q1
        cases e1
        replace hx1_0 := (HB.out.cell (World.block_lt_of_cell? w _ hx1_0)).trans hx1_0
        replace hx1_1 := (HB.out.cell (World.block_lt_of_cell? w _ hx1_1)).trans hx1_1
        replace hx1_2 := (HB.out.cell (World.block_lt_of_cell? w _ hx1_2)).trans hx1_2
        replace hx1_3 := (HB.out.cell (World.block_lt_of_cell? w _ hx1_3)).trans hx1_3
        replace hx1_4 := (HB.out.cell (World.block_lt_of_cell? w _ hx1_4)).trans hx1_4
        replace hx1_5 := (HB.out.cell (World.block_lt_of_cell? w _ hx1_5)).trans hx1_5
        replace hx1_6 := (HB.out.cell (World.block_lt_of_cell? w _ hx1_6)).trans hx1_6
        replace hx1_7 := (HB.out.cell (World.block_lt_of_cell? w _ hx1_7)).trans hx1_7
        replace hx1_8 := (HB.out.cell (World.block_lt_of_cell? w _ hx1_8)).trans hx1_8
        replace hx1_9 := (HB.out.cell (World.block_lt_of_cell? w _ hx1_9)).trans hx1_9
        replace hx1_10 := (HB.out.cell (World.block_lt_of_cell? w _ hx1_10)).trans hx1_10
        replace hx1_11 := (HB.out.cell (World.block_lt_of_cell? w _ hx1_11)).trans hx1_11
        replace p1 := eq_true p1
        replace q1 := eq_true q1
        go_wp2_with (first|((with_reducible refine gate_dst (N := 7) rfl ?_);refine box_event ?hg (N := 7) ?hd (cs := #[.string (⟨#[]⟩ : ByteArray), .string (⟨#[]⟩ : ByteArray), .int .i64 0, .int .i64 0, .int .i64 0, .int .i64 0, .int .i64 0, .int .i64 0, .int .i64 0, .int .i64 0, .int .i64 0, .int .i64 0]) (t := 31) ?hr ?_;(case hd => rfl);(case hg => rfl);(case hr => first|(go_simp;done)|(go_simp;rfl));intro gb2 hg w8 hbox hb;have n0_ := Aside0.mk (Kd.R_below (by (with_reducible repeat (first|apply Kd.R_alloc|apply Kd.R_drewN|apply Kd.R_drew));exact HO_5.out) hb);have n1_ := Aside0.mk (below_step (by repeat (first|(with_reducible first|exact HB.out|apply below_alloc|apply pw_below_drewN|apply below_drew1)|exact HB.out)) hb);have n2_ := Aside0.mk (hbox);have n3_ := Aside0.mk ((by rw [hg];exact (below_size (by repeat (first|(with_reducible first|exact HB.out|apply below_alloc|apply pw_below_drewN|apply below_drew1)|exact HB.out))) : w.heap.size ≤ gb2));have n4_ := Aside0.mk ((by rw [hg];exact (below_size (by repeat (first|(with_reducible first|exact HB.out|apply below_alloc|apply pw_below_drewN|apply below_drew1)|exact HB.out))) : w.heap.size ≤ gb2));clear HO_5;clear HB;have HO_5 := n0_;have HB := n1_;have BK2 := n2_;have GW2 := n3_;have GE2 := n4_;clear n0_ n1_ n2_ n3_ n4_;clear hb hbox hg;have hcz9_0 : w8.cell? ⟨gb2, 0, none⟩ = some (.string (⟨#[]⟩ : ByteArray)) := (blk_cell BK2.out 0).trans rfl;have hcz9_1 : w8.cell? ⟨gb2, 1, none⟩ = some (.string (⟨#[]⟩ : ByteArray)) := (blk_cell BK2.out 1).trans rfl;have hcz9_2 : w8.cell? ⟨gb2, 2, none⟩ = some (.int .i64 0) := (blk_cell BK2.out 2).trans rfl;have hcz9_3 : w8.cell? ⟨gb2, 3, none⟩ = some (.int .i64 0) := (blk_cell BK2.out 3).trans rfl;have hcz9_4 : w8.cell? ⟨gb2, 4, none⟩ = some (.int .i64 0) := (blk_cell BK2.out 4).trans rfl;have hcz9_5 : w8.cell? ⟨gb2, 5, none⟩ = some (.int .i64 0) := (blk_cell BK2.out 5).trans rfl;have hcz9_6 : w8.cell? ⟨gb2, 6, none⟩ = some (.int .i64 0) := (blk_cell BK2.out 6).trans rfl;have hcz9_7 : w8.cell? ⟨gb2, 7, none⟩ = some (.int .i64 0) := (blk_cell BK2.out 7).trans rfl;have hcz9_8 : w8.cell? ⟨gb2, 8, none⟩ = some (.int .i64 0) := (blk_cell BK2.out 8).trans rfl;have hcz9_9 : w8.cell? ⟨gb2, 9, none⟩ = some (.int .i64 0) := (blk_cell BK2.out 9).trans rfl;have hcz9_10 : w8.cell? ⟨gb2, 10, none⟩ = some (.int .i64 0) := (blk_cell BK2.out 10).trans rfl;have hcz9_11 : w8.cell? ⟨gb2, 11, none⟩ = some (.int .i64 0) := (blk_cell BK2.out 11).trans rfl;have hfz9_0 := blk_frozen BK2.out 0;have hfz9_1 := blk_frozen BK2.out 1;have hfz9_2 := blk_frozen BK2.out 2;have hfz9_3 := blk_frozen BK2.out 3;have hfz9_4 := blk_frozen BK2.out 4;have hfz9_5 := blk_frozen BK2.out 5;have hfz9_6 := blk_frozen BK2.out 6;have hfz9_7 := blk_frozen BK2.out 7;have hfz9_8 := blk_frozen BK2.out 8;have hfz9_9 := blk_frozen BK2.out 9;have hfz9_10 := blk_frozen BK2.out 10;have hfz9_11 := blk_frozen BK2.out 11)|((with_reducible refine gate_builtin (b := .append) (xs := #[.tmp 18, .tmp 21]) rfl ?_);at_builtin;refine Kd.R_append Kd.string (w0 := w) w.heap.size rfl (.tmp 18) (.tmp 21) 74 9 (.string ⟨#[]⟩) 16 rfl Try.underlying74 info9 rfl (by decide) (by omega) u5 x5_1 ((rd_T31 l0 x10_1).f0) [.string ((rd_T31 l0 x10_1).f0)] (fun _ => True) (fun _ => False) rfl (by first|(go_simp;done)|(go_simp;rfl)) ?aP (fun _ hk => hk.elim) ?aF ?aO ?aB ?aS ?aL ?_;(case aP => exact rfl);(case aB => exact (by repeat (first|(with_reducible first|exact HB.out|apply below_alloc|apply pw_below_drewN|apply below_drew1|refine below_set ?_ GE2.out)|exact HB.out)));(case aF => exact (fun _ _ => trivial));(case aO => exact (by (with_reducible repeat (first|apply Kd.R_alloc|apply Kd.R_drewN|apply Kd.R_drew));exact Kd.R_mono (Kd.R_far (p := ⟨gb2, 11, none⟩) (Kd.R_far (p := ⟨gb2, 10, none⟩) (Kd.R_far (p := ⟨gb2, 9, none⟩) (Kd.R_far (p := ⟨gb2, 8, none⟩) (Kd.R_far (p := ⟨gb2, 7, none⟩) (Kd.R_far (p := ⟨gb2, 6, none⟩) (Kd.R_far (p := ⟨gb2, 5, none⟩) (Kd.R_far (p := ⟨gb2, 4, none⟩) (Kd.R_far (p := ⟨gb2, 3, none⟩) (Kd.R_far (p := ⟨gb2, 2, none⟩) (Kd.R_far (p := ⟨gb2, 1, none⟩) (Kd.R_far (p := ⟨gb2, 0, none⟩) (Kd.R_types HO_5.out BK2.out (by decide)) (fun _ hk => hk.2) (.string ((rd_T31 l0 x10_1).f0))) (fun _ hk => hk.2) (.string ((rd_T31 l0 x10_1).f1))) (fun _ hk => hk.2) (.int .i64 ((rd_T31 l0 x10_1).f2.f0))) (fun _ hk => hk.2) (.int .i64 ((rd_T31 l0 x10_1).f2.f1))) (fun _ hk => hk.2) (.int .i64 ((rd_T31 l0 x10_1).f2.f2))) (fun _ hk => hk.2) (.int .i64 ((rd_T31 l0 x10_1).f3.f0))) (fun _ hk => hk.2) (.int .i64 ((rd_T31 l0 x10_1).f3.f1))) (fun _ hk => hk.2) (.int .i64 ((rd_T31 l0 x10_1).f3.f2))) (fun _ hk => hk.2) (.int .i64 ((rd_T31 l0 x10_1).f4.f0))) (fun _ hk => hk.2) (.int .i64 ((rd_T31 l0 x10_1).f4.f1))) (fun _ hk => hk.2) (.int .i64 ((rd_T31 l0 x10_1).f4.f2))) (fun _ hk => hk.2) (.int .i64 ((rd_T31 l0 x10_1).f5))) (fun _ hk => trivial)));(case aS => exact (below_size (by repeat (first|(with_reducible first|exact HB.out|apply below_alloc|apply pw_below_drewN|apply below_drew1|refine below_set ?_ GE2.out)|exact HB.out))));(case aL => have := LMc7.out;omega);intro v4 w10 ho hb hg hat;rw [← Ny3.out] at ho;have n0_ := Aside0.mk (blk_grown (g := gb2) (o := .cells #[.string ((rd_T31 l0 x10_1).f0), .string ((rd_T31 l0 x10_1).f1), .int .i64 ((rd_T31 l0 x10_1).f2.f0), .int .i64 ((rd_T31 l0 x10_1).f2.f1), .int .i64 ((rd_T31 l0 x10_1).f2.f2), .int .i64 ((rd_T31 l0 x10_1).f3.f0), .int .i64 ((rd_T31 l0 x10_1).f3.f1), .int .i64 ((rd_T31 l0 x10_1).f3.f2), .int .i64 ((rd_T31 l0 x10_1).f4.f0), .int .i64 ((rd_T31 l0 x10_1).f4.f1), .int .i64 ((rd_T31 l0 x10_1).f4.f2), .int .i64 ((rd_T31 l0 x10_1).f5)] 31 (0, 0)) (by (with_reducible repeat (first|refine blk_drewN ?_ _|refine blk_drew ?_|refine blk_alloc ?_ _));refine blk_put (cs := #[.string ((rd_T31 l0 x10_1).f0), .string ((rd_T31 l0 x10_1).f1), .int .i64 ((rd_T31 l0 x10_1).f2.f0), .int .i64 ((rd_T31 l0 x10_1).f2.f1), .int .i64 ((rd_T31 l0 x10_1).f2.f2), .int .i64 ((rd_T31 l0 x10_1).f3.f0), .int .i64 ((rd_T31 l0 x10_1).f3.f1), .int .i64 ((rd_T31 l0 x10_1).f3.f2), .int .i64 ((rd_T31 l0 x10_1).f4.f0), .int .i64 ((rd_T31 l0 x10_1).f4.f1), .int .i64 ((rd_T31 l0 x10_1).f4.f2), .int .i64 0]) ?_ 11 _ rfl;(with_reducible repeat (first|refine blk_drewN ?_ _|refine blk_drew ?_|refine blk_alloc ?_ _));refine blk_put (cs := #[.string ((rd_T31 l0 x10_1).f0), .string ((rd_T31 l0 x10_1).f1), .int .i64 ((rd_T31 l0 x10_1).f2.f0), .int .i64 ((rd_T31 l0 x10_1).f2.f1), .int .i64 ((rd_T31 l0 x10_1).f2.f2), .int .i64 ((rd_T31 l0 x10_1).f3.f0), .int .i64 ((rd_T31 l0 x10_1).f3.f1), .int .i64 ((rd_T31 l0 x10_1).f3.f2), .int .i64 ((rd_T31 l0 x10_1).f4.f0), .int .i64 ((rd_T31 l0 x10_1).f4.f1), .int .i64 0, .int .i64 0]) ?_ 10 _ rfl;(with_reducible repeat (first|refine blk_drewN ?_ _|refine blk_drew ?_|refine blk_alloc ?_ _));refine blk_put (cs := #[.string ((rd_T31 l0 x10_1).f0), .string ((rd_T31 l0 x10_1).f1), .int .i64 ((rd_T31 l0 x10_1).f2.f0), .int .i64 ((rd_T31 l0 x10_1).f2.f1), .int .i64 ((rd_T31 l0 x10_1).f2.f2), .int .i64 ((rd_T31 l0 x10_1).f3.f0), .int .i64 ((rd_T31 l0 x10_1).f3.f1), .int .i64 ((rd_T31 l0 x10_1).f3.f2), .int .i64 ((rd_T31 l0 x10_1).f4.f0), .int .i64 0, .int .i64 0, .int .i64 0]) ?_ 9 _ rfl;(with_reducible repeat (first|refine blk_drewN ?_ _|refine blk_drew ?_|refine blk_alloc ?_ _));refine blk_put (cs := #[.string ((rd_T31 l0 x10_1).f0), .string ((rd_T31 l0 x10_1).f1), .int .i64 ((rd_T31 l0 x10_1).f2.f0), .int .i64 ((rd_T31 l0 x10_1).f2.f1), .int .i64 ((rd_T31 l0 x10_1).f2.f2), .int .i64 ((rd_T31 l0 x10_1).f3.f0), .int .i64 ((rd_T31 l0 x10_1).f3.f1), .int .i64 ((rd_T31 l0 x10_1).f3.f2), .int .i64 0, .int .i64 0, .int .i64 0, .int .i64 0]) ?_ 8 _ rfl;(with_reducible repeat (first|refine blk_drewN ?_ _|refine blk_drew ?_|refine blk_alloc ?_ _));refine blk_put (cs := #[.string ((rd_T31 l0 x10_1).f0), .string ((rd_T31 l0 x10_1).f1), .int .i64 ((rd_T31 l0 x10_1).f2.f0), .int .i64 ((rd_T31 l0 x10_1).f2.f1), .int .i64 ((rd_T31 l0 x10_1).f2.f2), .int .i64 ((rd_T31 l0 x10_1).f3.f0), .int .i64 ((rd_T31 l0 x10_1).f3.f1), .int .i64 0, .int .i64 0, .int .i64 0, .int .i64 0, .int .i64 0]) ?_ 7 _ rfl;(with_reducible repeat (first|refine blk_drewN ?_ _|refine blk_drew ?_|refine blk_alloc ?_ _));refine blk_put (cs := #[.string ((rd_T31 l0 x10_1).f0), .string ((rd_T31 l0 x10_1).f1), .int .i64 ((rd_T31 l0 x10_1).f2.f0), .int .i64 ((rd_T31 l0 x10_1).f2.f1), .int .i64 ((rd_T31 l0 x10_1).f2.f2), .int .i64 ((rd_T31 l0 x10_1).f3.f0), .int .i64 0, .int .i64 0, .int .i64 0, .int .i64 0, .int .i64 0, .int .i64 0]) ?_ 6 _ rfl;(with_reducible repeat (first|refine blk_drewN ?_ _|refine blk_drew ?_|refine blk_alloc ?_ _));refine blk_put (cs := #[.string ((rd_T31 l0 x10_1).f0), .string ((rd_T31 l0 x10_1).f1), .int .i64 ((rd_T31 l0 x10_1).f2.f0), .int .i64 ((rd_T31 l0 x10_1).f2.f1), .int .i64 ((rd_T31 l0 x10_1).f2.f2), .int .i64 0, .int .i64 0, .int .i64 0, .int .i64 0, .int .i64 0, .int .i64 0, .int .i64 0]) ?_ 5 _ rfl;(with_reducible repeat (first|refine blk_drewN ?_ _|refine blk_drew ?_|refine blk_alloc ?_ _));refine blk_put (cs := #[.string ((rd_T31 l0 x10_1).f0), .string ((rd_T31 l0 x10_1).f1), .int .i64 ((rd_T31 l0 x10_1).f2.f0), .int .i64 ((rd_T31 l0 x10_1).f2.f1), .int .i64 0, .int .i64 0, .int .i64 0, .int .i64 0, .int .i64 0, .int .i64 0, .int .i64 0, .int .i64 0]) ?_ 4 _ rfl;(with_reducible repeat (first|refine blk_drewN ?_ _|refine blk_drew ?_|refine blk_alloc ?_ _));refine blk_put (cs := #[.string ((rd_T31 l0 x10_1).f0), .string ((rd_T31 l0 x10_1).f1), .int .i64 ((rd_T31 l0 x10_1).f2.f0), .int .i64 0, .int .i64 0, .int .i64 0, .int .i64 0, .int .i64 0, .int .i64 0, .int .i64 0, .int .i64 0, .int .i64 0]) ?_ 3 _ rfl;(with_reducible repeat (first|refine blk_drewN ?_ _|refine blk_drew ?_|refine blk_alloc ?_ _));refine blk_put (cs := #[.string ((rd_T31 l0 x10_1).f0), .string ((rd_T31 l0 x10_1).f1), .int .i64 0, .int .i64 0, .int .i64 0, .int .i64 0, .int .i64 0, .int .i64 0, .int .i64 0, .int .i64 0, .int .i64 0, .int .i64 0]) ?_ 2 _ rfl;(with_reducible repeat (first|refine blk_drewN ?_ _|refine blk_drew ?_|refine blk_alloc ?_ _));refine blk_put (cs := #[.string ((rd_T31 l0 x10_1).f0), .string (⟨#[]⟩ : ByteArray), .int .i64 0, .int .i64 0, .int .i64 0, .int .i64 0, .int .i64 0, .int .i64 0, .int .i64 0, .int .i64 0, .int .i64 0, .int .i64 0]) ?_ 1 _ rfl;(with_reducible repeat (first|refine blk_drewN ?_ _|refine blk_drew ?_|refine blk_alloc ?_ _));refine blk_put (cs := #[.string (⟨#[]⟩ : ByteArray), .string (⟨#[]⟩ : ByteArray), .int .i64 0, .int .i64 0, .int .i64 0, .int .i64 0, .int .i64 0, .int .i64 0, .int .i64 0, .int .i64 0, .int .i64 0, .int .i64 0]) ?_ 0 _ rfl;(with_reducible repeat (first|refine blk_drewN ?_ _|refine blk_drew ?_|refine blk_alloc ?_ _));exact BK2.out) hg (Kd.R_ne HO_5.out BK2.out (by decide)));have n1_ := Aside0.mk (hb);have n2_ := Aside0.mk (ho);clear BK2;clear HB;clear HO_5;have BK2 := n0_;have HB := n1_;have HO5 := n2_;clear n0_ n1_ n2_;clear ho hb hg hat))
        go_roundg k1
        case measure => have := HK1.out; omega
        case rel => exact ⟨(y3), (wrap64 (x10_1 + 1)), (by first|rfl|(simp;done)|(simp [*];done)), H', ⟨by have := HK1.out;omega⟩, ⟨by (with_reducible repeat (first|apply Kd.R_alloc|apply Kd.R_drewN|apply Kd.R_drew));exact HO5.out⟩, ⟨by repeat (first|(with_reducible first|exact HB.out|apply below_alloc|apply pw_below_drewN|apply below_drew1|refine below_set ?_ GE2.out)|exact HB.out)⟩⟩
       ·rw [if_neg c7] at H
        exact absurd H (by simp)
      ·rw [if_neg c6] at H
       have c6b0 : (((rd_T31 l0 x10_1).f1).toList == a1.toList) = false := beq_eq_false_iff_ne.mpr c6
       have c6b1 : (((rd_T31 l0 x10_1).f1).toList != a1.toList) = true := bne_iff_ne.mpr c6
       have H' := Aside0.mk H
       clear H
       have p1 : 0 ≤ (x10_1 : Int) := of_decide_eq_true (by first|(with_reducible assumption)|assumption)
       have q1 : x10_1 < (l0.length : Int) := of_decide_eq_true (by first|(with_reducible assumption)|assumption)
       obtain ⟨ad1, e1, hx1_0, hx1_1, hx1_2, hx1_3, hx1_4, hx1_5, hx1_6, hx1_7, hx1_8, hx1_9, hx1_10, hx1_11⟩ := at_T31 HR0.out x10_1 p1 q1
       cases e1
       replace hx1_0 := (HB.out.cell (World.block_lt_of_cell? w _ hx1_0)).trans hx1_0
       replace hx1_1 := (HB.out.cell (World.block_lt_of_cell? w _ hx1_1)).trans hx1_1
       replace hx1_2 := (HB.out.cell (World.block_lt_of_cell? w _ hx1_2)).trans hx1_2
       replace hx1_3 := (HB.out.cell (World.block_lt_of_cell? w _ hx1_3)).trans hx1_3
       replace hx1_4 := (HB.out.cell (World.block_lt_of_cell? w _ hx1_4)).trans hx1_4
       replace hx1_5 := (HB.out.cell (World.block_lt_of_cell? w _ hx1_5)).trans hx1_5
       replace hx1_6 := (HB.out.cell (World.block_lt_of_cell? w _ hx1_6)).trans hx1_6
       replace hx1_7 := (HB.out.cell (World.block_lt_of_cell? w _ hx1_7)).trans hx1_7
       replace hx1_8 := (HB.out.cell (World.block_lt_of_cell? w _ hx1_8)).trans hx1_8
       replace hx1_9 := (HB.out.cell (World.block_lt_of_cell? w _ hx1_9)).trans hx1_9
       replace hx1_10 := (HB.out.cell (World.block_lt_of_cell? w _ hx1_10)).trans hx1_10
       replace hx1_11 := (HB.out.cell (World.block_lt_of_cell? w _ hx1_11)).trans hx1_11
       replace p1 := eq_true p1
       replace q1 := eq_true q1
       go_wp2_with (first|((with_reducible refine gate_dst (N := 7) rfl ?_);refine box_event ?hg (N := 7) ?hd (cs := #[.string (⟨#[]⟩ : ByteArray), .string (⟨#[]⟩ : ByteArray), .int .i64 0, .int .i64 0, .int .i64 0, .int .i64 0, .int .i64 0, .int .i64 0, .int .i64 0, .int .i64 0, .int .i64 0, .int .i64 0]) (t := 31) ?hr ?_;(case hd => rfl);(case hg => rfl);(case hr => first|(go_simp;done)|(go_simp;rfl));intro gb2 hg w11 hbox hb;have n0_ := Aside0.mk (Kd.R_below (by (with_reducible repeat (first|apply Kd.R_alloc|apply Kd.R_drewN|apply Kd.R_drew));exact HO_5.out) hb);have n1_ := Aside0.mk (below_step (by repeat (first|(with_reducible first|exact HB.out|apply below_alloc|apply pw_below_drewN|apply below_drew1)|exact HB.out)) hb);have n2_ := Aside0.mk (hbox);have n3_ := Aside0.mk ((by rw [hg];exact (below_size (by repeat (first|(with_reducible first|exact HB.out|apply below_alloc|apply pw_below_drewN|apply below_drew1)|exact HB.out))) : w.heap.size ≤ gb2));have n4_ := Aside0.mk ((by rw [hg];exact (below_size (by repeat (first|(with_reducible first|exact HB.out|apply below_alloc|apply pw_below_drewN|apply below_drew1)|exact HB.out))) : w.heap.size ≤ gb2));clear HO_5;clear HB;have HO_5 := n0_;have HB := n1_;have BK2 := n2_;have GW2 := n3_;have GE2 := n4_;clear n0_ n1_ n2_ n3_ n4_;clear hb hbox hg;have hcz12_0 : w11.cell? ⟨gb2, 0, none⟩ = some (.string (⟨#[]⟩ : ByteArray)) := (blk_cell BK2.out 0).trans rfl;have hcz12_1 : w11.cell? ⟨gb2, 1, none⟩ = some (.string (⟨#[]⟩ : ByteArray)) := (blk_cell BK2.out 1).trans rfl;have hcz12_2 : w11.cell? ⟨gb2, 2, none⟩ = some (.int .i64 0) := (blk_cell BK2.out 2).trans rfl;have hcz12_3 : w11.cell? ⟨gb2, 3, none⟩ = some (.int .i64 0) := (blk_cell BK2.out 3).trans rfl;have hcz12_4 : w11.cell? ⟨gb2, 4, none⟩ = some (.int .i64 0) := (blk_cell BK2.out 4).trans rfl;have hcz12_5 : w11.cell? ⟨gb2, 5, none⟩ = some (.int .i64 0) := (blk_cell BK2.out 5).trans rfl;have hcz12_6 : w11.cell? ⟨gb2, 6, none⟩ = some (.int .i64 0) := (blk_cell BK2.out 6).trans rfl;have hcz12_7 : w11.cell? ⟨gb2, 7, none⟩ = some (.int .i64 0) := (blk_cell BK2.out 7).trans rfl;have hcz12_8 : w11.cell? ⟨gb2, 8, none⟩ = some (.int .i64 0) := (blk_cell BK2.out 8).trans rfl;have hcz12_9 : w11.cell? ⟨gb2, 9, none⟩ = some (.int .i64 0) := (blk_cell BK2.out 9).trans rfl;have hcz12_10 : w11.cell? ⟨gb2, 10, none⟩ = some (.int .i64 0) := (blk_cell BK2.out 10).trans rfl;have hcz12_11 : w11.cell? ⟨gb2, 11, none⟩ = some (.int .i64 0) := (blk_cell BK2.out 11).trans rfl;have hfz12_0 := blk_frozen BK2.out 0;have hfz12_1 := blk_frozen BK2.out 1;have hfz12_2 := blk_frozen BK2.out 2;have hfz12_3 := blk_frozen BK2.out 3;have hfz12_4 := blk_frozen BK2.out 4;have hfz12_5 := blk_frozen BK2.out 5;have hfz12_6 := blk_frozen BK2.out 6;have hfz12_7 := blk_frozen BK2.out 7;have hfz12_8 := blk_frozen BK2.out 8;have hfz12_9 := blk_frozen BK2.out 9;have hfz12_10 := blk_frozen BK2.out 10;have hfz12_11 := blk_frozen BK2.out 11))
       go_roundg k1
       case measure => have := HK1.out; omega
       case rel => exact ⟨(x5_1), (wrap64 (x10_1 + 1)), (by first|rfl|(simp;done)|(simp [*];done)), H', ⟨by have := HK1.out;omega⟩, ⟨by (with_reducible repeat (first|apply Kd.R_alloc|apply Kd.R_drewN|apply Kd.R_drew));exact Kd.R_mono (Kd.R_far (p := ⟨gb2, 11, none⟩) (Kd.R_far (p := ⟨gb2, 10, none⟩) (Kd.R_far (p := ⟨gb2, 9, none⟩) (Kd.R_far (p := ⟨gb2, 8, none⟩) (Kd.R_far (p := ⟨gb2, 7, none⟩) (Kd.R_far (p := ⟨gb2, 6, none⟩) (Kd.R_far (p := ⟨gb2, 5, none⟩) (Kd.R_far (p := ⟨gb2, 4, none⟩) (Kd.R_far (p := ⟨gb2, 3, none⟩) (Kd.R_far (p := ⟨gb2, 2, none⟩) (Kd.R_far (p := ⟨gb2, 1, none⟩) (Kd.R_far (p := ⟨gb2, 0, none⟩) (Kd.R_types HO_5.out BK2.out (by decide)) (fun _ hk => hk.2) (.string ((rd_T31 l0 x10_1).f0))) (fun _ hk => hk.2) (.string ((rd_T31 l0 x10_1).f1))) (fun _ hk => hk.2) (.int .i64 ((rd_T31 l0 x10_1).f2.f0))) (fun _ hk => hk.2) (.int .i64 ((rd_T31 l0 x10_1).f2.f1))) (fun _ hk => hk.2) (.int .i64 ((rd_T31 l0 x10_1).f2.f2))) (fun _ hk => hk.2) (.int .i64 ((rd_T31 l0 x10_1).f3.f0))) (fun _ hk => hk.2) (.int .i64 ((rd_T31 l0 x10_1).f3.f1))) (fun _ hk => hk.2) (.int .i64 ((rd_T31 l0 x10_1).f3.f2))) (fun _ hk => hk.2) (.int .i64 ((rd_T31 l0 x10_1).f4.f0))) (fun _ hk => hk.2) (.int .i64 ((rd_T31 l0 x10_1).f4.f1))) (fun _ hk => hk.2) (.int .i64 ((rd_T31 l0 x10_1).f4.f2))) (fun _ hk => hk.2) (.int .i64 ((rd_T31 l0 x10_1).f5))) (fun _ hk => trivial)⟩, ⟨by repeat (first|(with_reducible first|exact HB.out|apply below_alloc|apply pw_below_drewN|apply below_drew1|refine below_set ?_ GE2.out)|exact HB.out)⟩⟩
     ·rw [if_neg c5] at H
      exact absurd H (by simp)
    ·rw [if_neg c4] at H
     exact absurd H (by simp)
   ·rw [if_neg c3] at H
    have c3b0 : decide (x10_1 < (l0.length : Int)) = false := decide_eq_false c3
    clear c3
    obtain rfl := Option.some.inj H
    go_wp2
    go_ret
    exact ⟨_, by first|rfl|(simp [errW_none, errW_some] <;> rfl)|(simp [*, errW_none, errW_some] <;> rfl), by (with_reducible repeat (first|apply Kd.R_alloc|apply Kd.R_drewN|apply Kd.R_drew));exact HO_5.out, by repeat (first|(with_reducible first|exact HB.out|apply below_alloc|apply pw_below_drewN|apply below_drew1)|exact HB.out)⟩
end Go.Proofs.Ytcgefpklljclgaa.Print

namespace Go.Proofs.Ytcgefpklljclgaa.Print
open Go.RowKit Go.Proofs.YtcgefpklljclgaaW.PrintWords Go.Proofs.YtcgefpklljclgaaW.PrintLast Go.Proofs.YtcgefpklljclgaaW.PrintMore
attribute [local go_sem] max2_int min2_int max_two min_two max_three min_three max_four min_four   -- for this text's walks alone
set_option linter.unusedVariables false
set_option linter.unusedSimpArgs false
/-! ### law12_awake: function 67 -/
def law12_awake.f (k : Nat)  : Option (Bool) := (some (([(⟨(⟨#[97]⟩ : ByteArray), (⟨#[]⟩ : ByteArray), (⟨0, 0, 0⟩ : S27), (⟨0, 0, 0⟩ : S27), (⟨0, 0, 0⟩ : S27), 1⟩ : S31)] : List (S31)) : List (S31))).bind fun y1 => ((tree_Right.f k ([] : List (S31))).bind fun t4 => (if t4 = true then ((tree_Right.f k y1).bind fun t5 => (if t5 = true then ((tree_Find.f y1 (⟨#[97]⟩ : ByteArray)).bind fun t6 => (if t6 = 0 then ((tree_Depth.f k y1 (⟨#[97]⟩ : ByteArray)).bind fun t7 => (if t7 = 1 then ((tree_Below.f k y1 (⟨#[]⟩ : ByteArray)).bind fun t8 => (some ((t8.length : Int) == 1))) else (some false))) else (some false))) else (some false))) else (some false)))
theorem law12_awake.mono : ∀ k, LeO (law12_awake.f k ) (law12_awake.f (k + 1) ) := by
 intro  k
 unfold law12_awake.f
 repeat' first
   | (with_reducible exact tree_Below.mono _ _ _)
   | (with_reducible exact tree_Depth.mono _ _ _)
   | (with_reducible exact tree_Right.mono _ _)
   | (with_reducible exact LeO.refl _)
   | (with_reducible exact LeO.none _)
   | (with_reducible refine LeO.ite ?_ ?_)
   | (with_reducible refine LeO.bind ?_ (fun _ => ?_))
   | exact tree_Below.mono _ _ _
   | exact tree_Depth.mono _ _ _
   | exact tree_Right.mono _ _
   | exact LeO.none _
   | refine LeO.ite ?_ ?_
   | refine LeO.bind ?_ (fun _ => ?_)
set_option maxHeartbeats 8000000 in
set_option maxRecDepth 100000 in
theorem law12_awake.calls (k : Nat)  (r : Bool) (w : World) (h : law12_awake.f k  = some r) :
  Calls Try.prog 67 #[] w fun e w' => e = .returned (.bool r) ∧ Below w.heap.size w w' := by
 have hu31 := Try.underlying31
 have HB := Aside0.mk (Below.refl w.heap.size w)
 have H : ((some (([(⟨(⟨#[97]⟩ : ByteArray), (⟨#[]⟩ : ByteArray), (⟨0, 0, 0⟩ : S27), (⟨0, 0, 0⟩ : S27), (⟨0, 0, 0⟩ : S27), 1⟩ : S31)] : List (S31)) : List (S31))).bind fun y1 => ((tree_Right.f k ([] : List (S31))).bind fun t4 => (if t4 = true then ((tree_Right.f k y1).bind fun t5 => (if t5 = true then ((tree_Find.f y1 (⟨#[97]⟩ : ByteArray)).bind fun t6 => (if t6 = 0 then ((tree_Depth.f k y1 (⟨#[97]⟩ : ByteArray)).bind fun t7 => (if t7 = 1 then ((tree_Below.f k y1 (⟨#[]⟩ : ByteArray)).bind fun t8 => (some ((t8.length : Int) == 1))) else (some false))) else (some false))) else (some false))) else (some false)))) = some r := h
 clear h
 obtain ⟨y1, hy1⟩ : ∃ y_ : List (S31), y_ = (([(⟨(⟨#[97]⟩ : ByteArray), (⟨#[]⟩ : ByteArray), (⟨0, 0, 0⟩ : S27), (⟨0, 0, 0⟩ : S27), (⟨0, 0, 0⟩ : S27), 1⟩ : S31)] : List (S31))) := ⟨_, rfl⟩
 replace H : ((tree_Right.f k ([] : List (S31))).bind fun t4 => (if t4 = true then ((tree_Right.f k y1).bind fun t5 => (if t5 = true then ((tree_Find.f y1 (⟨#[97]⟩ : ByteArray)).bind fun t6 => (if t6 = 0 then ((tree_Depth.f k y1 (⟨#[97]⟩ : ByteArray)).bind fun t7 => (if t7 = 1 then ((tree_Below.f k y1 (⟨#[]⟩ : ByteArray)).bind fun t8 => (some ((t8.length : Int) == 1))) else (some false))) else (some false))) else (some false))) else (some false))) = some r := by first|(rw [hy1];with_reducible exact H)|(have H2_ := (Option.bind_some _ _).symm.trans H;rw [hy1];with_reducible exact H2_)|(have H2_ := (Option.bind_some _ _).symm.trans H;with_reducible exact H2_)|with_reducible exact H|(rw [hy1];exact H)|exact H
 have Ny1 := Aside0.mk hy1
 clear hy1
 replace H := Option.bind_eq_some_iff.mp H
 obtain ⟨t4, A10, H⟩ := H
 replace H : (if t4 = true then ((tree_Right.f k y1).bind fun t5 => (if t5 = true then ((tree_Find.f y1 (⟨#[97]⟩ : ByteArray)).bind fun t6 => (if t6 = 0 then ((tree_Depth.f k y1 (⟨#[97]⟩ : ByteArray)).bind fun t7 => (if t7 = 1 then ((tree_Below.f k y1 (⟨#[]⟩ : ByteArray)).bind fun t8 => (some ((t8.length : Int) == 1))) else (some false))) else (some false))) else (some false))) else (some false)) = some r := H
 have A1 := Aside0.mk A10
 clear A10
 by_cases c2 : t4 = true
 ·subst c2
  have H1 : ((tree_Right.f k y1).bind fun t5 => (if t5 = true then ((tree_Find.f y1 (⟨#[97]⟩ : ByteArray)).bind fun t6 => (if t6 = 0 then ((tree_Depth.f k y1 (⟨#[97]⟩ : ByteArray)).bind fun t7 => (if t7 = 1 then ((tree_Below.f k y1 (⟨#[]⟩ : ByteArray)).bind fun t8 => (some ((t8.length : Int) == 1))) else (some false))) else (some false))) else (some false))) = some r := by rw [if_pos rfl] at H; exact H
  clear H
  have H := H1
  clear H1
  replace H := Option.bind_eq_some_iff.mp H
  obtain ⟨t5, A30, H⟩ := H
  replace H : (if t5 = true then ((tree_Find.f y1 (⟨#[97]⟩ : ByteArray)).bind fun t6 => (if t6 = 0 then ((tree_Depth.f k y1 (⟨#[97]⟩ : ByteArray)).bind fun t7 => (if t7 = 1 then ((tree_Below.f k y1 (⟨#[]⟩ : ByteArray)).bind fun t8 => (some ((t8.length : Int) == 1))) else (some false))) else (some false))) else (some false)) = some r := H
  have A3 := Aside0.mk A30
  clear A30
  by_cases c4 : t5 = true
  ·subst c4
   have H1 : ((tree_Find.f y1 (⟨#[97]⟩ : ByteArray)).bind fun t6 => (if t6 = 0 then ((tree_Depth.f k y1 (⟨#[97]⟩ : ByteArray)).bind fun t7 => (if t7 = 1 then ((tree_Below.f k y1 (⟨#[]⟩ : ByteArray)).bind fun t8 => (some ((t8.length : Int) == 1))) else (some false))) else (some false))) = some r := by rw [if_pos rfl] at H; exact H
   clear H
   have H := H1
   clear H1
   replace H := Option.bind_eq_some_iff.mp H
   obtain ⟨t6, A50, H⟩ := H
   replace H : (if t6 = 0 then ((tree_Depth.f k y1 (⟨#[97]⟩ : ByteArray)).bind fun t7 => (if t7 = 1 then ((tree_Below.f k y1 (⟨#[]⟩ : ByteArray)).bind fun t8 => (some ((t8.length : Int) == 1))) else (some false))) else (some false)) = some r := H
   have A5 := Aside0.mk A50
   clear A50
   by_cases c6 : t6 = 0
   ·rw [if_pos c6] at H
    have c6b0 : (t6 == 0) = true := beq_iff_eq.mpr c6
    have c6b1 : (t6 != 0) = false := bne_eq_false_iff_eq.mpr c6
    clear c6
    replace H := Option.bind_eq_some_iff.mp H
    obtain ⟨t7, A70, H⟩ := H
    replace H : (if t7 = 1 then ((tree_Below.f k y1 (⟨#[]⟩ : ByteArray)).bind fun t8 => (some ((t8.length : Int) == 1))) else (some false)) = some r := H
    have A7 := Aside0.mk A70
    clear A70
    by_cases c8 : t7 = 1
    ·rw [if_pos c8] at H
     have c8b0 : (t7 == 1) = true := beq_iff_eq.mpr c8
     have c8b1 : (t7 != 1) = false := bne_eq_false_iff_eq.mpr c8
     clear c8
     replace H := Option.bind_eq_some_iff.mp H
     obtain ⟨t8, A90, H⟩ := H
     replace H : (some ((t8.length : Int) == 1)) = some r := H
     have A9 := Aside0.mk A90
     clear A90
     obtain rfl := Option.some.inj H
     go_enter Try.func67, Try.ntmps67
     go_wp2_with (first|((with_reducible refine gate_dst (N := 3) rfl ?_);(try (refine gate_guard (by rfl) ?_;dsimp only));refine Kd.R_lit k31 _ 31 ?hg (N := 3) ?hd (xs := ([(⟨(⟨#[97]⟩ : ByteArray), (⟨#[]⟩ : ByteArray), (⟨0, 0, 0⟩ : S27), (⟨0, 0, 0⟩ : S27), (⟨0, 0, 0⟩ : S27), 1⟩ : S31)] : List (S31))) (inner := [.string (⟨#[97]⟩ : ByteArray), .string (⟨#[]⟩ : ByteArray), .int .i64 0, .int .i64 0, .int .i64 0, .int .i64 0, .int .i64 0, .int .i64 0, .int .i64 0, .int .i64 0, .int .i64 0, .int .i64 1]) (ok := fun _ => True) (okp := fun _ => True) ?hr ?hp (fun _ hk => hk) trivial (Below.refl _ _) (Nat.le_refl _) (by simp) ?_;(case hd => rfl);(case hg => rfl);(case hr => first|(go_simp;done)|(go_simp;rfl));(case hp => exact (Reps.front (show Kd.M k31 _ _ _ (⟨(⟨#[97]⟩ : ByteArray), (⟨#[]⟩ : ByteArray), (⟨0, 0, 0⟩ : S27), (⟨0, 0, 0⟩ : S27), (⟨0, 0, 0⟩ : S27), 1⟩ : S31) [.string (⟨#[97]⟩ : ByteArray), .string (⟨#[]⟩ : ByteArray), .int .i64 0, .int .i64 0, .int .i64 0, .int .i64 0, .int .i64 0, .int .i64 0, .int .i64 0, .int .i64 0, .int .i64 0, .int .i64 1] from (k31_mkM _ _ _ (⟨(⟨#[97]⟩ : ByteArray), (⟨#[]⟩ : ByteArray), (⟨0, 0, 0⟩ : S27), (⟨0, 0, 0⟩ : S27), (⟨0, 0, 0⟩ : S27), 1⟩ : S31) )) rfl (Reps.none _ _) rfl));intro v2 w10 ho11 hb hg_ hnew_;clear hg_ hnew_;(first|rw [← Ny1.out] at ho11|(simp only [Int.reduceToNat] at ho11;rw [← Ny1.out] at ho11));have n0_ := Aside0.mk (Kd.R_lower ho11 (below_size (by repeat (first|(with_reducible first|exact HB.out|apply below_alloc|apply pw_below_drewN|apply below_drew1)|exact HB.out))));have n1_ := Aside0.mk (below_step (by repeat (first|(with_reducible first|exact HB.out|apply below_alloc|apply pw_below_drewN|apply below_drew1)|exact HB.out)) hb);clear HB;have HO3 := n0_;have HB := n1_;clear n0_ n1_;clear hb ho11)|((with_reducible refine gate_callee (f := 68) rfl ?_);refine goesL_ (some 4) rfl rfl Try.func68 (by kernel_rfl) rfl #[.slice none 0 0] rfl (by (try simp only [List.map_toArray, List.map_cons, List.map_nil]);first|done|rfl|(simp only [List.length_drop, List.length_take];rfl)) ?_;(refine (tree_Right.calls k _ _ ([] : List (S31)) true _ ?side1 ?side2 A1.out).mono ?_);(case side1 => exact Kd.C_nil _ _);(case side2 => exact Nat.le_refl _);rintro e w12 ⟨rfl, hb⟩;refine ⟨_, rfl, ?_⟩;have n0_ := Aside0.mk (Kd.R_below (by (with_reducible repeat (first|apply Kd.R_alloc|apply Kd.R_drewN|apply Kd.R_drew));exact HO3.out) hb);have n1_ := Aside0.mk (below_step (by repeat (first|(with_reducible first|exact HB.out|apply below_alloc|apply pw_below_drewN|apply below_drew1)|exact HB.out)) hb);clear HO3;clear HB;have HO3 := n0_;have HB := n1_;clear n0_ n1_;(try clear hb);(try clear hb2);(try clear hk);(try clear hi);obtain ⟨Ao13, co13, eo13⟩ := Kd.R_slice HO3.out;subst eo13)|(go_at_call 68;(with_reducible refine (tree_Right.calls k _ _ y1 true _ ?side1 ?side2 A3.out).mono ?_);(case side1 => repeat (first|exact (Kd.R_reads' HO3.out).2.2|(with_reducible refine Kd.C_alloc ?_ _)|(with_reducible refine Kd.C_drewN ?_ _)|(with_reducible refine Kd.C_drew ?_)));(case side2 => exact (Kd.R_reads' HO3.out).2.1);rintro e w14 ⟨rfl, hb⟩;have n0_ := Aside0.mk (Kd.R_below (by (with_reducible repeat (first|apply Kd.R_alloc|apply Kd.R_drewN|apply Kd.R_drew));exact HO3.out) hb);have n1_ := Aside0.mk (below_step (by repeat (first|(with_reducible first|exact HB.out|apply below_alloc|apply pw_below_drewN|apply below_drew1)|exact HB.out)) hb);clear HO3;clear HB;have HO3 := n0_;have HB := n1_;clear n0_ n1_;(try clear hb);(try clear hb2);(try clear hk);(try clear hi))|(go_at_call 71;(with_reducible refine (tree_Find.calls _ _ y1 (⟨#[97]⟩ : ByteArray) t6 _ ?side1 ?side2 A5.out).mono ?_);(case side1 => repeat (first|exact (Kd.R_reads' HO3.out).2.2|(with_reducible refine Kd.C_alloc ?_ _)|(with_reducible refine Kd.C_drewN ?_ _)|(with_reducible refine Kd.C_drew ?_)));(case side2 => exact (Kd.R_reads' HO3.out).2.1);rintro e w15 ⟨rfl, hb⟩;have n0_ := Aside0.mk (Kd.R_below (by (with_reducible repeat (first|apply Kd.R_alloc|apply Kd.R_drewN|apply Kd.R_drew));exact HO3.out) hb);have n1_ := Aside0.mk (below_step (by repeat (first|(with_reducible first|exact HB.out|apply below_alloc|apply pw_below_drewN|apply below_drew1)|exact HB.out)) hb);clear HO3;clear HB;have HO3 := n0_;have HB := n1_;clear n0_ n1_;(try clear hb);(try clear hb2);(try clear hk);(try clear hi))|(go_at_call 72;(with_reducible refine (tree_Depth.calls k _ _ y1 (⟨#[97]⟩ : ByteArray) t7 _ ?side1 ?side2 A7.out).mono ?_);(case side1 => repeat (first|exact (Kd.R_reads' HO3.out).2.2|(with_reducible refine Kd.C_alloc ?_ _)|(with_reducible refine Kd.C_drewN ?_ _)|(with_reducible refine Kd.C_drew ?_)));(case side2 => exact (Kd.R_reads' HO3.out).2.1);rintro e w16 ⟨rfl, hb⟩;have n0_ := Aside0.mk (Kd.R_below (by (with_reducible repeat (first|apply Kd.R_alloc|apply Kd.R_drewN|apply Kd.R_drew));exact HO3.out) hb);have n1_ := Aside0.mk (below_step (by repeat (first|(with_reducible first|exact HB.out|apply below_alloc|apply pw_below_drewN|apply below_drew1)|exact HB.out)) hb);clear HO3;clear HB;have HO3 := n0_;have HB := n1_;clear n0_ n1_;(try clear hb);(try clear hb2);(try clear hk);(try clear hi))|(go_at_call 73;(with_reducible refine (tree_Below.calls k _ _ y1 (⟨#[]⟩ : ByteArray) t8 _ ?side1 ?side2 A9.out).mono ?_);(case side1 => repeat (first|exact (Kd.R_reads' HO3.out).2.2|(with_reducible refine Kd.C_alloc ?_ _)|(with_reducible refine Kd.C_drewN ?_ _)|(with_reducible refine Kd.C_drew ?_)));(case side2 => exact (Kd.R_reads' HO3.out).2.1);rintro e w17 ⟨v9, rfl, ho0, hb⟩;have n0_ := Aside0.mk (Kd.R_below (by (with_reducible repeat (first|apply Kd.R_alloc|apply Kd.R_drewN|apply Kd.R_drew));exact HO3.out) hb);have n1_ := Aside0.mk (Kd.R_lower ho0 (below_size (by repeat (first|(with_reducible first|exact HB.out|apply below_alloc|apply pw_below_drewN|apply below_drew1)|exact HB.out))));have n2_ := Aside0.mk (below_step (by repeat (first|(with_reducible first|exact HB.out|apply below_alloc|apply pw_below_drewN|apply below_drew1)|exact HB.out)) hb);clear HO3;clear HB;have HO3 := n0_;have HO10 := n1_;have HB := n2_;clear n0_ n1_ n2_;(try clear hb);(try clear hb2);(try clear hk);(try clear hi);(try clear ho0);obtain ⟨Ao18, co18, eo18⟩ := Kd.R_slice HO10.out;subst eo18))
     go_ret
     exact ⟨by first|rfl|(simp [errW_none, errW_some] <;> rfl)|(simp [*, errW_none, errW_some] <;> rfl), by repeat (first|(with_reducible first|exact HB.out|apply below_alloc|apply pw_below_drewN|apply below_drew1)|exact HB.out)⟩
    ·rw [if_neg c8] at H
     have c8b0 : (t7 == 1) = false := beq_eq_false_iff_ne.mpr c8
     have c8b1 : (t7 != 1) = true := bne_iff_ne.mpr c8
     obtain rfl := Option.some.inj H
     go_enter Try.func67, Try.ntmps67
     go_wp2_with (first|((with_reducible refine gate_dst (N := 3) rfl ?_);(try (refine gate_guard (by rfl) ?_;dsimp only));refine Kd.R_lit k31 _ 31 ?hg (N := 3) ?hd (xs := ([(⟨(⟨#[97]⟩ : ByteArray), (⟨#[]⟩ : ByteArray), (⟨0, 0, 0⟩ : S27), (⟨0, 0, 0⟩ : S27), (⟨0, 0, 0⟩ : S27), 1⟩ : S31)] : List (S31))) (inner := [.string (⟨#[97]⟩ : ByteArray), .string (⟨#[]⟩ : ByteArray), .int .i64 0, .int .i64 0, .int .i64 0, .int .i64 0, .int .i64 0, .int .i64 0, .int .i64 0, .int .i64 0, .int .i64 0, .int .i64 1]) (ok := fun _ => True) (okp := fun _ => True) ?hr ?hp (fun _ hk => hk) trivial (Below.refl _ _) (Nat.le_refl _) (by simp) ?_;(case hd => rfl);(case hg => rfl);(case hr => first|(go_simp;done)|(go_simp;rfl));(case hp => exact (Reps.front (show Kd.M k31 _ _ _ (⟨(⟨#[97]⟩ : ByteArray), (⟨#[]⟩ : ByteArray), (⟨0, 0, 0⟩ : S27), (⟨0, 0, 0⟩ : S27), (⟨0, 0, 0⟩ : S27), 1⟩ : S31) [.string (⟨#[97]⟩ : ByteArray), .string (⟨#[]⟩ : ByteArray), .int .i64 0, .int .i64 0, .int .i64 0, .int .i64 0, .int .i64 0, .int .i64 0, .int .i64 0, .int .i64 0, .int .i64 0, .int .i64 1] from (k31_mkM _ _ _ (⟨(⟨#[97]⟩ : ByteArray), (⟨#[]⟩ : ByteArray), (⟨0, 0, 0⟩ : S27), (⟨0, 0, 0⟩ : S27), (⟨0, 0, 0⟩ : S27), 1⟩ : S31) )) rfl (Reps.none _ _) rfl));intro v2 w19 ho20 hb hg_ hnew_;clear hg_ hnew_;(first|rw [← Ny1.out] at ho20|(simp only [Int.reduceToNat] at ho20;rw [← Ny1.out] at ho20));have n0_ := Aside0.mk (Kd.R_lower ho20 (below_size (by repeat (first|(with_reducible first|exact HB.out|apply below_alloc|apply pw_below_drewN|apply below_drew1)|exact HB.out))));have n1_ := Aside0.mk (below_step (by repeat (first|(with_reducible first|exact HB.out|apply below_alloc|apply pw_below_drewN|apply below_drew1)|exact HB.out)) hb);clear HB;have HO3 := n0_;have HB := n1_;clear n0_ n1_;clear hb ho20)|((with_reducible refine gate_callee (f := 68) rfl ?_);refine goesL_ (some 4) rfl rfl Try.func68 (by kernel_rfl) rfl #[.slice none 0 0] rfl (by (try simp only [List.map_toArray, List.map_cons, List.map_nil]);first|done|rfl|(simp only [List.length_drop, List.length_take];rfl)) ?_;(refine (tree_Right.calls k _ _ ([] : List (S31)) true _ ?side1 ?side2 A1.out).mono ?_);(case side1 => exact Kd.C_nil _ _);(case side2 => exact Nat.le_refl _);rintro e w21 ⟨rfl, hb⟩;refine ⟨_, rfl, ?_⟩;have n0_ := Aside0.mk (Kd.R_below (by (with_reducible repeat (first|apply Kd.R_alloc|apply Kd.R_drewN|apply Kd.R_drew));exact HO3.out) hb);have n1_ := Aside0.mk (below_step (by repeat (first|(with_reducible first|exact HB.out|apply below_alloc|apply pw_below_drewN|apply below_drew1)|exact HB.out)) hb);clear HO3;clear HB;have HO3 := n0_;have HB := n1_;clear n0_ n1_;(try clear hb);(try clear hb2);(try clear hk);(try clear hi);obtain ⟨Ao22, co22, eo22⟩ := Kd.R_slice HO3.out;subst eo22)|(go_at_call 68;(with_reducible refine (tree_Right.calls k _ _ y1 true _ ?side1 ?side2 A3.out).mono ?_);(case side1 => repeat (first|exact (Kd.R_reads' HO3.out).2.2|(with_reducible refine Kd.C_alloc ?_ _)|(with_reducible refine Kd.C_drewN ?_ _)|(with_reducible refine Kd.C_drew ?_)));(case side2 => exact (Kd.R_reads' HO3.out).2.1);rintro e w23 ⟨rfl, hb⟩;have n0_ := Aside0.mk (Kd.R_below (by (with_reducible repeat (first|apply Kd.R_alloc|apply Kd.R_drewN|apply Kd.R_drew));exact HO3.out) hb);have n1_ := Aside0.mk (below_step (by repeat (first|(with_reducible first|exact HB.out|apply below_alloc|apply pw_below_drewN|apply below_drew1)|exact HB.out)) hb);clear HO3;clear HB;have HO3 := n0_;have HB := n1_;clear n0_ n1_;(try clear hb);(try clear hb2);(try clear hk);(try clear hi))|(go_at_call 71;(with_reducible refine (tree_Find.calls _ _ y1 (⟨#[97]⟩ : ByteArray) t6 _ ?side1 ?side2 A5.out).mono ?_);(case side1 => repeat (first|exact (Kd.R_reads' HO3.out).2.2|(with_reducible refine Kd.C_alloc ?_ _)|(with_reducible refine Kd.C_drewN ?_ _)|(with_reducible refine Kd.C_drew ?_)));(case side2 => exact (Kd.R_reads' HO3.out).2.1);rintro e w24 ⟨rfl, hb⟩;have n0_ := Aside0.mk (Kd.R_below (by (with_reducible repeat (first|apply Kd.R_alloc|apply Kd.R_drewN|apply Kd.R_drew));exact HO3.out) hb);have n1_ := Aside0.mk (below_step (by repeat (first|(with_reducible first|exact HB.out|apply below_alloc|apply pw_below_drewN|apply below_drew1)|exact HB.out)) hb);clear HO3;clear HB;have HO3 := n0_;have HB := n1_;clear n0_ n1_;(try clear hb);(try clear hb2);(try clear hk);(try clear hi))|(go_at_call 72;(with_reducible refine (tree_Depth.calls k _ _ y1 (⟨#[97]⟩ : ByteArray) t7 _ ?side1 ?side2 A7.out).mono ?_);(case side1 => repeat (first|exact (Kd.R_reads' HO3.out).2.2|(with_reducible refine Kd.C_alloc ?_ _)|(with_reducible refine Kd.C_drewN ?_ _)|(with_reducible refine Kd.C_drew ?_)));(case side2 => exact (Kd.R_reads' HO3.out).2.1);rintro e w25 ⟨rfl, hb⟩;have n0_ := Aside0.mk (Kd.R_below (by (with_reducible repeat (first|apply Kd.R_alloc|apply Kd.R_drewN|apply Kd.R_drew));exact HO3.out) hb);have n1_ := Aside0.mk (below_step (by repeat (first|(with_reducible first|exact HB.out|apply below_alloc|apply pw_below_drewN|apply below_drew1)|exact HB.out)) hb);clear HO3;clear HB;have HO3 := n0_;have HB := n1_;clear n0_ n1_;(try clear hb);(try clear hb2);(try clear hk);(try clear hi)))
     go_ret
     exact ⟨by first|rfl|(simp [errW_none, errW_some] <;> rfl)|(simp [*, errW_none, errW_some] <;> rfl), by repeat (first|(with_reducible first|exact HB.out|apply below_alloc|apply pw_below_drewN|apply below_drew1)|exact HB.out)⟩
   ·rw [if_neg c6] at H
    have c6b0 : (t6 == 0) = false := beq_eq_false_iff_ne.mpr c6
    have c6b1 : (t6 != 0) = true := bne_iff_ne.mpr c6
    obtain rfl := Option.some.inj H
    go_enter Try.func67, Try.ntmps67
    go_wp2_with (first|((with_reducible refine gate_dst (N := 3) rfl ?_);(try (refine gate_guard (by rfl) ?_;dsimp only));refine Kd.R_lit k31 _ 31 ?hg (N := 3) ?hd (xs := ([(⟨(⟨#[97]⟩ : ByteArray), (⟨#[]⟩ : ByteArray), (⟨0, 0, 0⟩ : S27), (⟨0, 0, 0⟩ : S27), (⟨0, 0, 0⟩ : S27), 1⟩ : S31)] : List (S31))) (inner := [.string (⟨#[97]⟩ : ByteArray), .string (⟨#[]⟩ : ByteArray), .int .i64 0, .int .i64 0, .int .i64 0, .int .i64 0, .int .i64 0, .int .i64 0, .int .i64 0, .int .i64 0, .int .i64 0, .int .i64 1]) (ok := fun _ => True) (okp := fun _ => True) ?hr ?hp (fun _ hk => hk) trivial (Below.refl _ _) (Nat.le_refl _) (by simp) ?_;(case hd => rfl);(case hg => rfl);(case hr => first|(go_simp;done)|(go_simp;rfl));(case hp => exact (Reps.front (show Kd.M k31 _ _ _ (⟨(⟨#[97]⟩ : ByteArray), (⟨#[]⟩ : ByteArray), (⟨0, 0, 0⟩ : S27), (⟨0, 0, 0⟩ : S27), (⟨0, 0, 0⟩ : S27), 1⟩ : S31) [.string (⟨#[97]⟩ : ByteArray), .string (⟨#[]⟩ : ByteArray), .int .i64 0, .int .i64 0, .int .i64 0, .int .i64 0, .int .i64 0, .int .i64 0, .int .i64 0, .int .i64 0, .int .i64 0, .int .i64 1] from (k31_mkM _ _ _ (⟨(⟨#[97]⟩ : ByteArray), (⟨#[]⟩ : ByteArray), (⟨0, 0, 0⟩ : S27), (⟨0, 0, 0⟩ : S27), (⟨0, 0, 0⟩ : S27), 1⟩ : S31) )) rfl (Reps.none _ _) rfl));intro v2 w26 ho27 hb hg_ hnew_;clear hg_ hnew_;(first|rw [← Ny1.out] at ho27|(simp only [Int.reduceToNat] at ho27;rw [← Ny1.out] at ho27));have n0_ := Aside0.mk (Kd.R_lower ho27 (below_size (by repeat (first|(with_reducible first|exact HB.out|apply below_alloc|apply pw_below_drewN|apply below_drew1)|exact HB.out))));have n1_ := Aside0.mk (below_step (by repeat (first|(with_reducible first|exact HB.out|apply below_alloc|apply pw_below_drewN|apply below_drew1)|exact HB.out)) hb);clear HB;have HO3 := n0_;have HB := n1_;clear n0_ n1_;clear hb ho27)|((with_reducible refine gate_callee (f := 68) rfl ?_);refine goesL_ (some 4) rfl rfl Try.func68 (by kernel_rfl) rfl #[.slice none 0 0] rfl (by (try simp only [List.map_toArray, List.map_cons, List.map_nil]);first|done|rfl|(simp only [List.length_drop, List.length_take];rfl)) ?_;(refine (tree_Right.calls k _ _ ([] : List (S31)) true _ ?side1 ?side2 A1.out).mono ?_);(case side1 => exact Kd.C_nil _ _);(case side2 => exact Nat.le_refl _);rintro e w28 ⟨rfl, hb⟩;refine ⟨_, rfl, ?_⟩;have n0_ := Aside0.mk (Kd.R_below (by (with_reducible repeat (first|apply Kd.R_alloc|apply Kd.R_drewN|apply Kd.R_drew));exact HO3.out) hb);have n1_ := Aside0.mk (below_step (by repeat (first|(with_reducible first|exact HB.out|apply below_alloc|apply pw_below_drewN|apply below_drew1)|exact HB.out)) hb);clear HO3;clear HB;have HO3 := n0_;have HB := n1_;clear n0_ n1_;(try clear hb);(try clear hb2);(try clear hk);(try clear hi);obtain ⟨Ao29, co29, eo29⟩ := Kd.R_slice HO3.out;subst eo29)|(go_at_call 68;(with_reducible refine (tree_Right.calls k _ _ y1 true _ ?side1 ?side2 A3.out).mono ?_);(case side1 => repeat (first|exact (Kd.R_reads' HO3.out).2.2|(with_reducible refine Kd.C_alloc ?_ _)|(with_reducible refine Kd.C_drewN ?_ _)|(with_reducible refine Kd.C_drew ?_)));(case side2 => exact (Kd.R_reads' HO3.out).2.1);rintro e w30 ⟨rfl, hb⟩;have n0_ := Aside0.mk (Kd.R_below (by (with_reducible repeat (first|apply Kd.R_alloc|apply Kd.R_drewN|apply Kd.R_drew));exact HO3.out) hb);have n1_ := Aside0.mk (below_step (by repeat (first|(with_reducible first|exact HB.out|apply below_alloc|apply pw_below_drewN|apply below_drew1)|exact HB.out)) hb);clear HO3;clear HB;have HO3 := n0_;have HB := n1_;clear n0_ n1_;(try clear hb);(try clear hb2);(try clear hk);(try clear hi))|(go_at_call 71;(with_reducible refine (tree_Find.calls _ _ y1 (⟨#[97]⟩ : ByteArray) t6 _ ?side1 ?side2 A5.out).mono ?_);(case side1 => repeat (first|exact (Kd.R_reads' HO3.out).2.2|(with_reducible refine Kd.C_alloc ?_ _)|(with_reducible refine Kd.C_drewN ?_ _)|(with_reducible refine Kd.C_drew ?_)));(case side2 => exact (Kd.R_reads' HO3.out).2.1);rintro e w31 ⟨rfl, hb⟩;have n0_ := Aside0.mk (Kd.R_below (by (with_reducible repeat (first|apply Kd.R_alloc|apply Kd.R_drewN|apply Kd.R_drew));exact HO3.out) hb);have n1_ := Aside0.mk (below_step (by repeat (first|(with_reducible first|exact HB.out|apply below_alloc|apply pw_below_drewN|apply below_drew1)|exact HB.out)) hb);clear HO3;clear HB;have HO3 := n0_;have HB := n1_;clear n0_ n1_;(try clear hb);(try clear hb2);(try clear hk);(try clear hi)))
    go_ret
    exact ⟨by first|rfl|(simp [errW_none, errW_some] <;> rfl)|(simp [*, errW_none, errW_some] <;> rfl), by repeat (first|(with_reducible first|exact HB.out|apply below_alloc|apply pw_below_drewN|apply below_drew1)|exact HB.out)⟩
  ·replace c4 := Bool.eq_false_iff.mpr c4
   subst c4
   have H1 : (some false) = some r := by rw [if_neg (show ¬ (false = true) by decide)] at H; exact H
   clear H
   have H := H1
   clear H1
   obtain rfl := Option.some.inj H
   go_enter Try.func67, Try.ntmps67
   go_wp2_with (first|((with_reducible refine gate_dst (N := 3) rfl ?_);(try (refine gate_guard (by rfl) ?_;dsimp only));refine Kd.R_lit k31 _ 31 ?hg (N := 3) ?hd (xs := ([(⟨(⟨#[97]⟩ : ByteArray), (⟨#[]⟩ : ByteArray), (⟨0, 0, 0⟩ : S27), (⟨0, 0, 0⟩ : S27), (⟨0, 0, 0⟩ : S27), 1⟩ : S31)] : List (S31))) (inner := [.string (⟨#[97]⟩ : ByteArray), .string (⟨#[]⟩ : ByteArray), .int .i64 0, .int .i64 0, .int .i64 0, .int .i64 0, .int .i64 0, .int .i64 0, .int .i64 0, .int .i64 0, .int .i64 0, .int .i64 1]) (ok := fun _ => True) (okp := fun _ => True) ?hr ?hp (fun _ hk => hk) trivial (Below.refl _ _) (Nat.le_refl _) (by simp) ?_;(case hd => rfl);(case hg => rfl);(case hr => first|(go_simp;done)|(go_simp;rfl));(case hp => exact (Reps.front (show Kd.M k31 _ _ _ (⟨(⟨#[97]⟩ : ByteArray), (⟨#[]⟩ : ByteArray), (⟨0, 0, 0⟩ : S27), (⟨0, 0, 0⟩ : S27), (⟨0, 0, 0⟩ : S27), 1⟩ : S31) [.string (⟨#[97]⟩ : ByteArray), .string (⟨#[]⟩ : ByteArray), .int .i64 0, .int .i64 0, .int .i64 0, .int .i64 0, .int .i64 0, .int .i64 0, .int .i64 0, .int .i64 0, .int .i64 0, .int .i64 1] from (k31_mkM _ _ _ (⟨(⟨#[97]⟩ : ByteArray), (⟨#[]⟩ : ByteArray), (⟨0, 0, 0⟩ : S27), (⟨0, 0, 0⟩ : S27), (⟨0, 0, 0⟩ : S27), 1⟩ : S31) )) rfl (Reps.none _ _) rfl));intro v2 w32 ho33 hb hg_ hnew_;clear hg_ hnew_;(first|rw [← Ny1.out] at ho33|(simp only [Int.reduceToNat] at ho33;rw [← Ny1.out] at ho33));have n0_ := Aside0.mk (Kd.R_lower ho33 (below_size (by repeat (first|(with_reducible first|exact HB.out|apply below_alloc|apply pw_below_drewN|apply below_drew1)|exact HB.out))));have n1_ := Aside0.mk (below_step (by repeat (first|(with_reducible first|exact HB.out|apply below_alloc|apply pw_below_drewN|apply below_drew1)|exact HB.out)) hb);clear HB;have HO3 := n0_;have HB := n1_;clear n0_ n1_;clear hb ho33)|((with_reducible refine gate_callee (f := 68) rfl ?_);refine goesL_ (some 4) rfl rfl Try.func68 (by kernel_rfl) rfl #[.slice none 0 0] rfl (by (try simp only [List.map_toArray, List.map_cons, List.map_nil]);first|done|rfl|(simp only [List.length_drop, List.length_take];rfl)) ?_;(refine (tree_Right.calls k _ _ ([] : List (S31)) true _ ?side1 ?side2 A1.out).mono ?_);(case side1 => exact Kd.C_nil _ _);(case side2 => exact Nat.le_refl _);rintro e w34 ⟨rfl, hb⟩;refine ⟨_, rfl, ?_⟩;have n0_ := Aside0.mk (Kd.R_below (by (with_reducible repeat (first|apply Kd.R_alloc|apply Kd.R_drewN|apply Kd.R_drew));exact HO3.out) hb);have n1_ := Aside0.mk (below_step (by repeat (first|(with_reducible first|exact HB.out|apply below_alloc|apply pw_below_drewN|apply below_drew1)|exact HB.out)) hb);clear HO3;clear HB;have HO3 := n0_;have HB := n1_;clear n0_ n1_;(try clear hb);(try clear hb2);(try clear hk);(try clear hi);obtain ⟨Ao35, co35, eo35⟩ := Kd.R_slice HO3.out;subst eo35)|(go_at_call 68;(with_reducible refine (tree_Right.calls k _ _ y1 false _ ?side1 ?side2 A3.out).mono ?_);(case side1 => repeat (first|exact (Kd.R_reads' HO3.out).2.2|(with_reducible refine Kd.C_alloc ?_ _)|(with_reducible refine Kd.C_drewN ?_ _)|(with_reducible refine Kd.C_drew ?_)));(case side2 => exact (Kd.R_reads' HO3.out).2.1);rintro e w36 ⟨rfl, hb⟩;have n0_ := Aside0.mk (Kd.R_below (by (with_reducible repeat (first|apply Kd.R_alloc|apply Kd.R_drewN|apply Kd.R_drew));exact HO3.out) hb);have n1_ := Aside0.mk (below_step (by repeat (first|(with_reducible first|exact HB.out|apply below_alloc|apply pw_below_drewN|apply below_drew1)|exact HB.out)) hb);clear HO3;clear HB;have HO3 := n0_;have HB := n1_;clear n0_ n1_;(try clear hb);(try clear hb2);(try clear hk);(try clear hi)))
   go_ret
   exact ⟨by first|rfl|(simp [errW_none, errW_some] <;> rfl)|(simp [*, errW_none, errW_some] <;> rfl), by repeat (first|(with_reducible first|exact HB.out|apply below_alloc|apply pw_below_drewN|apply below_drew1)|exact HB.out)⟩
 ·replace c2 := Bool.eq_false_iff.mpr c2
  subst c2
  have H1 : (some false) = some r := by rw [if_neg (show ¬ (false = true) by decide)] at H; exact H
  clear H
  have H := H1
  clear H1
  obtain rfl := Option.some.inj H
  go_enter Try.func67, Try.ntmps67
  go_wp2_with (first|((with_reducible refine gate_dst (N := 3) rfl ?_);(try (refine gate_guard (by rfl) ?_;dsimp only));refine Kd.R_lit k31 _ 31 ?hg (N := 3) ?hd (xs := ([(⟨(⟨#[97]⟩ : ByteArray), (⟨#[]⟩ : ByteArray), (⟨0, 0, 0⟩ : S27), (⟨0, 0, 0⟩ : S27), (⟨0, 0, 0⟩ : S27), 1⟩ : S31)] : List (S31))) (inner := [.string (⟨#[97]⟩ : ByteArray), .string (⟨#[]⟩ : ByteArray), .int .i64 0, .int .i64 0, .int .i64 0, .int .i64 0, .int .i64 0, .int .i64 0, .int .i64 0, .int .i64 0, .int .i64 0, .int .i64 1]) (ok := fun _ => True) (okp := fun _ => True) ?hr ?hp (fun _ hk => hk) trivial (Below.refl _ _) (Nat.le_refl _) (by simp) ?_;(case hd => rfl);(case hg => rfl);(case hr => first|(go_simp;done)|(go_simp;rfl));(case hp => exact (Reps.front (show Kd.M k31 _ _ _ (⟨(⟨#[97]⟩ : ByteArray), (⟨#[]⟩ : ByteArray), (⟨0, 0, 0⟩ : S27), (⟨0, 0, 0⟩ : S27), (⟨0, 0, 0⟩ : S27), 1⟩ : S31) [.string (⟨#[97]⟩ : ByteArray), .string (⟨#[]⟩ : ByteArray), .int .i64 0, .int .i64 0, .int .i64 0, .int .i64 0, .int .i64 0, .int .i64 0, .int .i64 0, .int .i64 0, .int .i64 0, .int .i64 1] from (k31_mkM _ _ _ (⟨(⟨#[97]⟩ : ByteArray), (⟨#[]⟩ : ByteArray), (⟨0, 0, 0⟩ : S27), (⟨0, 0, 0⟩ : S27), (⟨0, 0, 0⟩ : S27), 1⟩ : S31) )) rfl (Reps.none _ _) rfl));intro v2 w37 ho38 hb hg_ hnew_;clear hg_ hnew_;(first|rw [← Ny1.out] at ho38|(simp only [Int.reduceToNat] at ho38;rw [← Ny1.out] at ho38));have n0_ := Aside0.mk (Kd.R_lower ho38 (below_size (by repeat (first|(with_reducible first|exact HB.out|apply below_alloc|apply pw_below_drewN|apply below_drew1)|exact HB.out))));have n1_ := Aside0.mk (below_step (by repeat (first|(with_reducible first|exact HB.out|apply below_alloc|apply pw_below_drewN|apply below_drew1)|exact HB.out)) hb);clear HB;have HO3 := n0_;have HB := n1_;clear n0_ n1_;clear hb ho38)|((with_reducible refine gate_callee (f := 68) rfl ?_);refine goesL_ (some 4) rfl rfl Try.func68 (by kernel_rfl) rfl #[.slice none 0 0] rfl (by (try simp only [List.map_toArray, List.map_cons, List.map_nil]);first|done|rfl|(simp only [List.length_drop, List.length_take];rfl)) ?_;(refine (tree_Right.calls k _ _ ([] : List (S31)) false _ ?side1 ?side2 A1.out).mono ?_);(case side1 => exact Kd.C_nil _ _);(case side2 => exact Nat.le_refl _);rintro e w39 ⟨rfl, hb⟩;refine ⟨_, rfl, ?_⟩;have n0_ := Aside0.mk (Kd.R_below (by (with_reducible repeat (first|apply Kd.R_alloc|apply Kd.R_drewN|apply Kd.R_drew));exact HO3.out) hb);have n1_ := Aside0.mk (below_step (by repeat (first|(with_reducible first|exact HB.out|apply below_alloc|apply pw_below_drewN|apply below_drew1)|exact HB.out)) hb);clear HO3;clear HB;have HO3 := n0_;have HB := n1_;clear n0_ n1_;(try clear hb);(try clear hb2);(try clear hk);(try clear hi)))
  go_ret
  exact ⟨by first|rfl|(simp [errW_none, errW_some] <;> rfl)|(simp [*, errW_none, errW_some] <;> rfl), by repeat (first|(with_reducible first|exact HB.out|apply below_alloc|apply pw_below_drewN|apply below_drew1)|exact HB.out)⟩
end Go.Proofs.Ytcgefpklljclgaa.Print

namespace Go.Proofs.Ytcgefpklljclgaa.Print
open Go.RowKit Go.Proofs.YtcgefpklljclgaaW.PrintWords Go.Proofs.YtcgefpklljclgaaW.PrintLast Go.Proofs.YtcgefpklljclgaaW.PrintMore
attribute [local go_sem] max2_int min2_int max_two min_two max_three min_three max_four min_four   -- for this text's walks alone
set_option linter.unusedVariables false
set_option linter.unusedSimpArgs false
/-! ### r10_Below: function 75 -/
def r10_Below.l0 : Nat → List (S31) → ByteArray → List ByteArray → Int → Option (List ByteArray)
 | 0, _, _, _, _ => none
 | k + 1, x0, x1, x5, x6 => if x6 < (x0.length : Int) then (if 0 ≤ x6 then (if ((rd_T31 x0 x6).f1).toList = x1.toList then (if x5.length < 8796093022208 then (r10_Below.l0 k x0 x1 (x5 ++ [(rd_T31 x0 x6).f0]) (wrap64 (x6 + 1))) else (none)) else (r10_Below.l0 k x0 x1 x5 (wrap64 (x6 + 1)))) else (none)) else (some x5)
def r10_Below.f (k : Nat) (l0 : List (S31)) (a1 : ByteArray) : Option (List ByteArray) := r10_Below.l0 k l0 a1 ([] : List ByteArray) 0
theorem r10_Below.mono_l : ∀ k, (∀ y0 y1 y2 y3, LeO (r10_Below.l0 k y0 y1 y2 y3) (r10_Below.l0 (k + 1) y0 y1 y2 y3))
 | 0 => fun _ _ _ _ r h => by simp [r10_Below.l0] at h
 | k + 1 => by
  have ih0 := r10_Below.mono_l k
  ·intro y0 y1 y2 y3
   unfold r10_Below.l0
   repeat' first
   | (with_reducible exact ih0 _ _ _ _)
   | (with_reducible exact LeO.refl _)
   | (with_reducible exact LeO.none _)
   | (with_reducible refine LeO.ite ?_ ?_)
   | (with_reducible refine LeO.bind ?_ (fun _ => ?_))
   | exact ih0 _ _ _ _
   | exact LeO.none _
   | refine LeO.ite ?_ ?_
   | refine LeO.bind ?_ (fun _ => ?_)
theorem r10_Below.mono : ∀ a0 a1 k, LeO (r10_Below.f k a0 a1) (r10_Below.f (k + 1) a0 a1) := by
 intro a0 a1 k
 have ih0 := r10_Below.mono_l k
 unfold r10_Below.f
 repeat' first
   | (with_reducible exact ih0 _ _ _ _)
   | (with_reducible exact LeO.refl _)
   | (with_reducible exact LeO.none _)
   | (with_reducible refine LeO.ite ?_ ?_)
   | (with_reducible refine LeO.bind ?_ (fun _ => ?_))
   | exact ih0 _ _ _ _
   | exact LeO.none _
   | refine LeO.ite ?_ ?_
   | refine LeO.bind ?_ (fun _ => ?_)
set_option maxHeartbeats 8000000 in
set_option maxRecDepth 100000 in
theorem r10_Below.calls (k : Nat) (A0 : Option Addr) (c0 : Nat) (l0 : List (S31)) (a1 : ByteArray) (r : List ByteArray) (w : World) (hr0 : Kd.C k31 w A0 l0.length l0) (hc0 : l0.length ≤ c0) (h : r10_Below.f k l0 a1 = some r) :
  Calls Try.prog 75 #[.slice A0 l0.length c0, .string a1] w fun e w' => ∃ v0_ : Value, e = .returned (v0_) ∧ Kd.R Kd.string 9 w' w.heap.size (fun _ => True) v0_ r ∧ Below w.heap.size w w' := by
 have HR0 := Aside0.mk hr0
 have HC0 := Aside0.mk hc0
 clear hr0 hc0
 have HB := Aside0.mk (Below.refl w.heap.size w)
 have H : (r10_Below.l0 k l0 a1 ([] : List ByteArray) 0) = some r := h
 clear h
 have H' := Aside0.mk H
 clear H
 go_enter Try.func75, Try.ntmps75
 go_wp2
 go_loopg [5, 6] k (fun kq v5 v6 w' => ∃ (x5_1 : List ByteArray) (x6_1 : Int), v6 = .int .i64 x6_1 ∧ Aside0 (r10_Below.l0 kq l0 a1 x5_1 x6_1 = some r) ∧ Aside0 (kq ≤ k) ∧ Aside0 (Kd.R Kd.string 9 w' w.heap.size (fun _ => True) v5 x5_1) ∧ Aside0 (Below w.heap.size w w'))
 case atStart => exact ⟨(([] : List ByteArray)), (0), (by first|rfl|(simp;done)|(simp [*];done)), H', ⟨Nat.le_refl _⟩, ⟨by first|exact Kd.R_nil _ _ _ _ _|exact Kd.N_nil _ _ _ _ _|exact Kd.V_nil _ _ _ _ _|exact Kd.Q_nil _ _ _ _ _|exact Kd.S_nil _ _ _ _ _⟩, ⟨by repeat (first|(with_reducible first|exact HB.out|apply below_alloc|apply pw_below_drewN|apply below_drew1)|exact HB.out)⟩⟩
 case round =>
  clear H'
  try clear p2
  obtain ⟨x5_1, x6_1, rfl, HA, HK1, HO_5, HB⟩ := hrel
  cases gk with
  | zero => exact absurd HA.out (by simp [r10_Below.l0])
  | succ k1 =>
   have H := HA.out
   clear HA
   simp only [r10_Below.l0] at H
   by_cases c3 : x6_1 < (l0.length : Int)
   ·rw [if_pos c3] at H
    have c3b0 : decide (x6_1 < (l0.length : Int)) = true := decide_eq_true c3
    clear c3
    by_cases c4 : 0 ≤ x6_1
    ·rw [if_pos c4] at H
     have c4b0 : decide (0 ≤ x6_1) = true := decide_eq_true c4
     clear c4
     by_cases c5 : ((rd_T31 l0 x6_1).f1).toList = a1.toList
     ·rw [if_pos c5] at H
      have c5b0 : (((rd_T31 l0 x6_1).f1).toList == a1.toList) = true := beq_iff_eq.mpr c5
      have c5b1 : (((rd_T31 l0 x6_1).f1).toList != a1.toList) = false := bne_eq_false_iff_eq.mpr c5
      clear c5
      by_cases c6 : x5_1.length < 8796093022208
      ·rw [if_pos c6] at H
       have LMc6 := Aside0.mk c6
       clear c6
       obtain ⟨y3, hy3⟩ : ∃ y_ : List ByteArray, y_ = (x5_1 ++ [(rd_T31 l0 x6_1).f0]) := ⟨_, rfl⟩
       replace H : (r10_Below.l0 k1 l0 a1 y3 (wrap64 (x6_1 + 1))) = some r := by first|(rw [hy3];with_reducible exact H)|(have H2_ := (Option.bind_some _ _).symm.trans H;rw [hy3];with_reducible exact H2_)|(have H2_ := (Option.bind_some _ _).symm.trans H;with_reducible exact H2_)|with_reducible exact H|(rw [hy3];exact H)|exact H
       have Ny3 := Aside0.mk hy3
       clear hy3
       have H' := Aside0.mk H
       clear H
       have p1 : 0 ≤ (x6_1 : Int) := of_decide_eq_true (by first|(with_reducible assumption)|assumption)
       have q1 : x6_1 < (l0.length : Int) := of_decide_eq_true (by first|(with_reducible assumption)|assumption)
       obtain ⟨ad1, e1, hx1_0, hx1_1, hx1_2, hx1_3, hx1_4, hx1_5, hx1_6, hx1_7, hx1_8, hx1_9, hx1_10, hx1_11⟩ := at_T31 HR0.out x6_1 p1 q1
       cases e1
       replace hx1_0 := (HB.out.cell (World.block_lt_of_cell? w _ hx1_0)).trans hx1_0
       replace hx1_1 := (HB.out.cell (World.block_lt_of_cell? w _ hx1_1)).trans hx1_1
       replace hx1_2 := (HB.out.cell (World.block_lt_of_cell? w _ hx1_2)).trans hx1_2
       replace hx1_3 := (HB.out.cell (World.block_lt_of_cell? w _ hx1_3)).trans hx1_3
       replace hx1_4 := (HB.out.cell (World.block_lt_of_cell? w _ hx1_4)).trans hx1_4
       replace hx1_5 := (HB.out.cell (World.block_lt_of_cell? w _ hx1_5)).trans hx1_5
       replace hx1_6 := (HB.out.cell (World.block_lt_of_cell? w _ hx1_6)).trans hx1_6
       replace hx1_7 := (HB.out.cell (World.block_lt_of_cell? w _ hx1_7)).trans hx1_7
       replace hx1_8 := (HB.out.cell (World.block_lt_of_cell? w _ hx1_8)).trans hx1_8
       replace hx1_9 := (HB.out.cell (World.block_lt_of_cell? w _ hx1_9)).trans hx1_9
       replace hx1_10 := (HB.out.cell (World.block_lt_of_cell? w _ hx1_10)).trans hx1_10
       replace hx1_11 := (HB.out.cell (World.block_lt_of_cell? w _ hx1_11)).trans hx1_11
       replace p1 := eq_true p1
       replace q1 := eq_true q1
       have p2 : 0 ≤ (x6_1 : Int) := of_decide_eq_true (by first|(with_reducible assumption)|assumption)
       have q2 : x6_1 < (l0.length : Int) := of_decide_eq_true (by first|(with_reducible assumption)|assumption)
       obtain ⟨ad2, e2, hx2_0, hx2_1, hx2_2, hx2_3, hx2_4, hx2_5, hx2_6, hx2_7, hx2_8, hx2_9, hx2_10, hx2_11⟩ := at_T31 HR0.out x6_1 p2 q2
       obtain rfl : ad1 = ad2 := (by injection e2)
       replace hx2_0 := (HB.out.cell (World.block_lt_of_cell? w _ hx2_0)).trans hx2_0
       replace hx2_1 := (HB.out.cell (World.block_lt_of_cell? w _ hx2_1)).trans hx2_1
       replace hx2_2 := (HB.out.cell (World.block_lt_of_cell? w _ hx2_2)).trans hx2_2
       replace hx2_3 := (HB.out.cell (World.block_lt_of_cell? w _ hx2_3)).trans hx2_3
       replace hx2_4 := (HB.out.cell (World.block_lt_of_cell? w _ hx2_4)).trans hx2_4
       replace hx2_5 := (HB.out.cell (World.block_lt_of_cell? w _ hx2_5)).trans hx2_5
       replace hx2_6 := (HB.out.cell (World.block_lt_of_cell? w _ hx2_6)).trans hx2_6
       replace hx2_7 := (HB.out.cell (World.block_lt_of_cell? w _ hx2_7)).trans hx2_7
       replace hx2_8 := (HB.out.cell (World.block_lt_of_cell? w _ hx2_8)).trans hx2_8
       replace hx2_9 := (HB.out.cell (World.block_lt_of_cell? w _ hx2_9)).trans hx2_9
       replace hx2_10 := (HB.out.cell (World.block_lt_of_cell? w _ hx2_10)).trans hx2_10
       replace hx2_11 := (HB.out.cell (World.block_lt_of_cell? w _ hx2_11)).trans hx2_11
       replace p2 := eq_true p2
       replace q2 := eq_true q2
       go_wp2_with (first|((with_reducible refine gate_builtin (b := .append) (xs := #[.tmp 20, .tmp 26]) rfl ?_);at_builtin;refine Kd.R_append Kd.string (w0 := w) w.heap.size rfl (.tmp 20) (.tmp 26) 74 9 (.string ⟨#[]⟩) 16 rfl Try.underlying74 info9 rfl (by decide) (by omega) u5 x5_1 ((rd_T31 l0 x6_1).f0) [.string ((rd_T31 l0 x6_1).f0)] (fun _ => True) (fun _ => False) rfl rfl ?aP (fun _ hk => hk.elim) ?aF ?aO ?aB ?aS ?aL ?_;(case aP => exact rfl);(case aB => exact (by repeat (first|(with_reducible first|exact HB.out|apply below_alloc|apply pw_below_drewN|apply below_drew1)|exact HB.out)));(case aF => exact (fun _ _ => trivial));(case aO => exact (by (with_reducible repeat (first|apply Kd.R_alloc|apply Kd.R_drewN|apply Kd.R_drew));exact HO_5.out));(case aS => exact (below_size (by repeat (first|(with_reducible first|exact HB.out|apply below_alloc|apply pw_below_drewN|apply below_drew1)|exact HB.out))));(case aL => have := LMc6.out;omega);intro v4 w7 ho hb hg hat;rw [← Ny3.out] at ho;have n0_ := Aside0.mk (hb);have n1_ := Aside0.mk (ho);clear HB;clear HO_5;have HB := n0_;have HO5 := n1_;clear n0_ n1_;clear ho hb hg hat))
       go_roundg k1
       case measure => have := HK1.out; omega
       case rel => exact ⟨(y3), (wrap64 (x6_1 + 1)), (by first|rfl|(simp;done)|(simp [*];done)), H', ⟨by have := HK1.out;omega⟩, ⟨by (with_reducible repeat (first|apply Kd.R_alloc|apply Kd.R_drewN|apply Kd.R_drew));exact HO5.out⟩, ⟨by repeat (first|(with_reducible first|exact HB.out|apply below_alloc|apply pw_below_drewN|apply below_drew1)|exact HB.out)⟩⟩
      ·rw [if_neg c6] at H
       exact absurd H (by simp)
     ·rw [if_neg c5] at H
      have c5b0 : (((rd_T31 l0 x6_1).f1).toList == a1.toList) = false := beq_eq_false_iff_ne.mpr c5
      have c5b1 : (((rd_T31 l0 x6_1).f1).toList != a1.toList) = true := bne_iff_ne.mpr c5
      have H' := Aside0.mk H
      clear H
      have p1 : 0 ≤ (x6_1 : Int) := of_decide_eq_true (by first|(with_reducible assumption)|assumption)
      have q1 : x6_1 < (l0.length : Int) := of_decide_eq_true (by first|(with_reducible assumption)|assumption)
      obtain ⟨ad1, e1, hx1_0, hx1_1, hx1_2, hx1_3, hx1_4, hx1_5, hx1_6, hx1_7, hx1_8, hx1_9, hx1_10, hx1_11⟩ := at_T31 HR0.out x6_1 p1 q1
      cases e1
      replace hx1_0 := (HB.out.cell (World.block_lt_of_cell? w _ hx1_0)).trans hx1_0
      replace hx1_1 := (HB.out.cell (World.block_lt_of_cell? w _ hx1_1)).trans hx1_1
      replace hx1_2 := (HB.out.cell (World.block_lt_of_cell? w _ hx1_2)).trans hx1_2
      replace hx1_3 := (HB.out.cell (World.block_lt_of_cell? w _ hx1_3)).trans hx1_3
      replace hx1_4 := (HB.out.cell (World.block_lt_of_cell? w _ hx1_4)).trans hx1_4
      replace hx1_5 := (HB.out.cell (World.block_lt_of_cell? w _ hx1_5)).trans hx1_5
      replace hx1_6 := (HB.out.cell (World.block_lt_of_cell? w _ hx1_6)).trans hx1_6
      replace hx1_7 := (HB.out.cell (World.block_lt_of_cell? w _ hx1_7)).trans hx1_7
      replace hx1_8 := (HB.out.cell (World.block_lt_of_cell? w _ hx1_8)).trans hx1_8
      replace hx1_9 := (HB.out.cell (World.block_lt_of_cell? w _ hx1_9)).trans hx1_9
      replace hx1_10 := (HB.out.cell (World.block_lt_of_cell? w _ hx1_10)).trans hx1_10
      replace hx1_11 := (HB.out.cell (World.block_lt_of_cell? w _ hx1_11)).trans hx1_11
      replace p1 := eq_true p1
      replace q1 := eq_true q1
      go_wp2
      go_roundg k1
      case measure => have := HK1.out; omega
      case rel => exact ⟨(x5_1), (wrap64 (x6_1 + 1)), (by first|rfl|(simp;done)|(simp [*];done)), H', ⟨by have := HK1.out;omega⟩, ⟨by (with_reducible repeat (first|apply Kd.R_alloc|apply Kd.R_drewN|apply Kd.R_drew));exact HO_5.out⟩, ⟨by repeat (first|(with_reducible first|exact HB.out|apply below_alloc|apply pw_below_drewN|apply below_drew1)|exact HB.out)⟩⟩
    ·rw [if_neg c4] at H
     exact absurd H (by simp)
   ·rw [if_neg c3] at H
    have c3b0 : decide (x6_1 < (l0.length : Int)) = false := decide_eq_false c3
    clear c3
    obtain rfl := Option.some.inj H
    go_wp2
    go_ret
    exact ⟨_, by first|rfl|(simp [errW_none, errW_some] <;> rfl)|(simp [*, errW_none, errW_some] <;> rfl), by (with_reducible repeat (first|apply Kd.R_alloc|apply Kd.R_drewN|apply Kd.R_drew));exact HO_5.out, by repeat (first|(with_reducible first|exact HB.out|apply below_alloc|apply pw_below_drewN|apply below_drew1)|exact HB.out)⟩
end Go.Proofs.Ytcgefpklljclgaa.Print
