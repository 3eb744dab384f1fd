/- A part of the proof of TreeMade: the machine's side by the kit's print, contracts and lemmas by this session. -/
import Derived.Laws.Cover1
import Derived.Test.YtcgefpklljclgaaBTreeMade1
import Derived.Test.YtcgefpklljclgaaBTreeMade2
import Derived.Test.YtcgefpklljclgaaBTreeMade3
namespace Go.Proofs.Ytcgefpklljclgaa.Print
open Go.RowKit Go.Proofs.YtcgefpklljclgaaW.PrintWords Go.Proofs.YtcgefpklljclgaaW.PrintLast Go.Proofs.YtcgefpklljclgaaW.PrintMore
attribute [local go_sem] max2_int min2_int max_two min_two max_three min_three max_four min_four   -- for this text's walks alone
set_option linter.unusedVariables false
set_option linter.unusedSimpArgs false
mutual
def tree_Right.l0 : Nat → List (S31) → List (S31) → Int → Int → Option (Bool)
 | 0, _, _, _, _ => none
 | k + 1, x0, x14, x15, x16 => if x16 < x15 then (if 0 ≤ x16 then (if x16 < (x14.length : Int) then ((tree_Up.f k x0 ((rd_T31 x14 x16).f0)).bind fun t3 => ((tree_node_may.f ((rd_T31 x14 x16).f0) ((rd_T31 x14 x16).f1) ((rd_T31 x14 x16).f2.f0) ((rd_T31 x14 x16).f2.f1) ((rd_T31 x14 x16).f2.f2) ((rd_T31 x14 x16).f3.f0) ((rd_T31 x14 x16).f3.f1) ((rd_T31 x14 x16).f3.f2) ((rd_T31 x14 x16).f4.f0) ((rd_T31 x14 x16).f4.f1) ((rd_T31 x14 x16).f4.f2) ((rd_T31 x14 x16).f5) ([] : List (S27))).bind fun t6 => (if t6 = true then (if x16 > 0 then (if 0 ≤ (wrap64 (x16 - 1)) then (if (wrap64 (x16 - 1)) < (x0.length : Int) then (if ((Op.bytesLess (((rd_T31 x0 (wrap64 (x16 - 1))).f0).toList) (((rd_T31 x14 x16).f0).toList)) = true) then (if ((rd_T31 x14 x16).f1).toList = ([] : List UInt8) then (tree_Right.j1 k x0 x14 x15 x16 (decide ((t3.length : Int) > (x0.length : Int))) ((rd_T31 x14 x16).f0) ((rd_T31 x14 x16).f1) ((rd_T31 x14 x16).f2.f0) ((rd_T31 x14 x16).f2.f1) ((rd_T31 x14 x16).f2.f2) ((rd_T31 x14 x16).f3.f0) ((rd_T31 x14 x16).f3.f1) ((rd_T31 x14 x16).f3.f2) ((rd_T31 x14 x16).f4.f0) ((rd_T31 x14 x16).f4.f1) ((rd_T31 x14 x16).f4.f2) ((rd_T31 x14 x16).f5)) else ((tree_Find.f x0 ((rd_T31 x14 x16).f1)).bind fun t8 => (if t8 < 0 then (tree_Right.j1 k x0 x14 x15 x16 true ((rd_T31 x14 x16).f0) ((rd_T31 x14 x16).f1) ((rd_T31 x14 x16).f2.f0) ((rd_T31 x14 x16).f2.f1) ((rd_T31 x14 x16).f2.f2) ((rd_T31 x14 x16).f3.f0) ((rd_T31 x14 x16).f3.f1) ((rd_T31 x14 x16).f3.f2) ((rd_T31 x14 x16).f4.f0) ((rd_T31 x14 x16).f4.f1) ((rd_T31 x14 x16).f4.f2) ((rd_T31 x14 x16).f5)) else (tree_Right.j1 k x0 x14 x15 x16 (decide ((t3.length : Int) > (x0.length : Int))) ((rd_T31 x14 x16).f0) ((rd_T31 x14 x16).f1) ((rd_T31 x14 x16).f2.f0) ((rd_T31 x14 x16).f2.f1) ((rd_T31 x14 x16).f2.f2) ((rd_T31 x14 x16).f3.f0) ((rd_T31 x14 x16).f3.f1) ((rd_T31 x14 x16).f3.f2) ((rd_T31 x14 x16).f4.f0) ((rd_T31 x14 x16).f4.f1) ((rd_T31 x14 x16).f4.f2) ((rd_T31 x14 x16).f5))))) else (tree_Right.j1 k x0 x14 x15 x16 true ((rd_T31 x14 x16).f0) ((rd_T31 x14 x16).f1) ((rd_T31 x14 x16).f2.f0) ((rd_T31 x14 x16).f2.f1) ((rd_T31 x14 x16).f2.f2) ((rd_T31 x14 x16).f3.f0) ((rd_T31 x14 x16).f3.f1) ((rd_T31 x14 x16).f3.f2) ((rd_T31 x14 x16).f4.f0) ((rd_T31 x14 x16).f4.f1) ((rd_T31 x14 x16).f4.f2) ((rd_T31 x14 x16).f5))) else (none)) else (none)) else (if ((rd_T31 x14 x16).f1).toList = ([] : List UInt8) then (tree_Right.j1 k x0 x14 x15 x16 (decide ((t3.length : Int) > (x0.length : Int))) ((rd_T31 x14 x16).f0) ((rd_T31 x14 x16).f1) ((rd_T31 x14 x16).f2.f0) ((rd_T31 x14 x16).f2.f1) ((rd_T31 x14 x16).f2.f2) ((rd_T31 x14 x16).f3.f0) ((rd_T31 x14 x16).f3.f1) ((rd_T31 x14 x16).f3.f2) ((rd_T31 x14 x16).f4.f0) ((rd_T31 x14 x16).f4.f1) ((rd_T31 x14 x16).f4.f2) ((rd_T31 x14 x16).f5)) else ((tree_Find.f x0 ((rd_T31 x14 x16).f1)).bind fun t9 => (if t9 < 0 then (tree_Right.j1 k x0 x14 x15 x16 true ((rd_T31 x14 x16).f0) ((rd_T31 x14 x16).f1) ((rd_T31 x14 x16).f2.f0) ((rd_T31 x14 x16).f2.f1) ((rd_T31 x14 x16).f2.f2) ((rd_T31 x14 x16).f3.f0) ((rd_T31 x14 x16).f3.f1) ((rd_T31 x14 x16).f3.f2) ((rd_T31 x14 x16).f4.f0) ((rd_T31 x14 x16).f4.f1) ((rd_T31 x14 x16).f4.f2) ((rd_T31 x14 x16).f5)) else (tree_Right.j1 k x0 x14 x15 x16 (decide ((t3.length : Int) > (x0.length : Int))) ((rd_T31 x14 x16).f0) ((rd_T31 x14 x16).f1) ((rd_T31 x14 x16).f2.f0) ((rd_T31 x14 x16).f2.f1) ((rd_T31 x14 x16).f2.f2) ((rd_T31 x14 x16).f3.f0) ((rd_T31 x14 x16).f3.f1) ((rd_T31 x14 x16).f3.f2) ((rd_T31 x14 x16).f4.f0) ((rd_T31 x14 x16).f4.f1) ((rd_T31 x14 x16).f4.f2) ((rd_T31 x14 x16).f5)))))) else (tree_Right.j1 k x0 x14 x15 x16 true ((rd_T31 x14 x16).f0) ((rd_T31 x14 x16).f1) ((rd_T31 x14 x16).f2.f0) ((rd_T31 x14 x16).f2.f1) ((rd_T31 x14 x16).f2.f2) ((rd_T31 x14 x16).f3.f0) ((rd_T31 x14 x16).f3.f1) ((rd_T31 x14 x16).f3.f2) ((rd_T31 x14 x16).f4.f0) ((rd_T31 x14 x16).f4.f1) ((rd_T31 x14 x16).f4.f2) ((rd_T31 x14 x16).f5))))) else (none)) else (none)) else (tree_Right.l1 k x0 x0 (x0.length : Int) 0)
def tree_Right.j1 : Nat → List (S31) → List (S31) → Int → Int → Bool → ByteArray → ByteArray → Int → Int → Int → Int → Int → Int → Int → Int → Int → Int → Option (Bool)
 | 0, _, _, _, _, _, _, _, _, _, _, _, _, _, _, _, _, _ => none
 | k + 1, x0, x14, x15, x16, x62, x3000, x3001, x3002, x3003, x3004, x3005, x3006, x3007, x3008, x3009, x3010, x3011 => if x62 = true then (some false) else ((vec_May.f x3008 x3009 x3010).bind fun t10 => (if t10 = true then (tree_Right.l0 k x0 x14 x15 (wrap64 (x16 + 1))) else (some false)))
def tree_Right.l1 : Nat → List (S31) → List (S31) → Int → Int → Option (Bool)
 | 0, _, _, _, _ => none
 | k + 1, x0, x68, x69, x70 => if x70 < x69 then (if 0 ≤ x70 then (if x70 < (x68.length : Int) then (tree_Right.l2 k x0 x68 x69 x70 x0 (x0.length : Int) 0 ((rd_T31 x68 x70).f0) ((rd_T31 x68 x70).f1) ((rd_T31 x68 x70).f2.f0) ((rd_T31 x68 x70).f2.f1) ((rd_T31 x68 x70).f2.f2) ((rd_T31 x68 x70).f3.f0) ((rd_T31 x68 x70).f3.f1) ((rd_T31 x68 x70).f3.f2) ((rd_T31 x68 x70).f4.f0) ((rd_T31 x68 x70).f4.f1) ((rd_T31 x68 x70).f4.f2) ((rd_T31 x68 x70).f5) ((rd_T31 x68 x70).f0) ((rd_T31 x68 x70).f1) ((rd_T31 x68 x70).f2.f0) ((rd_T31 x68 x70).f2.f1) ((rd_T31 x68 x70).f2.f2) ((rd_T31 x68 x70).f3.f0) ((rd_T31 x68 x70).f3.f1) ((rd_T31 x68 x70).f3.f2) ((rd_T31 x68 x70).f4.f0) ((rd_T31 x68 x70).f4.f1) ((rd_T31 x68 x70).f4.f2) ((rd_T31 x68 x70).f5) ([] : List (S27))) else (none)) else (none)) else (some true)
def tree_Right.l2 : Nat → List (S31) → List (S31) → Int → Int → List (S31) → Int → Int → ByteArray → ByteArray → Int → Int → Int → Int → Int → Int → Int → Int → Int → Int → ByteArray → ByteArray → Int → Int → Int → Int → Int → Int → Int → Int → Int → Int → List (S27) → Option (Bool)
 | 0, _, _, _, _, _, _, _, _, _, _, _, _, _, _, _, _, _, _, _, _, _, _, _, _, _, _, _, _, _, _, _, _ => none
 | k + 1, x0, x68, x69, x70, x76, x77, x78, x13000, x13001, x13002, x13003, x13004, x13005, x13006, x13007, x13008, x13009, x13010, x13011, x14000, x14001, x14002, x14003, x14004, x14005, x14006, x14007, x14008, x14009, x14010, x14011, x14012 => if x78 < x77 then (if 0 ≤ x78 then (if x78 < (x76.length : Int) then (if ((rd_T31 x76 x78).f1).toList = x13000.toList then (if x14012.length < 5864062014805 then (tree_Right.l2 k x0 x68 x69 x70 x76 x77 (wrap64 (x78 + 1)) x13000 x13001 x13002 x13003 x13004 x13005 x13006 x13007 x13008 x13009 x13010 x13011 x14000 x14001 x14002 x14003 x14004 x14005 x14006 x14007 x14008 x14009 x14010 x14011 (x14012 ++ [(⟨(rd_T31 x76 x78).f4.f0, (rd_T31 x76 x78).f4.f1, (rd_T31 x76 x78).f4.f2⟩ : S27)])) else (none)) else (tree_Right.l2 k x0 x68 x69 x70 x76 x77 (wrap64 (x78 + 1)) x13000 x13001 x13002 x13003 x13004 x13005 x13006 x13007 x13008 x13009 x13010 x13011 x14000 x14001 x14002 x14003 x14004 x14005 x14006 x14007 x14008 x14009 x14010 x14011 x14012)) else (none)) else (none)) else ((tree_node_fits.f x14000 x14001 x14002 x14003 x14004 x14005 x14006 x14007 x14008 x14009 x14010 x14011 x14012).bind fun t19 => (if t19 = true then (tree_Right.l1 k x0 x68 x69 (wrap64 (x70 + 1))) else (some false)))
end
def tree_Right.f (k : Nat) (l0 : List (S31)) : Option (Bool) := if (l0.length : Int) > 120 then (some false) else (tree_Right.l0 k l0 l0 (l0.length : Int) 0)
theorem tree_Right.mono_l : ∀ k, (∀ y0 y1 y2 y3, LeO (tree_Right.l0 k y0 y1 y2 y3) (tree_Right.l0 (k + 1) y0 y1 y2 y3)) ∧ (∀ y0 y1 y2 y3 y4 y5 y6 y7 y8 y9 y10 y11 y12 y13 y14 y15 y16, LeO (tree_Right.j1 k y0 y1 y2 y3 y4 y5 y6 y7 y8 y9 y10 y11 y12 y13 y14 y15 y16) (tree_Right.j1 (k + 1) y0 y1 y2 y3 y4 y5 y6 y7 y8 y9 y10 y11 y12 y13 y14 y15 y16)) ∧ (∀ y0 y1 y2 y3, LeO (tree_Right.l1 k y0 y1 y2 y3) (tree_Right.l1 (k + 1) y0 y1 y2 y3)) ∧ (∀ y0 y1 y2 y3 y4 y5 y6 y7 y8 y9 y10 y11 y12 y13 y14 y15 y16 y17 y18 y19 y20 y21 y22 y23 y24 y25 y26 y27 y28 y29 y30 y31, LeO (tree_Right.l2 k y0 y1 y2 y3 y4 y5 y6 y7 y8 y9 y10 y11 y12 y13 y14 y15 y16 y17 y18 y19 y20 y21 y22 y23 y24 y25 y26 y27 y28 y29 y30 y31) (tree_Right.l2 (k + 1) y0 y1 y2 y3 y4 y5 y6 y7 y8 y9 y10 y11 y12 y13 y14 y15 y16 y17 y18 y19 y20 y21 y22 y23 y24 y25 y26 y27 y28 y29 y30 y31))
 | 0 => ⟨fun _ _ _ _ r h => by simp [tree_Right.l0] at h, fun _ _ _ _ _ _ _ _ _ _ _ _ _ _ _ _ _ r h => by simp [tree_Right.j1] at h, fun _ _ _ _ r h => by simp [tree_Right.l1] at h, fun _ _ _ _ _ _ _ _ _ _ _ _ _ _ _ _ _ _ _ _ _ _ _ _ _ _ _ _ _ _ _ _ r h => by simp [tree_Right.l2] at h⟩
 | k + 1 => by
  obtain ⟨ih0, ih1, ih2, ih3⟩ := tree_Right.mono_l k
  refine ⟨?_, ?_, ?_, ?_⟩
  ·intro y0 y1 y2 y3
   unfold tree_Right.l0
   repeat' first
   | (with_reducible exact ih0 _ _ _ _)
   | (with_reducible exact ih1 _ _ _ _ _ _ _ _ _ _ _ _ _ _ _ _ _)
   | (with_reducible exact ih2 _ _ _ _)
   | (with_reducible exact ih3 _ _ _ _ _ _ _ _ _ _ _ _ _ _ _ _ _ _ _ _ _ _ _ _ _ _ _ _ _ _ _ _)
   | (with_reducible exact tree_Up.mono _ _ _)
   | (with_reducible exact LeO.refl _)
   | (with_reducible exact LeO.none _)
   | (with_reducible refine LeO.ite ?_ ?_)
   | (with_reducible refine LeO.bind ?_ (fun _ => ?_))
   | exact ih0 _ _ _ _
   | exact ih1 _ _ _ _ _ _ _ _ _ _ _ _ _ _ _ _ _
   | exact ih2 _ _ _ _
   | exact ih3 _ _ _ _ _ _ _ _ _ _ _ _ _ _ _ _ _ _ _ _ _ _ _ _ _ _ _ _ _ _ _ _
   | exact tree_Up.mono _ _ _
   | exact LeO.none _
   | refine LeO.ite ?_ ?_
   | refine LeO.bind ?_ (fun _ => ?_)
  ·intro y0 y1 y2 y3 y4 y5 y6 y7 y8 y9 y10 y11 y12 y13 y14 y15 y16
   unfold tree_Right.j1
   repeat' first
   | (with_reducible exact ih0 _ _ _ _)
   | (with_reducible exact ih1 _ _ _ _ _ _ _ _ _ _ _ _ _ _ _ _ _)
   | (with_reducible exact ih2 _ _ _ _)
   | (with_reducible exact ih3 _ _ _ _ _ _ _ _ _ _ _ _ _ _ _ _ _ _ _ _ _ _ _ _ _ _ _ _ _ _ _ _)
   | (with_reducible exact tree_Up.mono _ _ _)
   | (with_reducible exact LeO.refl _)
   | (with_reducible exact LeO.none _)
   | (with_reducible refine LeO.ite ?_ ?_)
   | (with_reducible refine LeO.bind ?_ (fun _ => ?_))
   | exact ih0 _ _ _ _
   | exact ih1 _ _ _ _ _ _ _ _ _ _ _ _ _ _ _ _ _
   | exact ih2 _ _ _ _
   | exact ih3 _ _ _ _ _ _ _ _ _ _ _ _ _ _ _ _ _ _ _ _ _ _ _ _ _ _ _ _ _ _ _ _
   | exact tree_Up.mono _ _ _
   | exact LeO.none _
   | refine LeO.ite ?_ ?_
   | refine LeO.bind ?_ (fun _ => ?_)
  ·intro y0 y1 y2 y3
   unfold tree_Right.l1
   repeat' first
   | (with_reducible exact ih0 _ _ _ _)
   | (with_reducible exact ih1 _ _ _ _ _ _ _ _ _ _ _ _ _ _ _ _ _)
   | (with_reducible exact ih2 _ _ _ _)
   | (with_reducible exact ih3 _ _ _ _ _ _ _ _ _ _ _ _ _ _ _ _ _ _ _ _ _ _ _ _ _ _ _ _ _ _ _ _)
   | (with_reducible exact tree_Up.mono _ _ _)
   | (with_reducible exact LeO.refl _)
   | (with_reducible exact LeO.none _)
   | (with_reducible refine LeO.ite ?_ ?_)
   | (with_reducible refine LeO.bind ?_ (fun _ => ?_))
   | exact ih0 _ _ _ _
   | exact ih1 _ _ _ _ _ _ _ _ _ _ _ _ _ _ _ _ _
   | exact ih2 _ _ _ _
   | exact ih3 _ _ _ _ _ _ _ _ _ _ _ _ _ _ _ _ _ _ _ _ _ _ _ _ _ _ _ _ _ _ _ _
   | exact tree_Up.mono _ _ _
   | exact LeO.none _
   | refine LeO.ite ?_ ?_
   | refine LeO.bind ?_ (fun _ => ?_)
  ·intro y0 y1 y2 y3 y4 y5 y6 y7 y8 y9 y10 y11 y12 y13 y14 y15 y16 y17 y18 y19 y20 y21 y22 y23 y24 y25 y26 y27 y28 y29 y30 y31
   unfold tree_Right.l2
   repeat' first
   | (with_reducible exact ih0 _ _ _ _)
   | (with_reducible exact ih1 _ _ _ _ _ _ _ _ _ _ _ _ _ _ _ _ _)
   | (with_reducible exact ih2 _ _ _ _)
   | (with_reducible exact ih3 _ _ _ _ _ _ _ _ _ _ _ _ _ _ _ _ _ _ _ _ _ _ _ _ _ _ _ _ _ _ _ _)
   | (with_reducible exact tree_Up.mono _ _ _)
   | (with_reducible exact LeO.refl _)
   | (with_reducible exact LeO.none _)
   | (with_reducible refine LeO.ite ?_ ?_)
   | (with_reducible refine LeO.bind ?_ (fun _ => ?_))
   | exact ih0 _ _ _ _
   | exact ih1 _ _ _ _ _ _ _ _ _ _ _ _ _ _ _ _ _
   | exact ih2 _ _ _ _
   | exact ih3 _ _ _ _ _ _ _ _ _ _ _ _ _ _ _ _ _ _ _ _ _ _ _ _ _ _ _ _ _ _ _ _
   | exact tree_Up.mono _ _ _
   | exact LeO.none _
   | refine LeO.ite ?_ ?_
   | refine LeO.bind ?_ (fun _ => ?_)
theorem tree_Right.mono : ∀ a0 k, LeO (tree_Right.f k a0) (tree_Right.f (k + 1) a0) := by
 intro a0 k
 obtain ⟨ih0, ih1, ih2, ih3⟩ := tree_Right.mono_l k
 unfold tree_Right.f
 repeat' first
   | (with_reducible exact ih0 _ _ _ _)
   | (with_reducible exact ih1 _ _ _ _ _ _ _ _ _ _ _ _ _ _ _ _ _)
   | (with_reducible exact ih2 _ _ _ _)
   | (with_reducible exact ih3 _ _ _ _ _ _ _ _ _ _ _ _ _ _ _ _ _ _ _ _ _ _ _ _ _ _ _ _ _ _ _ _)
   | (with_reducible exact tree_Up.mono _ _ _)
   | (with_reducible exact LeO.refl _)
   | (with_reducible exact LeO.none _)
   | (with_reducible refine LeO.ite ?_ ?_)
   | (with_reducible refine LeO.bind ?_ (fun _ => ?_))
   | exact ih0 _ _ _ _
   | exact ih1 _ _ _ _ _ _ _ _ _ _ _ _ _ _ _ _ _
   | exact ih2 _ _ _ _
   | exact ih3 _ _ _ _ _ _ _ _ _ _ _ _ _ _ _ _ _ _ _ _ _ _ _ _ _ _ _ _ _ _ _ _
   | exact tree_Up.mono _ _ _
   | exact LeO.none _
   | refine LeO.ite ?_ ?_
   | refine LeO.bind ?_ (fun _ => ?_)
def tree_Right.T7 : Bool × List (List Nat × List Nat) := (true, [([], []), ([0], [0]), ([1], [1]), ([2], [2]), ([3, 2], [3]), ([4], [4]), ([5, 4], [4, 5]), ([6, 4, 4], [4, 6]), ([7], [7]), ([7], [7]), ([9, 7], [7, 9]), ([8, 10, 7], [7, 8, 10]), ([11, 7], [7, 11]), ([12, 7], [7, 12]), ([7], [7]), ([14, 7], [7, 14]), ([13, 15, 7], [7, 13, 15]), ([7, 16, 4], [4, 7, 16]), ([4, 17], [4, 17]), ([18, 7], [18]), ([19], [19]), ([20, 19], [19, 20]), ([21, 19], [19, 21]), ([22, 19, 19], [19, 22]), ([23], [23]), ([23], [23]), ([25, 23], [23, 25]), ([24, 26, 23, 23], [23, 24, 26]), ([27, 23], [23, 27]), ([23, 28, 19], [19, 23, 28]), ([19, 29], [19, 29]), ([30, 27], [30]), ([31], [31]), ([32, 31], [31, 32]), ([31], [31]), ([34, 31], [31, 34]), ([33, 35, 31], [31, 33, 35]), ([31, 36], [31, 36])])
def tree_Right.B7 : List Nat := [0, 1, 3, 7, 15, 31, 63, 127, 255, 255, 767, 2047, 4095, 8191, 255, 16639, 65535, 131071, 262143, 524287, 1048575, 2097151, 4194303, 8388607, 16777215, 16777215, 50331647, 134217727, 268435455, 536870911, 1073741823, 2147483647, 4294967295, 8589934591, 4294967295, 21474836479, 68719476735, 137438953471]
theorem tree_Right.tab7 : rtab .any (opsOf Try.f68 7) = tree_Right.T7 := by kernel_rfl
theorem tree_Right.bits7 : waitsOk tree_Right.T7.2 tree_Right.B7 = true := by kernel_rfl
/-- what has come up: the first k -/
def tree_Right.tk (k : Nat) : Array Bool := (List.replicate k true ++ List.replicate (38 - k) false).toArray
set_option maxHeartbeats 8000000 in
set_option maxRecDepth 100000 in
theorem tree_Right.calls (k : Nat) (A0 : Option Addr) (c0 : Nat) (l0 : List (S31)) (r : Bool) (w : World) (hr0 : Kd.C k31 w A0 l0.length l0) (hc0 : l0.length ≤ c0) (h : tree_Right.f k l0 = some r) :
  Calls Try.prog 68 #[.slice A0 l0.length c0] w fun e w' => e = .returned (.bool r) ∧ Below w.heap.size w w' := by
 have hu31 := Try.underlying31
 have hu159 := Try.underlying159
 have hu27 := Try.underlying27
 have HR0 := Aside0.mk hr0
 have HC0 := Aside0.mk hc0
 clear hr0 hc0
 have HB := Aside0.mk (Below.refl w.heap.size w)
 have H : (if (l0.length : Int) > 120 then (some false) else (tree_Right.l0 k l0 l0 (l0.length : Int) 0)) = some r := h
 clear h
 by_cases c2 : (l0.length : Int) > 120
 ·rw [if_pos c2] at H
  have c2b0 : decide (120 < (l0.length : Int)) = true := decide_eq_true c2
  have c2b1 : decide (120 < l0.length) = true := decide_eq_true (by omega)
  clear c2
  obtain rfl := Option.some.inj H
  go_enter Try.func68, Try.ntmps68
  go_wp2
  go_ret
  exact ⟨by first|rfl|(simp [errW_none, errW_some] <;> rfl)|(simp [*, errW_none, errW_some] <;> rfl), by repeat (first|(with_reducible first|exact HB.out|apply below_alloc|apply pw_below_drewN|apply below_drew1)|exact HB.out)⟩
 ·rw [if_neg c2] at H
  have c2b0 : decide (120 < (l0.length : Int)) = false := decide_eq_false c2
  have c2b1 : decide (120 < l0.length) = false := decide_eq_false (by omega)
  clear c2
  have H' := Aside0.mk H
  clear H
  go_enter Try.func68, Try.ntmps68
  go_wp2
  go_loopg [16] k (fun kq v16 w' => ∃ (x16_1 : Int), v16 = .int .i64 x16_1 ∧ Aside0 (tree_Right.l0 kq l0 l0 (l0.length : Int) x16_1 = some r) ∧ Aside0 (kq ≤ k) ∧ Aside0 (Below w.heap.size w w'))
  case atStart => exact ⟨(0), (by first|rfl|(simp;done)|(simp [*];done)), H', ⟨Nat.le_refl _⟩, ⟨by repeat (first|(with_reducible first|exact HB.out|apply below_alloc|apply pw_below_drewN|apply below_drew1)|exact HB.out)⟩⟩
  case round =>
   clear H'
   try clear c2
   try clear c2b0
   try clear c2b1
   try clear p2
   obtain ⟨x16_1, rfl, HA, HK1, HB⟩ := hrel
   cases gk with
   | zero => exact absurd HA.out (by simp [tree_Right.l0])
   | succ k1 =>
    have H := HA.out
    clear HA
    simp only [tree_Right.l0] at H
    by_cases c3 : x16_1 < (l0.length : Int)
    ·rw [if_pos c3] at H
     have c3b0 : decide (x16_1 < (l0.length : Int)) = true := decide_eq_true c3
     clear c3
     by_cases c4 : 0 ≤ x16_1
     ·rw [if_pos c4] at H
      have c4b0 : decide (0 ≤ x16_1) = true := decide_eq_true c4
      clear c4
      by_cases c5 : x16_1 < (l0.length : Int)
      ·rw [if_pos c5] at H
       have c5b0 : decide (x16_1 < (l0.length : Int)) = true := decide_eq_true c5
       clear c5
       replace H := Option.bind_eq_some_iff.mp H
       obtain ⟨t3, A60, H⟩ := H
       replace H : ((tree_node_may.f ((rd_T31 l0 x16_1).f0) ((rd_T31 l0 x16_1).f1) ((rd_T31 l0 x16_1).f2.f0) ((rd_T31 l0 x16_1).f2.f1) ((rd_T31 l0 x16_1).f2.f2) ((rd_T31 l0 x16_1).f3.f0) ((rd_T31 l0 x16_1).f3.f1) ((rd_T31 l0 x16_1).f3.f2) ((rd_T31 l0 x16_1).f4.f0) ((rd_T31 l0 x16_1).f4.f1) ((rd_T31 l0 x16_1).f4.f2) ((rd_T31 l0 x16_1).f5) ([] : List (S27))).bind fun t6 => (if t6 = true then (if x16_1 > 0 then (if 0 ≤ (wrap64 (x16_1 - 1)) then (if (wrap64 (x16_1 - 1)) < (l0.length : Int) then (if ((Op.bytesLess (((rd_T31 l0 (wrap64 (x16_1 - 1))).f0).toList) (((rd_T31 l0 x16_1).f0).toList)) = true) then (if ((rd_T31 l0 x16_1).f1).toList = ([] : List UInt8) then (tree_Right.j1 k1 l0 l0 (l0.length : Int) x16_1 (decide ((t3.length : Int) > (l0.length : Int))) ((rd_T31 l0 x16_1).f0) ((rd_T31 l0 x16_1).f1) ((rd_T31 l0 x16_1).f2.f0) ((rd_T31 l0 x16_1).f2.f1) ((rd_T31 l0 x16_1).f2.f2) ((rd_T31 l0 x16_1).f3.f0) ((rd_T31 l0 x16_1).f3.f1) ((rd_T31 l0 x16_1).f3.f2) ((rd_T31 l0 x16_1).f4.f0) ((rd_T31 l0 x16_1).f4.f1) ((rd_T31 l0 x16_1).f4.f2) ((rd_T31 l0 x16_1).f5)) else ((tree_Find.f l0 ((rd_T31 l0 x16_1).f1)).bind fun t8 => (if t8 < 0 then (tree_Right.j1 k1 l0 l0 (l0.length : Int) x16_1 true ((rd_T31 l0 x16_1).f0) ((rd_T31 l0 x16_1).f1) ((rd_T31 l0 x16_1).f2.f0) ((rd_T31 l0 x16_1).f2.f1) ((rd_T31 l0 x16_1).f2.f2) ((rd_T31 l0 x16_1).f3.f0) ((rd_T31 l0 x16_1).f3.f1) ((rd_T31 l0 x16_1).f3.f2) ((rd_T31 l0 x16_1).f4.f0) ((rd_T31 l0 x16_1).f4.f1) ((rd_T31 l0 x16_1).f4.f2) ((rd_T31 l0 x16_1).f5)) else (tree_Right.j1 k1 l0 l0 (l0.length : Int) x16_1 (decide ((t3.length : Int) > (l0.length : Int))) ((rd_T31 l0 x16_1).f0) ((rd_T31 l0 x16_1).f1) ((rd_T31 l0 x16_1).f2.f0) ((rd_T31 l0 x16_1).f2.f1) ((rd_T31 l0 x16_1).f2.f2) ((rd_T31 l0 x16_1).f3.f0) ((rd_T31 l0 x16_1).f3.f1) ((rd_T31 l0 x16_1).f3.f2) ((rd_T31 l0 x16_1).f4.f0) ((rd_T31 l0 x16_1).f4.f1) ((rd_T31 l0 x16_1).f4.f2) ((rd_T31 l0 x16_1).f5))))) else (tree_Right.j1 k1 l0 l0 (l0.length : Int) x16_1 true ((rd_T31 l0 x16_1).f0) ((rd_T31 l0 x16_1).f1) ((rd_T31 l0 x16_1).f2.f0) ((rd_T31 l0 x16_1).f2.f1) ((rd_T31 l0 x16_1).f2.f2) ((rd_T31 l0 x16_1).f3.f0) ((rd_T31 l0 x16_1).f3.f1) ((rd_T31 l0 x16_1).f3.f2) ((rd_T31 l0 x16_1).f4.f0) ((rd_T31 l0 x16_1).f4.f1) ((rd_T31 l0 x16_1).f4.f2) ((rd_T31 l0 x16_1).f5))) else (none)) else (none)) else (if ((rd_T31 l0 x16_1).f1).toList = ([] : List UInt8) then (tree_Right.j1 k1 l0 l0 (l0.length : Int) x16_1 (decide ((t3.length : Int) > (l0.length : Int))) ((rd_T31 l0 x16_1).f0) ((rd_T31 l0 x16_1).f1) ((rd_T31 l0 x16_1).f2.f0) ((rd_T31 l0 x16_1).f2.f1) ((rd_T31 l0 x16_1).f2.f2) ((rd_T31 l0 x16_1).f3.f0) ((rd_T31 l0 x16_1).f3.f1) ((rd_T31 l0 x16_1).f3.f2) ((rd_T31 l0 x16_1).f4.f0) ((rd_T31 l0 x16_1).f4.f1) ((rd_T31 l0 x16_1).f4.f2) ((rd_T31 l0 x16_1).f5)) else ((tree_Find.f l0 ((rd_T31 l0 x16_1).f1)).bind fun t9 => (if t9 < 0 then (tree_Right.j1 k1 l0 l0 (l0.length : Int) x16_1 true ((rd_T31 l0 x16_1).f0) ((rd_T31 l0 x16_1).f1) ((rd_T31 l0 x16_1).f2.f0) ((rd_T31 l0 x16_1).f2.f1) ((rd_T31 l0 x16_1).f2.f2) ((rd_T31 l0 x16_1).f3.f0) ((rd_T31 l0 x16_1).f3.f1) ((rd_T31 l0 x16_1).f3.f2) ((rd_T31 l0 x16_1).f4.f0) ((rd_T31 l0 x16_1).f4.f1) ((rd_T31 l0 x16_1).f4.f2) ((rd_T31 l0 x16_1).f5)) else (tree_Right.j1 k1 l0 l0 (l0.length : Int) x16_1 (decide ((t3.length : Int) > (l0.length : Int))) ((rd_T31 l0 x16_1).f0) ((rd_T31 l0 x16_1).f1) ((rd_T31 l0 x16_1).f2.f0) ((rd_T31 l0 x16_1).f2.f1) ((rd_T31 l0 x16_1).f2.f2) ((rd_T31 l0 x16_1).f3.f0) ((rd_T31 l0 x16_1).f3.f1) ((rd_T31 l0 x16_1).f3.f2) ((rd_T31 l0 x16_1).f4.f0) ((rd_T31 l0 x16_1).f4.f1) ((rd_T31 l0 x16_1).f4.f2) ((rd_T31 l0 x16_1).f5)))))) else (tree_Right.j1 k1 l0 l0 (l0.length : Int) x16_1 true ((rd_T31 l0 x16_1).f0) ((rd_T31 l0 x16_1).f1) ((rd_T31 l0 x16_1).f2.f0) ((rd_T31 l0 x16_1).f2.f1) ((rd_T31 l0 x16_1).f2.f2) ((rd_T31 l0 x16_1).f3.f0) ((rd_T31 l0 x16_1).f3.f1) ((rd_T31 l0 x16_1).f3.f2) ((rd_T31 l0 x16_1).f4.f0) ((rd_T31 l0 x16_1).f4.f1) ((rd_T31 l0 x16_1).f4.f2) ((rd_T31 l0 x16_1).f5)))) = some r := H
       have A6 := Aside0.mk A60
       clear A60
       have HC7 := Aside0.mk H
       clear H
       have p1 : 0 ≤ (x16_1 : Int) := of_decide_eq_true (by first|(with_reducible assumption)|assumption)
       have q1 : x16_1 < (l0.length : Int) := of_decide_eq_true (by first|(with_reducible assumption)|assumption)
       obtain ⟨ad1, e1, hx1_0, hx1_1, hx1_2, hx1_3, hx1_4, hx1_5, hx1_6, hx1_7, hx1_8, hx1_9, hx1_10, hx1_11⟩ := at_T31 HR0.out x16_1 p1 q1
       cases e1
       replace hx1_0 := (HB.out.cell (World.block_lt_of_cell? w _ hx1_0)).trans hx1_0
       replace hx1_1 := (HB.out.cell (World.block_lt_of_cell? w _ hx1_1)).trans hx1_1
       replace hx1_2 := (HB.out.cell (World.block_lt_of_cell? w _ hx1_2)).trans hx1_2
       replace hx1_3 := (HB.out.cell (World.block_lt_of_cell? w _ hx1_3)).trans hx1_3
       replace hx1_4 := (HB.out.cell (World.block_lt_of_cell? w _ hx1_4)).trans hx1_4
       replace hx1_5 := (HB.out.cell (World.block_lt_of_cell? w _ hx1_5)).trans hx1_5
       replace hx1_6 := (HB.out.cell (World.block_lt_of_cell? w _ hx1_6)).trans hx1_6
       replace hx1_7 := (HB.out.cell (World.block_lt_of_cell? w _ hx1_7)).trans hx1_7
       replace hx1_8 := (HB.out.cell (World.block_lt_of_cell? w _ hx1_8)).trans hx1_8
       replace hx1_9 := (HB.out.cell (World.block_lt_of_cell? w _ hx1_9)).trans hx1_9
       replace hx1_10 := (HB.out.cell (World.block_lt_of_cell? w _ hx1_10)).trans hx1_10
       replace hx1_11 := (HB.out.cell (World.block_lt_of_cell? w _ hx1_11)).trans hx1_11
       replace p1 := eq_true p1
       replace q1 := eq_true q1
       go_upto_region 7 with (first|((with_reducible refine gate_dst (N := 4) rfl ?_);(try (refine gate_guard (by rfl) ?_;dsimp only));refine box_event ?hg (N := 4) ?hd (cs := #[.string (⟨#[]⟩ : ByteArray), .string (⟨#[]⟩ : ByteArray), .int .i64 0, .int .i64 0, .int .i64 0, .int .i64 0, .int .i64 0, .int .i64 0, .int .i64 0, .int .i64 0, .int .i64 0, .int .i64 0]) (t := 31) ?hr ?_;(case hd => rfl);(case hg => rfl);(case hr => first|(go_simp;done)|(go_simp;rfl));intro gb2 hg w8 hbox hb;have n0_ := Aside0.mk (below_step (by repeat (first|(with_reducible first|exact HB.out|apply below_alloc|apply pw_below_drewN|apply below_drew1)|exact HB.out)) hb);have n1_ := Aside0.mk (hbox);have n2_ := Aside0.mk ((by rw [hg];exact (below_size (by repeat (first|(with_reducible first|exact HB.out|apply below_alloc|apply pw_below_drewN|apply below_drew1)|exact HB.out))) : w.heap.size ≤ gb2));have n3_ := Aside0.mk ((by rw [hg];exact (below_size (by repeat (first|(with_reducible first|exact HB.out|apply below_alloc|apply pw_below_drewN|apply below_drew1)|exact HB.out))) : w.heap.size ≤ gb2));clear HB;have HB := n0_;have BK2 := n1_;have GW2 := n2_;have GE2 := n3_;clear n0_ n1_ n2_ n3_;clear hb hbox hg;have hcz9_0 : w8.cell? ⟨gb2, 0, none⟩ = some (.string (⟨#[]⟩ : ByteArray)) := (blk_cell BK2.out 0).trans rfl;have hcz9_1 : w8.cell? ⟨gb2, 1, none⟩ = some (.string (⟨#[]⟩ : ByteArray)) := (blk_cell BK2.out 1).trans rfl;have hcz9_2 : w8.cell? ⟨gb2, 2, none⟩ = some (.int .i64 0) := (blk_cell BK2.out 2).trans rfl;have hcz9_3 : w8.cell? ⟨gb2, 3, none⟩ = some (.int .i64 0) := (blk_cell BK2.out 3).trans rfl;have hcz9_4 : w8.cell? ⟨gb2, 4, none⟩ = some (.int .i64 0) := (blk_cell BK2.out 4).trans rfl;have hcz9_5 : w8.cell? ⟨gb2, 5, none⟩ = some (.int .i64 0) := (blk_cell BK2.out 5).trans rfl;have hcz9_6 : w8.cell? ⟨gb2, 6, none⟩ = some (.int .i64 0) := (blk_cell BK2.out 6).trans rfl;have hcz9_7 : w8.cell? ⟨gb2, 7, none⟩ = some (.int .i64 0) := (blk_cell BK2.out 7).trans rfl;have hcz9_8 : w8.cell? ⟨gb2, 8, none⟩ = some (.int .i64 0) := (blk_cell BK2.out 8).trans rfl;have hcz9_9 : w8.cell? ⟨gb2, 9, none⟩ = some (.int .i64 0) := (blk_cell BK2.out 9).trans rfl;have hcz9_10 : w8.cell? ⟨gb2, 10, none⟩ = some (.int .i64 0) := (blk_cell BK2.out 10).trans rfl;have hcz9_11 : w8.cell? ⟨gb2, 11, none⟩ = some (.int .i64 0) := (blk_cell BK2.out 11).trans rfl;have hfz9_0 := blk_frozen BK2.out 0;have hfz9_1 := blk_frozen BK2.out 1;have hfz9_2 := blk_frozen BK2.out 2;have hfz9_3 := blk_frozen BK2.out 3;have hfz9_4 := blk_frozen BK2.out 4;have hfz9_5 := blk_frozen BK2.out 5;have hfz9_6 := blk_frozen BK2.out 6;have hfz9_7 := blk_frozen BK2.out 7;have hfz9_8 := blk_frozen BK2.out 8;have hfz9_9 := blk_frozen BK2.out 9;have hfz9_10 := blk_frozen BK2.out 10;have hfz9_11 := blk_frozen BK2.out 11)|((with_reducible refine gate_callee (f := 70) rfl ?_);refine goesL_ (some 24) rfl rfl Try.func70 (by kernel_rfl) rfl #[.slice (some ad1) l0.length c0, .string ((rd_T31 l0 x16_1).f0)] rfl (by (try simp only [List.map_toArray, List.map_cons, List.map_nil]);first|done|rfl|(simp only [List.length_drop, List.length_take];rfl)) ?_;(with_reducible refine (tree_Up.calls k1 _ _ l0 ((rd_T31 l0 x16_1).f0) t3 _ ?side1 ?side2 A6.out).mono ?_);(case side1 => exact Kd.C_below HR0.out (by repeat (first|(with_reducible first|exact HB.out|apply below_alloc|apply pw_below_drewN|apply below_drew1|refine below_set ?_ GE2.out)|exact HB.out)));(case side2 => exact HC0.out);rintro e w10 ⟨v4, rfl, ho0, hb⟩;refine ⟨_, rfl, ?_⟩;have n0_ := Aside0.mk (Kd.R_lower ho0 (below_size (by repeat (first|(with_reducible first|exact HB.out|apply below_alloc|apply pw_below_drewN|apply below_drew1|refine below_set ?_ GE2.out)|exact HB.out))));have n1_ := Aside0.mk (blk_below (g := gb2) (o := .cells #[.string ((rd_T31 l0 x16_1).f0), .string ((rd_T31 l0 x16_1).f1), .int .i64 ((rd_T31 l0 x16_1).f2.f0), .int .i64 ((rd_T31 l0 x16_1).f2.f1), .int .i64 ((rd_T31 l0 x16_1).f2.f2), .int .i64 ((rd_T31 l0 x16_1).f3.f0), .int .i64 ((rd_T31 l0 x16_1).f3.f1), .int .i64 ((rd_T31 l0 x16_1).f3.f2), .int .i64 ((rd_T31 l0 x16_1).f4.f0), .int .i64 ((rd_T31 l0 x16_1).f4.f1), .int .i64 ((rd_T31 l0 x16_1).f4.f2), .int .i64 ((rd_T31 l0 x16_1).f5)] 31 (0, 0)) (by (with_reducible repeat (first|refine blk_drewN ?_ _|refine blk_drew ?_|refine blk_alloc ?_ _));refine blk_put (cs := #[.string ((rd_T31 l0 x16_1).f0), .string ((rd_T31 l0 x16_1).f1), .int .i64 ((rd_T31 l0 x16_1).f2.f0), .int .i64 ((rd_T31 l0 x16_1).f2.f1), .int .i64 ((rd_T31 l0 x16_1).f2.f2), .int .i64 ((rd_T31 l0 x16_1).f3.f0), .int .i64 ((rd_T31 l0 x16_1).f3.f1), .int .i64 ((rd_T31 l0 x16_1).f3.f2), .int .i64 ((rd_T31 l0 x16_1).f4.f0), .int .i64 ((rd_T31 l0 x16_1).f4.f1), .int .i64 ((rd_T31 l0 x16_1).f4.f2), .int .i64 0]) ?_ 11 _ rfl;(with_reducible repeat (first|refine blk_drewN ?_ _|refine blk_drew ?_|refine blk_alloc ?_ _));refine blk_put (cs := #[.string ((rd_T31 l0 x16_1).f0), .string ((rd_T31 l0 x16_1).f1), .int .i64 ((rd_T31 l0 x16_1).f2.f0), .int .i64 ((rd_T31 l0 x16_1).f2.f1), .int .i64 ((rd_T31 l0 x16_1).f2.f2), .int .i64 ((rd_T31 l0 x16_1).f3.f0), .int .i64 ((rd_T31 l0 x16_1).f3.f1), .int .i64 ((rd_T31 l0 x16_1).f3.f2), .int .i64 ((rd_T31 l0 x16_1).f4.f0), .int .i64 ((rd_T31 l0 x16_1).f4.f1), .int .i64 0, .int .i64 0]) ?_ 10 _ rfl;(with_reducible repeat (first|refine blk_drewN ?_ _|refine blk_drew ?_|refine blk_alloc ?_ _));refine blk_put (cs := #[.string ((rd_T31 l0 x16_1).f0), .string ((rd_T31 l0 x16_1).f1), .int .i64 ((rd_T31 l0 x16_1).f2.f0), .int .i64 ((rd_T31 l0 x16_1).f2.f1), .int .i64 ((rd_T31 l0 x16_1).f2.f2), .int .i64 ((rd_T31 l0 x16_1).f3.f0), .int .i64 ((rd_T31 l0 x16_1).f3.f1), .int .i64 ((rd_T31 l0 x16_1).f3.f2), .int .i64 ((rd_T31 l0 x16_1).f4.f0), .int .i64 0, .int .i64 0, .int .i64 0]) ?_ 9 _ rfl;(with_reducible repeat (first|refine blk_drewN ?_ _|refine blk_drew ?_|refine blk_alloc ?_ _));refine blk_put (cs := #[.string ((rd_T31 l0 x16_1).f0), .string ((rd_T31 l0 x16_1).f1), .int .i64 ((rd_T31 l0 x16_1).f2.f0), .int .i64 ((rd_T31 l0 x16_1).f2.f1), .int .i64 ((rd_T31 l0 x16_1).f2.f2), .int .i64 ((rd_T31 l0 x16_1).f3.f0), .int .i64 ((rd_T31 l0 x16_1).f3.f1), .int .i64 ((rd_T31 l0 x16_1).f3.f2), .int .i64 0, .int .i64 0, .int .i64 0, .int .i64 0]) ?_ 8 _ rfl;(with_reducible repeat (first|refine blk_drewN ?_ _|refine blk_drew ?_|refine blk_alloc ?_ _));refine blk_put (cs := #[.string ((rd_T31 l0 x16_1).f0), .string ((rd_T31 l0 x16_1).f1), .int .i64 ((rd_T31 l0 x16_1).f2.f0), .int .i64 ((rd_T31 l0 x16_1).f2.f1), .int .i64 ((rd_T31 l0 x16_1).f2.f2), .int .i64 ((rd_T31 l0 x16_1).f3.f0), .int .i64 ((rd_T31 l0 x16_1).f3.f1), .int .i64 0, .int .i64 0, .int .i64 0, .int .i64 0, .int .i64 0]) ?_ 7 _ rfl;(with_reducible repeat (first|refine blk_drewN ?_ _|refine blk_drew ?_|refine blk_alloc ?_ _));refine blk_put (cs := #[.string ((rd_T31 l0 x16_1).f0), .string ((rd_T31 l0 x16_1).f1), .int .i64 ((rd_T31 l0 x16_1).f2.f0), .int .i64 ((rd_T31 l0 x16_1).f2.f1), .int .i64 ((rd_T31 l0 x16_1).f2.f2), .int .i64 ((rd_T31 l0 x16_1).f3.f0), .int .i64 0, .int .i64 0, .int .i64 0, .int .i64 0, .int .i64 0, .int .i64 0]) ?_ 6 _ rfl;(with_reducible repeat (first|refine blk_drewN ?_ _|refine blk_drew ?_|refine blk_alloc ?_ _));refine blk_put (cs := #[.string ((rd_T31 l0 x16_1).f0), .string ((rd_T31 l0 x16_1).f1), .int .i64 ((rd_T31 l0 x16_1).f2.f0), .int .i64 ((rd_T31 l0 x16_1).f2.f1), .int .i64 ((rd_T31 l0 x16_1).f2.f2), .int .i64 0, .int .i64 0, .int .i64 0, .int .i64 0, .int .i64 0, .int .i64 0, .int .i64 0]) ?_ 5 _ rfl;(with_reducible repeat (first|refine blk_drewN ?_ _|refine blk_drew ?_|refine blk_alloc ?_ _));refine blk_put (cs := #[.string ((rd_T31 l0 x16_1).f0), .string ((rd_T31 l0 x16_1).f1), .int .i64 ((rd_T31 l0 x16_1).f2.f0), .int .i64 ((rd_T31 l0 x16_1).f2.f1), .int .i64 0, .int .i64 0, .int .i64 0, .int .i64 0, .int .i64 0, .int .i64 0, .int .i64 0, .int .i64 0]) ?_ 4 _ rfl;(with_reducible repeat (first|refine blk_drewN ?_ _|refine blk_drew ?_|refine blk_alloc ?_ _));refine blk_put (cs := #[.string ((rd_T31 l0 x16_1).f0), .string ((rd_T31 l0 x16_1).f1), .int .i64 ((rd_T31 l0 x16_1).f2.f0), .int .i64 0, .int .i64 0, .int .i64 0, .int .i64 0, .int .i64 0, .int .i64 0, .int .i64 0, .int .i64 0, .int .i64 0]) ?_ 3 _ rfl;(with_reducible repeat (first|refine blk_drewN ?_ _|refine blk_drew ?_|refine blk_alloc ?_ _));refine blk_put (cs := #[.string ((rd_T31 l0 x16_1).f0), .string ((rd_T31 l0 x16_1).f1), .int .i64 0, .int .i64 0, .int .i64 0, .int .i64 0, .int .i64 0, .int .i64 0, .int .i64 0, .int .i64 0, .int .i64 0, .int .i64 0]) ?_ 2 _ rfl;(with_reducible repeat (first|refine blk_drewN ?_ _|refine blk_drew ?_|refine blk_alloc ?_ _));refine blk_put (cs := #[.string ((rd_T31 l0 x16_1).f0), .string (⟨#[]⟩ : ByteArray), .int .i64 0, .int .i64 0, .int .i64 0, .int .i64 0, .int .i64 0, .int .i64 0, .int .i64 0, .int .i64 0, .int .i64 0, .int .i64 0]) ?_ 1 _ rfl;(with_reducible repeat (first|refine blk_drewN ?_ _|refine blk_drew ?_|refine blk_alloc ?_ _));refine blk_put (cs := #[.string (⟨#[]⟩ : ByteArray), .string (⟨#[]⟩ : ByteArray), .int .i64 0, .int .i64 0, .int .i64 0, .int .i64 0, .int .i64 0, .int .i64 0, .int .i64 0, .int .i64 0, .int .i64 0, .int .i64 0]) ?_ 0 _ rfl;(with_reducible repeat (first|refine blk_drewN ?_ _|refine blk_drew ?_|refine blk_alloc ?_ _));exact BK2.out) hb);have n2_ := Aside0.mk (below_step (by repeat (first|(with_reducible first|exact HB.out|apply below_alloc|apply pw_below_drewN|apply below_drew1|refine below_set ?_ GE2.out)|exact HB.out)) hb);clear BK2;clear HB;have HO5 := n0_;have BK2 := n1_;have HB := n2_;clear n0_ n1_ n2_;(try clear hb);(try clear hb2);(try clear hk);(try clear hi);(try clear ho0)))
       (try simp only [Act.put, List.setIfInBounds_toArray, List.set_cons_zero, List.set_cons_succ])
       go_cut [62] (fun v62 wc => ∃ (kq : Nat) (x62_6 : Bool), v62 = .bool x62_6 ∧ Aside0 (tree_Right.j1 kq l0 l0 (l0.length : Int) x16_1 x62_6 ((rd_T31 l0 x16_1).f0) ((rd_T31 l0 x16_1).f1) ((rd_T31 l0 x16_1).f2.f0) ((rd_T31 l0 x16_1).f2.f1) ((rd_T31 l0 x16_1).f2.f2) ((rd_T31 l0 x16_1).f3.f0) ((rd_T31 l0 x16_1).f3.f1) ((rd_T31 l0 x16_1).f3.f2) ((rd_T31 l0 x16_1).f4.f0) ((rd_T31 l0 x16_1).f4.f1) ((rd_T31 l0 x16_1).f4.f2) ((rd_T31 l0 x16_1).f5) = some r) ∧ Aside0 (kq ≤ k1) ∧ Aside0 (wc.heap[gb2]? = some (.cells #[.string ((rd_T31 l0 x16_1).f0), .string ((rd_T31 l0 x16_1).f1), .int .i64 ((rd_T31 l0 x16_1).f2.f0), .int .i64 ((rd_T31 l0 x16_1).f2.f1), .int .i64 ((rd_T31 l0 x16_1).f2.f2), .int .i64 ((rd_T31 l0 x16_1).f3.f0), .int .i64 ((rd_T31 l0 x16_1).f3.f1), .int .i64 ((rd_T31 l0 x16_1).f3.f2), .int .i64 ((rd_T31 l0 x16_1).f4.f0), .int .i64 ((rd_T31 l0 x16_1).f4.f1), .int .i64 ((rd_T31 l0 x16_1).f4.f2), .int .i64 ((rd_T31 l0 x16_1).f5)] 31 (0, 0))) ∧ Aside0 (Below w.heap.size w wc))
       case first =>
        have H := HC7.out
        clear HC7
        obtain ⟨t6, A110, H⟩ := Option.bind_eq_some_iff.mp H
        have A11 := Aside0.mk A110
        clear A110
        have b0 : w10.cell? ⟨gb2, 0, none⟩ = some (.string ((rd_T31 l0 x16_1).f0)) := (blk_cell BK2.out 0).trans rfl
        have b1 : w10.cell? ⟨gb2, 1, none⟩ = some (.string ((rd_T31 l0 x16_1).f1)) := (blk_cell BK2.out 1).trans rfl
        have b2 : w10.cell? ⟨gb2, 2, none⟩ = some (.int .i64 ((rd_T31 l0 x16_1).f2.f0)) := (blk_cell BK2.out 2).trans rfl
        have b3 : w10.cell? ⟨gb2, 3, none⟩ = some (.int .i64 ((rd_T31 l0 x16_1).f2.f1)) := (blk_cell BK2.out 3).trans rfl
        have b4 : w10.cell? ⟨gb2, 4, none⟩ = some (.int .i64 ((rd_T31 l0 x16_1).f2.f2)) := (blk_cell BK2.out 4).trans rfl
        have b5 : w10.cell? ⟨gb2, 5, none⟩ = some (.int .i64 ((rd_T31 l0 x16_1).f3.f0)) := (blk_cell BK2.out 5).trans rfl
        have b6 : w10.cell? ⟨gb2, 6, none⟩ = some (.int .i64 ((rd_T31 l0 x16_1).f3.f1)) := (blk_cell BK2.out 6).trans rfl
        have b7 : w10.cell? ⟨gb2, 7, none⟩ = some (.int .i64 ((rd_T31 l0 x16_1).f3.f2)) := (blk_cell BK2.out 7).trans rfl
        have b8 : w10.cell? ⟨gb2, 8, none⟩ = some (.int .i64 ((rd_T31 l0 x16_1).f4.f0)) := (blk_cell BK2.out 8).trans rfl
        have b9 : w10.cell? ⟨gb2, 9, none⟩ = some (.int .i64 ((rd_T31 l0 x16_1).f4.f1)) := (blk_cell BK2.out 9).trans rfl
        have b10 : w10.cell? ⟨gb2, 10, none⟩ = some (.int .i64 ((rd_T31 l0 x16_1).f4.f2)) := (blk_cell BK2.out 10).trans rfl
        have b11 : w10.cell? ⟨gb2, 11, none⟩ = some (.int .i64 ((rd_T31 l0 x16_1).f5)) := (blk_cell BK2.out 11).trans rfl
        obtain ⟨Ao5, co5, eo5⟩ := Kd.R_slice HO5.out
        subst eo5
        by_cases c12 : t6 = true
        subst c12
        rw [if_pos rfl] at H
        by_cases c13 : x16_1 > 0
        rw [if_pos c13] at H
        have c13b0 : decide (0 < x16_1) = true := decide_eq_true c13
        clear c13
        obtain ⟨ji14, hji14⟩ : ∃ j_ : Int, (wrap64 (x16_1 - 1)) = j_ := ⟨_, rfl⟩
        rw [hji14] at H
        have hji14w : (IntKind.i64.wrap (x16_1 - 1)) = ji14 := (i64_w _).trans hji14
        by_cases c15 : 0 ≤ ji14
        rw [if_pos c15] at H
        by_cases c16 : ji14 < (l0.length : Int)
        rw [if_pos c16] at H
        obtain ⟨ad7, e7, hp, -⟩ := at_T31 HR0.out ji14 c15 c16
        obtain rfl : ad1 = ad7 := (by injection e7)
        replace hp := (HB.out.cell (World.block_lt_of_cell? w _ hp)).trans hp
        have p7 := eq_true c15
        have q7 := eq_true c16
        clear c15 c16
        by_cases c17 : ((Op.bytesLess (((rd_T31 l0 ji14).f0).toList) (((rd_T31 l0 x16_1).f0).toList)) = true)
        rw [if_pos c17] at H
        by_cases c18 : ((rd_T31 l0 x16_1).f1).toList = ([] : List UInt8)
        rw [if_pos c18] at H
        have c18b0 : (((rd_T31 l0 x16_1).f1).toList == ([] : List UInt8)) = true := beq_iff_eq.mpr c18
        have c18b1 : (((rd_T31 l0 x16_1).f1).toList != ([] : List UInt8)) = false := bne_eq_false_iff_eq.mpr c18
        clear c18
        have H' := Aside0.mk H
        clear H
        rotate_left
        rw [if_neg c18] at H
        have c18b0 : (((rd_T31 l0 x16_1).f1).toList == ([] : List UInt8)) = false := beq_eq_false_iff_ne.mpr c18
        have c18b1 : (((rd_T31 l0 x16_1).f1).toList != ([] : List UInt8)) = true := bne_iff_ne.mpr c18
        clear c18
        obtain ⟨t8, A220, H⟩ := Option.bind_eq_some_iff.mp H
        have A22 := Aside0.mk A220
        clear A220
        by_cases c23 : t8 < 0
        rw [if_pos c23] at H
        have c23b0 : decide (t8 < 0) = true := decide_eq_true c23
        clear c23
        have H' := Aside0.mk H
        clear H
        rotate_left
        rw [if_neg c23] at H
        have c23b0 : decide (t8 < 0) = false := decide_eq_false c23
        clear c23
        have H' := Aside0.mk H
        clear H
        rotate_left
        rw [if_neg c17] at H
        have c17b0 : (Op.bytesLess (((rd_T31 l0 ji14).f0).toList) (((rd_T31 l0 x16_1).f0).toList)) = false := Bool.eq_false_iff.mpr c17
        clear c17
        have H' := Aside0.mk H
        clear H
        rotate_left
        rw [if_neg c16] at H
        cases H
        rw [if_neg c15] at H
        cases H
        rw [if_neg c13] at H
        have c13b0 : decide (0 < x16_1) = false := decide_eq_false c13
        clear c13
        by_cases c18 : ((rd_T31 l0 x16_1).f1).toList = ([] : List UInt8)
        rw [if_pos c18] at H
        have c18b0 : (((rd_T31 l0 x16_1).f1).toList == ([] : List UInt8)) = true := beq_iff_eq.mpr c18
        have c18b1 : (((rd_T31 l0 x16_1).f1).toList != ([] : List UInt8)) = false := bne_eq_false_iff_eq.mpr c18
        clear c18
        have H' := Aside0.mk H
        clear H
        rotate_left
        rw [if_neg c18] at H
        have c18b0 : (((rd_T31 l0 x16_1).f1).toList == ([] : List UInt8)) = false := beq_eq_false_iff_ne.mpr c18
        have c18b1 : (((rd_T31 l0 x16_1).f1).toList != ([] : List UInt8)) = true := bne_iff_ne.mpr c18
        clear c18
        obtain ⟨t8, A220, H⟩ := Option.bind_eq_some_iff.mp H
        have A22 := Aside0.mk A220
        clear A220
        by_cases c23 : t8 < 0
        rw [if_pos c23] at H
        have c23b0 : decide (t8 < 0) = true := decide_eq_true c23
        clear c23
        have H' := Aside0.mk H
        clear H
        rotate_left
        rw [if_neg c23] at H
        have c23b0 : decide (t8 < 0) = false := decide_eq_false c23
        clear c23
        have H' := Aside0.mk H
        clear H
        rotate_left
        rw [if_neg c12] at H
        obtain rfl : t6 = false := by simpa using c12
        have H' := Aside0.mk H
        clear H
        rotate_left
        all_goals (
          have HBc := Aside0.mk (below_drew1 (Below.refl w10.heap.size w10))
          first | (refine start_ (n := 38) (S := fun w' => w'.cell? ⟨gb2, 0, none⟩ = some (.string ((rd_T31 l0 x16_1).f0)) ∧ w'.cell? ⟨gb2, 1, none⟩ = some (.string ((rd_T31 l0 x16_1).f1)) ∧ w'.cell? ⟨gb2, 2, none⟩ = some (.int .i64 ((rd_T31 l0 x16_1).f2.f0)) ∧ w'.cell? ⟨gb2, 3, none⟩ = some (.int .i64 ((rd_T31 l0 x16_1).f2.f1)) ∧ w'.cell? ⟨gb2, 4, none⟩ = some (.int .i64 ((rd_T31 l0 x16_1).f2.f2)) ∧ w'.cell? ⟨gb2, 5, none⟩ = some (.int .i64 ((rd_T31 l0 x16_1).f3.f0)) ∧ w'.cell? ⟨gb2, 6, none⟩ = some (.int .i64 ((rd_T31 l0 x16_1).f3.f1)) ∧ w'.cell? ⟨gb2, 7, none⟩ = some (.int .i64 ((rd_T31 l0 x16_1).f3.f2)) ∧ w'.cell? ⟨gb2, 8, none⟩ = some (.int .i64 ((rd_T31 l0 x16_1).f4.f0)) ∧ w'.cell? ⟨gb2, 9, none⟩ = some (.int .i64 ((rd_T31 l0 x16_1).f4.f1)) ∧ w'.cell? ⟨gb2, 10, none⟩ = some (.int .i64 ((rd_T31 l0 x16_1).f4.f2)) ∧ w'.cell? ⟨gb2, 11, none⟩ = some (.int .i64 ((rd_T31 l0 x16_1).f5)) ∧ w'.cell? (ad1.add (((ji14)).toNat * 12)) = some (.string ((rd_T31 l0 (ji14)).f0))) (ds := []) #[false, false, false, false, false, false, false, false, false, false, false, false, false, false, false, false, false, false, false, false, false, false, false, false, false, false, false, false, false, false, false, false, false, false, false, false, false, false] (by kernel_rfl) rfl rfl ?_ (fun hHeld => ?_); (refine ⟨?_, ?_, ?_, ?_, ?_, ?_, ?_, ?_, ?_, ?_, ?_, ?_, ?_⟩ <;> first | exact pw_cell_below HBc.out (by assumption) | (go_keep; done))) | (refine start_ (n := 38) (S := fun w' => w'.cell? ⟨gb2, 0, none⟩ = some (.string ((rd_T31 l0 x16_1).f0)) ∧ w'.cell? ⟨gb2, 1, none⟩ = some (.string ((rd_T31 l0 x16_1).f1)) ∧ w'.cell? ⟨gb2, 2, none⟩ = some (.int .i64 ((rd_T31 l0 x16_1).f2.f0)) ∧ w'.cell? ⟨gb2, 3, none⟩ = some (.int .i64 ((rd_T31 l0 x16_1).f2.f1)) ∧ w'.cell? ⟨gb2, 4, none⟩ = some (.int .i64 ((rd_T31 l0 x16_1).f2.f2)) ∧ w'.cell? ⟨gb2, 5, none⟩ = some (.int .i64 ((rd_T31 l0 x16_1).f3.f0)) ∧ w'.cell? ⟨gb2, 6, none⟩ = some (.int .i64 ((rd_T31 l0 x16_1).f3.f1)) ∧ w'.cell? ⟨gb2, 7, none⟩ = some (.int .i64 ((rd_T31 l0 x16_1).f3.f2)) ∧ w'.cell? ⟨gb2, 8, none⟩ = some (.int .i64 ((rd_T31 l0 x16_1).f4.f0)) ∧ w'.cell? ⟨gb2, 9, none⟩ = some (.int .i64 ((rd_T31 l0 x16_1).f4.f1)) ∧ w'.cell? ⟨gb2, 10, none⟩ = some (.int .i64 ((rd_T31 l0 x16_1).f4.f2)) ∧ w'.cell? ⟨gb2, 11, none⟩ = some (.int .i64 ((rd_T31 l0 x16_1).f5))) (ds := []) #[false, false, false, false, false, false, false, false, false, false, false, false, false, false, false, false, false, false, false, false, false, false, false, false, false, false, false, false, false, false, false, false, false, false, false, false, false, false] (by kernel_rfl) rfl rfl ?_ (fun hHeld => ?_); (refine ⟨?_, ?_, ?_, ?_, ?_, ?_, ?_, ?_, ?_, ?_, ?_, ?_⟩ <;> first | exact pw_cell_below HBc.out (by assumption) | (go_keep; done)))
          refine with_tabW tree_Right.tab7 tree_Right.bits7 (fun HT_ HW_ => ?_)
          generalize w10.drew = wd at HBc hHeld ⊢
          (refine take_ (i := 0) (N := some 25) (v := ?_) (a' := ?_) (tree_Right.tk 1) rfl rfl (take_ofW HT_.out HW_.out (by kernel_rfl)) (fun _ _ _ h => h) (Or.inl ⟨by rfl, ?_⟩) hHeld ?_ ?_;rotate_left;(intro w' hSw;(try dsimp only at hSw);go_simp;with_reducible rfl);rotate_left;(simp only [Act.put, List.setIfInBounds_toArray, List.set_cons_zero, List.set_cons_succ, i64_w, i32_w];rfl))
          (refine pure_ (i := 1) (N := some 26) (v := ?_) (a' := ?_) (tree_Right.tk 2) rfl rfl (any_of HT_.out (by kernel_rfl)) (fun _ _ _ h => h) (Or.inl ⟨by rfl, ?_⟩) ?_ ?_;rotate_left;(intro w';go_simp;with_reducible rfl);rotate_left;(simp only [Act.put, List.setIfInBounds_toArray, List.set_cons_zero, List.set_cons_succ, i64_w, i32_w];rfl))
          (refine one_ (i := 2) (N := some 27) (tree_Right.tk 3) rfl rfl (one_of HT_.out (by kernel_rfl)) (by decide) (fun K hK => ?_); refine goes_ Try.func125 (by kernel_rfl) rfl #[.agg #[.string ((rd_T31 l0 x16_1).f0), .string ((rd_T31 l0 x16_1).f1), .int .i64 ((rd_T31 l0 x16_1).f2.f0), .int .i64 ((rd_T31 l0 x16_1).f2.f1), .int .i64 ((rd_T31 l0 x16_1).f2.f2), .int .i64 ((rd_T31 l0 x16_1).f3.f0), .int .i64 ((rd_T31 l0 x16_1).f3.f1), .int .i64 ((rd_T31 l0 x16_1).f3.f2), .int .i64 ((rd_T31 l0 x16_1).f4.f0), .int .i64 ((rd_T31 l0 x16_1).f4.f1), .int .i64 ((rd_T31 l0 x16_1).f4.f2), .int .i64 ((rd_T31 l0 x16_1).f5), .slice none 0 0]] (by rfl) rfl rfl (by (try simp only [List.map_toArray, List.map_cons, List.map_nil]); first | done | rfl | (simp only [List.length_drop, List.length_take]; rfl)) ?_; refine (tree_node_may.calls _ _ _ _ _ _ _ _ _ _ _ _ none 0 ([] : List (S27)) _ _ (Kd.C_nil _ _) (Nat.le_refl _) A11.out).mono ?_; rintro e wx2 ⟨rfl, hb⟩; refine ⟨_, rfl, ?_⟩; have HBn := Aside0.mk (below_step HBc.out hb); clear HBc; have HBc := HBn; clear HBn; refine hK.out _ _ (by first | exact ⟨pw_cell_below hb hHeld.1, pw_cell_below hb hHeld.2.1, pw_cell_below hb hHeld.2.2.1, pw_cell_below hb hHeld.2.2.2.1, pw_cell_below hb hHeld.2.2.2.2.1, pw_cell_below hb hHeld.2.2.2.2.2.1, pw_cell_below hb hHeld.2.2.2.2.2.2.1, pw_cell_below hb hHeld.2.2.2.2.2.2.2.1, pw_cell_below hb hHeld.2.2.2.2.2.2.2.2.1, pw_cell_below hb hHeld.2.2.2.2.2.2.2.2.2.1, pw_cell_below hb hHeld.2.2.2.2.2.2.2.2.2.2.1, pw_cell_below hb hHeld.2.2.2.2.2.2.2.2.2.2.2.1, pw_cell_below hb hHeld.2.2.2.2.2.2.2.2.2.2.2.2⟩ | exact ⟨pw_cell_below hb hHeld.1, pw_cell_below hb hHeld.2.1, pw_cell_below hb hHeld.2.2.1, pw_cell_below hb hHeld.2.2.2.1, pw_cell_below hb hHeld.2.2.2.2.1, pw_cell_below hb hHeld.2.2.2.2.2.1, pw_cell_below hb hHeld.2.2.2.2.2.2.1, pw_cell_below hb hHeld.2.2.2.2.2.2.2.1, pw_cell_below hb hHeld.2.2.2.2.2.2.2.2.1, pw_cell_below hb hHeld.2.2.2.2.2.2.2.2.2.1, pw_cell_below hb hHeld.2.2.2.2.2.2.2.2.2.2.1, pw_cell_below hb hHeld.2.2.2.2.2.2.2.2.2.2.2⟩) (fun hHeld => ?_); clear hK K hb; refine norm_ (a' := ?_) ?_ ?_; rotate_left; (show Act.put _ (some 27) _ = _; simp only [Act.put, List.setIfInBounds_toArray, List.set_cons_zero, List.set_cons_succ, i64_w, i32_w]; rfl))
          (refine pure_ (i := 3) (N := some 28) (v := ?_) (a' := ?_) (tree_Right.tk 4) rfl rfl (any_of HT_.out (by kernel_rfl)) (fun _ _ _ h => h) (Or.inl ⟨by rfl, ?_⟩) ?_ ?_;rotate_left;(intro w';go_simp;with_reducible rfl);rotate_left;(simp only [Act.put, List.setIfInBounds_toArray, List.set_cons_zero, List.set_cons_succ, i64_w, i32_w];rfl))
          (refine pure_ (i := 4) (N := some 29) (v := ?_) (a' := ?_) (tree_Right.tk 5) rfl rfl (any_of HT_.out (by kernel_rfl)) (fun _ _ _ h => h) (Or.inl ⟨by rfl, ?_⟩) ?_ ?_;rotate_left;(intro w';go_simp;with_reducible rfl);rotate_left;(simp only [Act.put, List.setIfInBounds_toArray, List.set_cons_zero, List.set_cons_succ, i64_w, i32_w];rfl))
          (first|(refine pure_ (i := 5) (N := some 30) (v := ?_) (a' := ?_) (tree_Right.tk 6) rfl rfl (any_of HT_.out (by kernel_rfl)) (fun _ _ _ h => h) (Or.inl ⟨by rfl, ?_⟩) ?_ ?_;rotate_left;(intro w';go_simp;with_reducible rfl);rotate_left;(simp only [Act.put, List.setIfInBounds_toArray, List.set_cons_zero, List.set_cons_succ, i64_w, i32_w];rfl))|(refine pure_ (i := 5) (N := some 30) (v := undef) (a' := ?_) (tree_Right.tk 6) rfl rfl (any_of HT_.out (by kernel_rfl)) (fun _ _ _ h => h) (Or.inr ⟨by rfl, rfl⟩) ?_ ?_;rotate_left;(simp only [Act.put, List.setIfInBounds_toArray, List.set_cons_zero, List.set_cons_succ, i64_w, i32_w];rfl)))
          (first|(refine pure_ (i := 6) (N := some 31) (v := ?_) (a' := ?_) (tree_Right.tk 7) rfl rfl (any_of HT_.out (by kernel_rfl)) (fun _ _ _ h => h) (Or.inl ⟨by rfl, ?_⟩) ?_ ?_;rotate_left;(intro w';go_simp;with_reducible rfl);rotate_left;(simp only [Act.put, List.setIfInBounds_toArray, List.set_cons_zero, List.set_cons_succ, i64_w, i32_w];rfl))|(refine pure_ (i := 6) (N := some 31) (v := undef) (a' := ?_) (tree_Right.tk 7) rfl rfl (any_of HT_.out (by kernel_rfl)) (fun _ _ _ h => h) (Or.inr ⟨by rfl, rfl⟩) ?_ ?_;rotate_left;(simp only [Act.put, List.setIfInBounds_toArray, List.set_cons_zero, List.set_cons_succ, i64_w, i32_w];rfl)))
          (first|(refine pure_ (i := 7) (N := some 32) (v := ?_) (a' := ?_) (tree_Right.tk 8) rfl rfl (any_of HT_.out (by kernel_rfl)) (fun _ _ _ h => h) (Or.inl ⟨by rfl, ?_⟩) ?_ ?_;rotate_left;(intro w';go_simp;with_reducible rfl);rotate_left;(simp only [Act.put, List.setIfInBounds_toArray, List.set_cons_zero, List.set_cons_succ, i64_w, i32_w];rfl))|(refine pure_ (i := 7) (N := some 32) (v := undef) (a' := ?_) (tree_Right.tk 8) rfl rfl (any_of HT_.out (by kernel_rfl)) (fun _ _ _ h => h) (Or.inr ⟨by rfl, rfl⟩) ?_ ?_;rotate_left;(simp only [Act.put, List.setIfInBounds_toArray, List.set_cons_zero, List.set_cons_succ, i64_w, i32_w];rfl)))
          (first|(refine pure_ (i := 8) (N := some 33) (v := ?_) (a' := ?_) (tree_Right.tk 9) rfl rfl (any_of HT_.out (by kernel_rfl)) (fun _ _ _ h => h) (Or.inl ⟨by rfl, ?_⟩) ?_ ?_;rotate_left;(intro w';go_simp;with_reducible rfl);rotate_left;(simp only [Act.put, List.setIfInBounds_toArray, List.set_cons_zero, List.set_cons_succ, i64_w, i32_w];rfl))|(refine pure_ (i := 8) (N := some 33) (v := undef) (a' := ?_) (tree_Right.tk 9) rfl rfl (any_of HT_.out (by kernel_rfl)) (fun _ _ _ h => h) (Or.inr ⟨by rfl, rfl⟩) ?_ ?_;rotate_left;(simp only [Act.put, List.setIfInBounds_toArray, List.set_cons_zero, List.set_cons_succ, i64_w, i32_w];rfl)))
          (first|(refine pure_ (i := 9) (N := some 34) (v := ?_) (a' := ?_) (tree_Right.tk 10) rfl rfl (any_of HT_.out (by kernel_rfl)) (fun _ _ _ h => h) (Or.inl ⟨by rfl, ?_⟩) ?_ ?_;rotate_left;(intro w';go_simp;with_reducible rfl);rotate_left;(simp only [Act.put, List.setIfInBounds_toArray, List.set_cons_zero, List.set_cons_succ, i64_w, i32_w];rfl))|(refine pure_ (i := 9) (N := some 34) (v := undef) (a' := ?_) (tree_Right.tk 10) rfl rfl (any_of HT_.out (by kernel_rfl)) (fun _ _ _ h => h) (Or.inr ⟨by rfl, rfl⟩) ?_ ?_;rotate_left;(simp only [Act.put, List.setIfInBounds_toArray, List.set_cons_zero, List.set_cons_succ, i64_w, i32_w];rfl)))
          (first|(refine pure_ (i := 10) (N := some 35) (v := ?_) (a' := ?_) (tree_Right.tk 11) rfl rfl (any_of HT_.out (by kernel_rfl)) (fun _ _ _ h => h) (Or.inl ⟨by rfl, ?_⟩) ?_ ?_;rotate_left;(intro w';go_simp;with_reducible rfl);rotate_left;(simp only [Act.put, List.setIfInBounds_toArray, List.set_cons_zero, List.set_cons_succ, i64_w, i32_w];rfl))|(refine pure_ (i := 10) (N := some 35) (v := undef) (a' := ?_) (tree_Right.tk 11) rfl rfl (any_of HT_.out (by kernel_rfl)) (fun _ _ _ h => h) (Or.inr ⟨by rfl, rfl⟩) ?_ ?_;rotate_left;(simp only [Act.put, List.setIfInBounds_toArray, List.set_cons_zero, List.set_cons_succ, i64_w, i32_w];rfl)))
          (first|(refine pure_ (i := 11) (N := some 36) (v := ?_) (a' := ?_) (tree_Right.tk 12) rfl rfl (any_of HT_.out (by kernel_rfl)) (fun _ _ _ h => h) (Or.inl ⟨by rfl, ?_⟩) ?_ ?_;rotate_left;(intro w';go_simp;with_reducible rfl);rotate_left;(simp only [Act.put, List.setIfInBounds_toArray, List.set_cons_zero, List.set_cons_succ, i64_w, i32_w];rfl))|(refine pure_ (i := 11) (N := some 36) (v := undef) (a' := ?_) (tree_Right.tk 12) rfl rfl (any_of HT_.out (by kernel_rfl)) (fun _ _ _ h => h) (Or.inr ⟨by rfl, rfl⟩) ?_ ?_;rotate_left;(simp only [Act.put, List.setIfInBounds_toArray, List.set_cons_zero, List.set_cons_succ, i64_w, i32_w];rfl)))
          (first|(refine pure_ (i := 12) (N := some 37) (v := ?_) (a' := ?_) (tree_Right.tk 13) rfl rfl (any_of HT_.out (by kernel_rfl)) (fun _ _ _ h => h) (Or.inl ⟨by rfl, ?_⟩) ?_ ?_;rotate_left;(intro w';go_simp;with_reducible rfl);rotate_left;(simp only [Act.put, List.setIfInBounds_toArray, List.set_cons_zero, List.set_cons_succ, i64_w, i32_w];rfl))|(refine pure_ (i := 12) (N := some 37) (v := undef) (a' := ?_) (tree_Right.tk 13) rfl rfl (any_of HT_.out (by kernel_rfl)) (fun _ _ _ h => h) (Or.inr ⟨by rfl, rfl⟩) ?_ ?_;rotate_left;(simp only [Act.put, List.setIfInBounds_toArray, List.set_cons_zero, List.set_cons_succ, i64_w, i32_w];rfl)))
          (first|(refine take_ (i := 13) (N := some 38) (v := ?_) (a' := ?_) (tree_Right.tk 14) rfl rfl (take_ofW HT_.out HW_.out (by kernel_rfl)) (fun _ _ _ h => h) (Or.inl ⟨by rfl, ?_⟩) hHeld ?_ ?_;rotate_left;(intro w' hSw;(try dsimp only at hSw);go_simp;with_reducible rfl);rotate_left;(simp only [Act.put, List.setIfInBounds_toArray, List.set_cons_zero, List.set_cons_succ, i64_w, i32_w];rfl))|(refine pure_ (i := 13) (N := some 38) (v := undef) (a' := ?_) (tree_Right.tk 14) rfl rfl (any_of HT_.out (by kernel_rfl)) (fun _ _ _ h => h) (Or.inr ⟨by rfl, rfl⟩) ?_ ?_;rotate_left;(simp only [Act.put, List.setIfInBounds_toArray, List.set_cons_zero, List.set_cons_succ, i64_w, i32_w];rfl)))
          (first|(refine pure_ (i := 14) (N := some 39) (v := ?_) (a' := ?_) (tree_Right.tk 15) rfl rfl (any_of HT_.out (by kernel_rfl)) (fun _ _ _ h => h) (Or.inl ⟨by rfl, ?_⟩) ?_ ?_;rotate_left;(intro w';go_simp;with_reducible rfl);rotate_left;(simp only [Act.put, List.setIfInBounds_toArray, List.set_cons_zero, List.set_cons_succ, i64_w, i32_w];rfl))|(refine pure_ (i := 14) (N := some 39) (v := undef) (a' := ?_) (tree_Right.tk 15) rfl rfl (any_of HT_.out (by kernel_rfl)) (fun _ _ _ h => h) (Or.inr ⟨by rfl, rfl⟩) ?_ ?_;rotate_left;(simp only [Act.put, List.setIfInBounds_toArray, List.set_cons_zero, List.set_cons_succ, i64_w, i32_w];rfl)))
          (first|(refine take_ (i := 15) (N := some 40) (v := ?_) (a' := ?_) (tree_Right.tk 16) rfl rfl (take_ofW HT_.out HW_.out (by kernel_rfl)) (fun _ _ _ h => h) (Or.inl ⟨by rfl, ?_⟩) hHeld ?_ ?_;rotate_left;(intro w' hSw;(try dsimp only at hSw);go_simp;with_reducible rfl);rotate_left;(simp only [Act.put, List.setIfInBounds_toArray, List.set_cons_zero, List.set_cons_succ, i64_w, i32_w];rfl))|(refine pure_ (i := 15) (N := some 40) (v := undef) (a' := ?_) (tree_Right.tk 16) rfl rfl (any_of HT_.out (by kernel_rfl)) (fun _ _ _ h => h) (Or.inr ⟨by rfl, rfl⟩) ?_ ?_;rotate_left;(simp only [Act.put, List.setIfInBounds_toArray, List.set_cons_zero, List.set_cons_succ, i64_w, i32_w];rfl)))
          (first|(refine pure_ (i := 16) (N := some 41) (v := ?_) (a' := ?_) (tree_Right.tk 17) rfl rfl (any_of HT_.out (by kernel_rfl)) (fun _ _ _ h => h) (Or.inl ⟨by rfl, ?_⟩) ?_ ?_;rotate_left;(intro w';go_simp;with_reducible rfl);rotate_left;(simp only [Act.put, List.setIfInBounds_toArray, List.set_cons_zero, List.set_cons_succ, i64_w, i32_w];rfl))|(refine pure_ (i := 16) (N := some 41) (v := undef) (a' := ?_) (tree_Right.tk 17) rfl rfl (any_of HT_.out (by kernel_rfl)) (fun _ _ _ h => h) (Or.inr ⟨by rfl, rfl⟩) ?_ ?_;rotate_left;(simp only [Act.put, List.setIfInBounds_toArray, List.set_cons_zero, List.set_cons_succ, i64_w, i32_w];rfl)))
          (first|(refine pure_ (i := 17) (N := some 42) (v := ?_) (a' := ?_) (tree_Right.tk 18) rfl rfl (any_of HT_.out (by kernel_rfl)) (fun _ _ _ h => h) (Or.inl ⟨by rfl, ?_⟩) ?_ ?_;rotate_left;(intro w';go_simp;with_reducible rfl);rotate_left;(simp only [Act.put, List.setIfInBounds_toArray, List.set_cons_zero, List.set_cons_succ, i64_w, i32_w];rfl))|(refine pure_ (i := 17) (N := some 42) (v := undef) (a' := ?_) (tree_Right.tk 18) rfl rfl (any_of HT_.out (by kernel_rfl)) (fun _ _ _ h => h) (Or.inr ⟨by rfl, rfl⟩) ?_ ?_;rotate_left;(simp only [Act.put, List.setIfInBounds_toArray, List.set_cons_zero, List.set_cons_succ, i64_w, i32_w];rfl)))
          (refine pure_ (i := 18) (N := some 43) (v := ?_) (a' := ?_) (tree_Right.tk 19) rfl rfl (any_of HT_.out (by kernel_rfl)) (fun _ _ _ h => h) (Or.inl ⟨by rfl, ?_⟩) ?_ ?_;rotate_left;(intro w';go_simp;with_reducible rfl);rotate_left;(simp only [Act.put, List.setIfInBounds_toArray, List.set_cons_zero, List.set_cons_succ, i64_w, i32_w];rfl))
          (refine pure_ (i := 19) (N := some 44) (v := ?_) (a' := ?_) (tree_Right.tk 20) rfl rfl (any_of HT_.out (by kernel_rfl)) (fun _ _ _ h => h) (Or.inl ⟨by rfl, ?_⟩) ?_ ?_;rotate_left;(intro w';go_simp;with_reducible rfl);rotate_left;(simp only [Act.put, List.setIfInBounds_toArray, List.set_cons_zero, List.set_cons_succ, i64_w, i32_w];rfl))
          (first|(refine pure_ (i := 20) (N := some 45) (v := ?_) (a' := ?_) (tree_Right.tk 21) rfl rfl (any_of HT_.out (by kernel_rfl)) (fun _ _ _ h => h) (Or.inl ⟨by rfl, ?_⟩) ?_ ?_;rotate_left;(intro w';go_simp;with_reducible rfl);rotate_left;(simp only [Act.put, List.setIfInBounds_toArray, List.set_cons_zero, List.set_cons_succ, i64_w, i32_w];rfl))|(refine pure_ (i := 20) (N := some 45) (v := undef) (a' := ?_) (tree_Right.tk 21) rfl rfl (any_of HT_.out (by kernel_rfl)) (fun _ _ _ h => h) (Or.inr ⟨by rfl, rfl⟩) ?_ ?_;rotate_left;(simp only [Act.put, List.setIfInBounds_toArray, List.set_cons_zero, List.set_cons_succ, i64_w, i32_w];rfl)))
          (first|(refine take_ (i := 21) (N := some 46) (v := ?_) (a' := ?_) (tree_Right.tk 22) rfl rfl (take_ofW HT_.out HW_.out (by kernel_rfl)) (fun _ _ _ h => h) (Or.inl ⟨by rfl, ?_⟩) hHeld ?_ ?_;rotate_left;(intro w' hSw;(try dsimp only at hSw);go_simp;with_reducible rfl);rotate_left;(simp only [Act.put, List.setIfInBounds_toArray, List.set_cons_zero, List.set_cons_succ, i64_w, i32_w];rfl))|(refine pure_ (i := 21) (N := some 46) (v := undef) (a' := ?_) (tree_Right.tk 22) rfl rfl (any_of HT_.out (by kernel_rfl)) (fun _ _ _ h => h) (Or.inr ⟨by rfl, rfl⟩) ?_ ?_;rotate_left;(simp only [Act.put, List.setIfInBounds_toArray, List.set_cons_zero, List.set_cons_succ, i64_w, i32_w];rfl)))
          (first|(refine pure_ (i := 22) (N := some 47) (v := ?_) (a' := ?_) (tree_Right.tk 23) rfl rfl (any_of HT_.out (by kernel_rfl)) (fun _ _ _ h => h) (Or.inl ⟨by rfl, ?_⟩) ?_ ?_;rotate_left;(intro w';go_simp;with_reducible rfl);rotate_left;(simp only [Act.put, List.setIfInBounds_toArray, List.set_cons_zero, List.set_cons_succ, i64_w, i32_w];rfl))|(refine pure_ (i := 22) (N := some 47) (v := undef) (a' := ?_) (tree_Right.tk 23) rfl rfl (any_of HT_.out (by kernel_rfl)) (fun _ _ _ h => h) (Or.inr ⟨by rfl, rfl⟩) ?_ ?_;rotate_left;(simp only [Act.put, List.setIfInBounds_toArray, List.set_cons_zero, List.set_cons_succ, i64_w, i32_w];rfl)))
          (first|(refine pure_ (i := 23) (N := some 48) (v := ?_) (a' := ?_) (tree_Right.tk 24) rfl rfl (any_of HT_.out (by kernel_rfl)) (fun _ _ _ h => h) (Or.inl ⟨by rfl, ?_⟩) ?_ ?_;rotate_left;(intro w';go_simp;with_reducible rfl);rotate_left;(simp only [Act.put, List.setIfInBounds_toArray, List.set_cons_zero, List.set_cons_succ, i64_w, i32_w];rfl))|(refine pure_ (i := 23) (N := some 48) (v := undef) (a' := ?_) (tree_Right.tk 24) rfl rfl (any_of HT_.out (by kernel_rfl)) (fun _ _ _ h => h) (Or.inr ⟨by rfl, rfl⟩) ?_ ?_;rotate_left;(simp only [Act.put, List.setIfInBounds_toArray, List.set_cons_zero, List.set_cons_succ, i64_w, i32_w];rfl)))
          (first|(refine pure_ (i := 24) (N := some 49) (v := ?_) (a' := ?_) (tree_Right.tk 25) rfl rfl (any_of HT_.out (by kernel_rfl)) (fun _ _ _ h => h) (Or.inl ⟨by rfl, ?_⟩) ?_ ?_;rotate_left;(intro w';go_simp;with_reducible rfl);rotate_left;(simp only [Act.put, List.setIfInBounds_toArray, List.set_cons_zero, List.set_cons_succ, i64_w, i32_w];rfl))|(refine pure_ (i := 24) (N := some 49) (v := undef) (a' := ?_) (tree_Right.tk 25) rfl rfl (any_of HT_.out (by kernel_rfl)) (fun _ _ _ h => h) (Or.inr ⟨by rfl, rfl⟩) ?_ ?_;rotate_left;(simp only [Act.put, List.setIfInBounds_toArray, List.set_cons_zero, List.set_cons_succ, i64_w, i32_w];rfl)))
          (first|(refine pure_ (i := 25) (N := some 50) (v := ?_) (a' := ?_) (tree_Right.tk 26) rfl rfl (any_of HT_.out (by kernel_rfl)) (fun _ _ _ h => h) (Or.inl ⟨by rfl, ?_⟩) ?_ ?_;rotate_left;(intro w';go_simp;with_reducible rfl);rotate_left;(simp only [Act.put, List.setIfInBounds_toArray, List.set_cons_zero, List.set_cons_succ, i64_w, i32_w];rfl))|(refine pure_ (i := 25) (N := some 50) (v := undef) (a' := ?_) (tree_Right.tk 26) rfl rfl (any_of HT_.out (by kernel_rfl)) (fun _ _ _ h => h) (Or.inr ⟨by rfl, rfl⟩) ?_ ?_;rotate_left;(simp only [Act.put, List.setIfInBounds_toArray, List.set_cons_zero, List.set_cons_succ, i64_w, i32_w];rfl)))
          (first|(refine take_ (i := 26) (N := some 51) (v := ?_) (a' := ?_) (tree_Right.tk 27) rfl rfl (take_ofW HT_.out HW_.out (by kernel_rfl)) (fun _ _ _ h => h) (Or.inl ⟨by rfl, ?_⟩) hHeld ?_ ?_;rotate_left;(intro w' hSw;(try dsimp only at hSw);go_simp;with_reducible rfl);rotate_left;(simp only [Act.put, List.setIfInBounds_toArray, List.set_cons_zero, List.set_cons_succ, i64_w, i32_w];rfl))|(refine pure_ (i := 26) (N := some 51) (v := undef) (a' := ?_) (tree_Right.tk 27) rfl rfl (any_of HT_.out (by kernel_rfl)) (fun _ _ _ h => h) (Or.inr ⟨by rfl, rfl⟩) ?_ ?_;rotate_left;(simp only [Act.put, List.setIfInBounds_toArray, List.set_cons_zero, List.set_cons_succ, i64_w, i32_w];rfl)))
          (first | (refine one_ (i := 27) (N := some 52) (tree_Right.tk 28) rfl rfl (one_of HT_.out (by kernel_rfl)) (by decide) (fun K hK => ?_); refine goes_ Try.func71 (by kernel_rfl) rfl #[.slice (some ad1) l0.length c0, .string ((rd_T31 l0 x16_1).f1)] (by rfl) rfl rfl (by (try simp only [List.map_toArray, List.map_cons, List.map_nil]); first | done | rfl | (simp only [List.length_drop, List.length_take]; rfl)) ?_; refine (tree_Find.calls _ _ l0 _ _ _ (Kd.C_below (Kd.C_below HR0.out HB.out) HBc.out) HC0.out A22.out).mono ?_; rintro e wx27 ⟨rfl, hb⟩; refine ⟨_, rfl, ?_⟩; have HBn := Aside0.mk (below_step HBc.out hb); clear HBc; have HBc := HBn; clear HBn; refine hK.out _ _ (by first | exact ⟨pw_cell_below hb hHeld.1, pw_cell_below hb hHeld.2.1, pw_cell_below hb hHeld.2.2.1, pw_cell_below hb hHeld.2.2.2.1, pw_cell_below hb hHeld.2.2.2.2.1, pw_cell_below hb hHeld.2.2.2.2.2.1, pw_cell_below hb hHeld.2.2.2.2.2.2.1, pw_cell_below hb hHeld.2.2.2.2.2.2.2.1, pw_cell_below hb hHeld.2.2.2.2.2.2.2.2.1, pw_cell_below hb hHeld.2.2.2.2.2.2.2.2.2.1, pw_cell_below hb hHeld.2.2.2.2.2.2.2.2.2.2.1, pw_cell_below hb hHeld.2.2.2.2.2.2.2.2.2.2.2.1, pw_cell_below hb hHeld.2.2.2.2.2.2.2.2.2.2.2.2⟩ | exact ⟨pw_cell_below hb hHeld.1, pw_cell_below hb hHeld.2.1, pw_cell_below hb hHeld.2.2.1, pw_cell_below hb hHeld.2.2.2.1, pw_cell_below hb hHeld.2.2.2.2.1, pw_cell_below hb hHeld.2.2.2.2.2.1, pw_cell_below hb hHeld.2.2.2.2.2.2.1, pw_cell_below hb hHeld.2.2.2.2.2.2.2.1, pw_cell_below hb hHeld.2.2.2.2.2.2.2.2.1, pw_cell_below hb hHeld.2.2.2.2.2.2.2.2.2.1, pw_cell_below hb hHeld.2.2.2.2.2.2.2.2.2.2.1, pw_cell_below hb hHeld.2.2.2.2.2.2.2.2.2.2.2⟩) (fun hHeld => ?_); clear hK K hb; refine norm_ (a' := ?_) ?_ ?_; rotate_left; (show Act.put _ (some 52) _ = _; simp only [Act.put, List.setIfInBounds_toArray, List.set_cons_zero, List.set_cons_succ, i64_w, i32_w]; rfl)) | (refine pure_ (i := 27) (N := some 52) (v := undef) (a' := ?_) (tree_Right.tk 28) rfl rfl (any_of HT_.out (by kernel_rfl)) (fun _ _ _ h => h) (Or.inr ⟨by rfl, rfl⟩) ?_ ?_; rotate_left; (simp only [Act.put, List.setIfInBounds_toArray, List.set_cons_zero, List.set_cons_succ, i64_w, i32_w]; rfl)))
          (first|(refine pure_ (i := 28) (N := some 53) (v := ?_) (a' := ?_) (tree_Right.tk 29) rfl rfl (any_of HT_.out (by kernel_rfl)) (fun _ _ _ h => h) (Or.inl ⟨by rfl, ?_⟩) ?_ ?_;rotate_left;(intro w';go_simp;with_reducible rfl);rotate_left;(simp only [Act.put, List.setIfInBounds_toArray, List.set_cons_zero, List.set_cons_succ, i64_w, i32_w];rfl))|(refine pure_ (i := 28) (N := some 53) (v := undef) (a' := ?_) (tree_Right.tk 29) rfl rfl (any_of HT_.out (by kernel_rfl)) (fun _ _ _ h => h) (Or.inr ⟨by rfl, rfl⟩) ?_ ?_;rotate_left;(simp only [Act.put, List.setIfInBounds_toArray, List.set_cons_zero, List.set_cons_succ, i64_w, i32_w];rfl)))
          (first|(refine pure_ (i := 29) (N := some 54) (v := ?_) (a' := ?_) (tree_Right.tk 30) rfl rfl (any_of HT_.out (by kernel_rfl)) (fun _ _ _ h => h) (Or.inl ⟨by rfl, ?_⟩) ?_ ?_;rotate_left;(intro w';go_simp;with_reducible rfl);rotate_left;(simp only [Act.put, List.setIfInBounds_toArray, List.set_cons_zero, List.set_cons_succ, i64_w, i32_w];rfl))|(refine pure_ (i := 29) (N := some 54) (v := undef) (a' := ?_) (tree_Right.tk 30) rfl rfl (any_of HT_.out (by kernel_rfl)) (fun _ _ _ h => h) (Or.inr ⟨by rfl, rfl⟩) ?_ ?_;rotate_left;(simp only [Act.put, List.setIfInBounds_toArray, List.set_cons_zero, List.set_cons_succ, i64_w, i32_w];rfl)))
          (refine pure_ (i := 30) (N := some 55) (v := ?_) (a' := ?_) (tree_Right.tk 31) rfl rfl (any_of HT_.out (by kernel_rfl)) (fun _ _ _ h => h) (Or.inl ⟨by rfl, ?_⟩) ?_ ?_;rotate_left;(intro w';go_simp;with_reducible rfl);rotate_left;(simp only [Act.put, List.setIfInBounds_toArray, List.set_cons_zero, List.set_cons_succ, i64_w, i32_w];rfl))
          (refine pure_ (i := 31) (N := some 56) (v := ?_) (a' := ?_) (tree_Right.tk 32) rfl rfl (any_of HT_.out (by kernel_rfl)) (fun _ _ _ h => h) (Or.inl ⟨by rfl, ?_⟩) ?_ ?_;rotate_left;(intro w';go_simp;with_reducible rfl);rotate_left;(simp only [Act.put, List.setIfInBounds_toArray, List.set_cons_zero, List.set_cons_succ, i64_w, i32_w];rfl))
          (first|(refine pure_ (i := 32) (N := some 57) (v := ?_) (a' := ?_) (tree_Right.tk 33) rfl rfl (any_of HT_.out (by kernel_rfl)) (fun _ _ _ h => h) (Or.inl ⟨by rfl, ?_⟩) ?_ ?_;rotate_left;(intro w';go_simp;with_reducible rfl);rotate_left;(simp only [Act.put, List.setIfInBounds_toArray, List.set_cons_zero, List.set_cons_succ, i64_w, i32_w];rfl))|(refine pure_ (i := 32) (N := some 57) (v := undef) (a' := ?_) (tree_Right.tk 33) rfl rfl (any_of HT_.out (by kernel_rfl)) (fun _ _ _ h => h) (Or.inr ⟨by rfl, rfl⟩) ?_ ?_;rotate_left;(simp only [Act.put, List.setIfInBounds_toArray, List.set_cons_zero, List.set_cons_succ, i64_w, i32_w];rfl)))
          (first|(refine pure_ (i := 33) (N := some 58) (v := ?_) (a' := ?_) (tree_Right.tk 34) rfl rfl (any_of HT_.out (by kernel_rfl)) (fun _ _ _ h => h) (Or.inl ⟨by rfl, ?_⟩) ?_ ?_;rotate_left;(intro w';go_simp;with_reducible rfl);rotate_left;(simp only [Act.put, List.setIfInBounds_toArray, List.set_cons_zero, List.set_cons_succ, i64_w, i32_w];rfl))|(refine pure_ (i := 33) (N := some 58) (v := undef) (a' := ?_) (tree_Right.tk 34) rfl rfl (any_of HT_.out (by kernel_rfl)) (fun _ _ _ h => h) (Or.inr ⟨by rfl, rfl⟩) ?_ ?_;rotate_left;(simp only [Act.put, List.setIfInBounds_toArray, List.set_cons_zero, List.set_cons_succ, i64_w, i32_w];rfl)))
          (first|(refine pure_ (i := 34) (N := some 59) (v := ?_) (a' := ?_) (tree_Right.tk 35) rfl rfl (any_of HT_.out (by kernel_rfl)) (fun _ _ _ h => h) (Or.inl ⟨by rfl, ?_⟩) ?_ ?_;rotate_left;(intro w';go_simp;with_reducible rfl);rotate_left;(simp only [Act.put, List.setIfInBounds_toArray, List.set_cons_zero, List.set_cons_succ, i64_w, i32_w];rfl))|(refine pure_ (i := 34) (N := some 59) (v := undef) (a' := ?_) (tree_Right.tk 35) rfl rfl (any_of HT_.out (by kernel_rfl)) (fun _ _ _ h => h) (Or.inr ⟨by rfl, rfl⟩) ?_ ?_;rotate_left;(simp only [Act.put, List.setIfInBounds_toArray, List.set_cons_zero, List.set_cons_succ, i64_w, i32_w];rfl)))
          (first|(refine pure_ (i := 35) (N := some 60) (v := ?_) (a' := ?_) (tree_Right.tk 36) rfl rfl (any_of HT_.out (by kernel_rfl)) (fun _ _ _ h => h) (Or.inl ⟨by rfl, ?_⟩) ?_ ?_;rotate_left;(intro w';go_simp;with_reducible rfl);rotate_left;(simp only [Act.put, List.setIfInBounds_toArray, List.set_cons_zero, List.set_cons_succ, i64_w, i32_w];rfl))|(refine pure_ (i := 35) (N := some 60) (v := undef) (a' := ?_) (tree_Right.tk 36) rfl rfl (any_of HT_.out (by kernel_rfl)) (fun _ _ _ h => h) (Or.inr ⟨by rfl, rfl⟩) ?_ ?_;rotate_left;(simp only [Act.put, List.setIfInBounds_toArray, List.set_cons_zero, List.set_cons_succ, i64_w, i32_w];rfl)))
          (first|(refine pure_ (i := 36) (N := some 61) (v := ?_) (a' := ?_) (tree_Right.tk 37) rfl rfl (any_of HT_.out (by kernel_rfl)) (fun _ _ _ h => h) (Or.inl ⟨by rfl, ?_⟩) ?_ ?_;rotate_left;(intro w';go_simp;with_reducible rfl);rotate_left;(simp only [Act.put, List.setIfInBounds_toArray, List.set_cons_zero, List.set_cons_succ, i64_w, i32_w];rfl))|(refine pure_ (i := 36) (N := some 61) (v := undef) (a' := ?_) (tree_Right.tk 37) rfl rfl (any_of HT_.out (by kernel_rfl)) (fun _ _ _ h => h) (Or.inr ⟨by rfl, rfl⟩) ?_ ?_;rotate_left;(simp only [Act.put, List.setIfInBounds_toArray, List.set_cons_zero, List.set_cons_succ, i64_w, i32_w];rfl)))
          (refine pure_ (i := 37) (N := some 62) (v := ?_) (a' := ?_) (tree_Right.tk 38) rfl rfl (any_of HT_.out (by kernel_rfl)) (fun _ _ _ h => h) (Or.inl ⟨by rfl, ?_⟩) ?_ ?_;rotate_left;(intro w';go_simp;with_reducible rfl);rotate_left;(simp only [Act.put, List.setIfInBounds_toArray, List.set_cons_zero, List.set_cons_succ, i64_w, i32_w];rfl))
          refine done_ (done_of HT_.out (by kernel_rfl)) ?_
          try go_wp2
          go_meet
          case rel => first | exact ⟨_, (true), (by first | rfl | (simp; done) | (simp [*]; done)), H', ⟨by have := HK1.out; first | omega | exact Nat.le_refl _⟩, ⟨blk_below BK2.out HBc.out⟩, ⟨below_step HB.out HBc.out⟩⟩ | exact ⟨_, ((decide ((t3.length : Int) > (l0.length : Int)))), (by first | rfl | (simp; done) | (simp [*]; done)), H', ⟨by have := HK1.out; first | omega | exact Nat.le_refl _⟩, ⟨blk_below BK2.out HBc.out⟩, ⟨below_step HB.out HBc.out⟩⟩)
       case rest =>
        clear HC7
        try clear c1
        try clear p2
        try clear c3
        try clear c7
        try clear c12
        try clear c38
        try clear c38b0
        obtain ⟨kq, x62_6, rfl, HA, HJ6, BK2, HB⟩ := hcut
        cases kq with
        | zero => exact absurd HA.out (by simp [tree_Right.j1])
        | succ kj6 =>
         have H := HA.out
         clear HA
         simp only [tree_Right.j1] at H
         by_cases c48 : x62_6 = true
         ·subst c48
          have H1 : (some false) = some r := by rw [if_pos rfl] at H; exact H
          clear H
          have H := H1
          clear H1
          obtain rfl := Option.some.inj H
          go_wp2
          go_ret
          exact ⟨by first|rfl|(simp [errW_none, errW_some] <;> rfl)|(simp [*, errW_none, errW_some] <;> rfl), by repeat (first|(with_reducible first|exact HB.out|apply below_alloc|apply pw_below_drewN|apply below_drew1|refine below_set ?_ GE2.out)|exact HB.out)⟩
         ·replace c48 := Bool.eq_false_iff.mpr c48
          subst c48
          have H1 : ((vec_May.f ((rd_T31 l0 x16_1).f4.f0) ((rd_T31 l0 x16_1).f4.f1) ((rd_T31 l0 x16_1).f4.f2)).bind fun t10 => (if t10 = true then (tree_Right.l0 kj6 l0 l0 (l0.length : Int) (wrap64 (x16_1 + 1))) else (some false))) = some r := by rw [if_neg (show ¬ (false = true) by decide)] at H; exact H
          clear H
          have H := H1
          clear H1
          replace H := Option.bind_eq_some_iff.mp H
          obtain ⟨t10, A490, H⟩ := H
          replace H : (if t10 = true then (tree_Right.l0 kj6 l0 l0 (l0.length : Int) (wrap64 (x16_1 + 1))) else (some false)) = some r := H
          have A49 := Aside0.mk A490
          clear A490
          by_cases c50 : t10 = true
          ·subst c50
           have H1 : (tree_Right.l0 kj6 l0 l0 (l0.length : Int) (wrap64 (x16_1 + 1))) = some r := by rw [if_pos rfl] at H; exact H
           clear H
           have H := H1
           clear H1
           have H' := Aside0.mk H
           clear H
           have hcz51_0 : wc.cell? ⟨gb2, 0, none⟩ = some (.string ((rd_T31 l0 x16_1).f0)) := (blk_cell BK2.out 0).trans rfl
           have hcz51_1 : wc.cell? ⟨gb2, 1, none⟩ = some (.string ((rd_T31 l0 x16_1).f1)) := (blk_cell BK2.out 1).trans rfl
           have hcz51_2 : wc.cell? ⟨gb2, 2, none⟩ = some (.int .i64 ((rd_T31 l0 x16_1).f2.f0)) := (blk_cell BK2.out 2).trans rfl
           have hcz51_3 : wc.cell? ⟨gb2, 3, none⟩ = some (.int .i64 ((rd_T31 l0 x16_1).f2.f1)) := (blk_cell BK2.out 3).trans rfl
           have hcz51_4 : wc.cell? ⟨gb2, 4, none⟩ = some (.int .i64 ((rd_T31 l0 x16_1).f2.f2)) := (blk_cell BK2.out 4).trans rfl
           have hcz51_5 : wc.cell? ⟨gb2, 5, none⟩ = some (.int .i64 ((rd_T31 l0 x16_1).f3.f0)) := (blk_cell BK2.out 5).trans rfl
           have hcz51_6 : wc.cell? ⟨gb2, 6, none⟩ = some (.int .i64 ((rd_T31 l0 x16_1).f3.f1)) := (blk_cell BK2.out 6).trans rfl
           have hcz51_7 : wc.cell? ⟨gb2, 7, none⟩ = some (.int .i64 ((rd_T31 l0 x16_1).f3.f2)) := (blk_cell BK2.out 7).trans rfl
           have hcz51_8 : wc.cell? ⟨gb2, 8, none⟩ = some (.int .i64 ((rd_T31 l0 x16_1).f4.f0)) := (blk_cell BK2.out 8).trans rfl
           have hcz51_9 : wc.cell? ⟨gb2, 9, none⟩ = some (.int .i64 ((rd_T31 l0 x16_1).f4.f1)) := (blk_cell BK2.out 9).trans rfl
           have hcz51_10 : wc.cell? ⟨gb2, 10, none⟩ = some (.int .i64 ((rd_T31 l0 x16_1).f4.f2)) := (blk_cell BK2.out 10).trans rfl
           have hcz51_11 : wc.cell? ⟨gb2, 11, none⟩ = some (.int .i64 ((rd_T31 l0 x16_1).f5)) := (blk_cell BK2.out 11).trans rfl
           have hfz51_0 := blk_frozen BK2.out 0
           have hfz51_1 := blk_frozen BK2.out 1
           have hfz51_2 := blk_frozen BK2.out 2
           have hfz51_3 := blk_frozen BK2.out 3
           have hfz51_4 := blk_frozen BK2.out 4
           have hfz51_5 := blk_frozen BK2.out 5
           have hfz51_6 := blk_frozen BK2.out 6
           have hfz51_7 := blk_frozen BK2.out 7
           have hfz51_8 := blk_frozen BK2.out 8
           have hfz51_9 := blk_frozen BK2.out 9
           have hfz51_10 := blk_frozen BK2.out 10
           have hfz51_11 := blk_frozen BK2.out 11
           go_wp2_with (first|((with_reducible refine gate_callee (f := 115) rfl ?_);refine goesL_ (some 65) rfl rfl Try.func115 (by kernel_rfl) rfl #[.agg #[.int .i64 ((rd_T31 l0 x16_1).f4.f0), .int .i64 ((rd_T31 l0 x16_1).f4.f1), .int .i64 ((rd_T31 l0 x16_1).f4.f2)]] rfl (by (try simp only [List.map_toArray, List.map_cons, List.map_nil]);first|done|rfl|(simp only [List.length_drop, List.length_take];rfl)) ?_;(with_reducible refine (vec_May.calls ((rd_T31 l0 x16_1).f4.f0) ((rd_T31 l0 x16_1).f4.f1) ((rd_T31 l0 x16_1).f4.f2) true _ A49.out).mono ?_);rintro e w52 ⟨rfl, hb⟩;refine ⟨_, rfl, ?_⟩;have n0_ := Aside0.mk (blk_below (g := gb2) (o := .cells #[.string ((rd_T31 l0 x16_1).f0), .string ((rd_T31 l0 x16_1).f1), .int .i64 ((rd_T31 l0 x16_1).f2.f0), .int .i64 ((rd_T31 l0 x16_1).f2.f1), .int .i64 ((rd_T31 l0 x16_1).f2.f2), .int .i64 ((rd_T31 l0 x16_1).f3.f0), .int .i64 ((rd_T31 l0 x16_1).f3.f1), .int .i64 ((rd_T31 l0 x16_1).f3.f2), .int .i64 ((rd_T31 l0 x16_1).f4.f0), .int .i64 ((rd_T31 l0 x16_1).f4.f1), .int .i64 ((rd_T31 l0 x16_1).f4.f2), .int .i64 ((rd_T31 l0 x16_1).f5)] 31 (0, 0)) (by (with_reducible repeat (first|refine blk_drewN ?_ _|refine blk_drew ?_|refine blk_alloc ?_ _));exact BK2.out) hb);have n1_ := Aside0.mk (below_step (by repeat (first|(with_reducible first|exact HB.out|apply below_alloc|apply pw_below_drewN|apply below_drew1|refine below_set ?_ GE2.out)|exact HB.out)) hb);clear BK2;clear HB;have BK2 := n0_;have HB := n1_;clear n0_ n1_;(try clear hb);(try clear hb2);(try clear hk);(try clear hi)))
           go_roundg kj6
           case measure => have := HK1.out; have := HJ6.out; omega
           case rel => exact ⟨(wrap64 (x16_1 + 1)), (by first|rfl|(simp;done)|(simp [*];done)), H', ⟨by have := HK1.out;have := HJ6.out;omega⟩, ⟨by repeat (first|(with_reducible first|exact HB.out|apply below_alloc|apply pw_below_drewN|apply below_drew1|refine below_set ?_ GE2.out)|exact HB.out)⟩⟩
          ·replace c50 := Bool.eq_false_iff.mpr c50
           subst c50
           have H1 : (some false) = some r := by rw [if_neg (show ¬ (false = true) by decide)] at H; exact H
           clear H
           have H := H1
           clear H1
           obtain rfl := Option.some.inj H
           have hcz53_0 : wc.cell? ⟨gb2, 0, none⟩ = some (.string ((rd_T31 l0 x16_1).f0)) := (blk_cell BK2.out 0).trans rfl
           have hcz53_1 : wc.cell? ⟨gb2, 1, none⟩ = some (.string ((rd_T31 l0 x16_1).f1)) := (blk_cell BK2.out 1).trans rfl
           have hcz53_2 : wc.cell? ⟨gb2, 2, none⟩ = some (.int .i64 ((rd_T31 l0 x16_1).f2.f0)) := (blk_cell BK2.out 2).trans rfl
           have hcz53_3 : wc.cell? ⟨gb2, 3, none⟩ = some (.int .i64 ((rd_T31 l0 x16_1).f2.f1)) := (blk_cell BK2.out 3).trans rfl
           have hcz53_4 : wc.cell? ⟨gb2, 4, none⟩ = some (.int .i64 ((rd_T31 l0 x16_1).f2.f2)) := (blk_cell BK2.out 4).trans rfl
           have hcz53_5 : wc.cell? ⟨gb2, 5, none⟩ = some (.int .i64 ((rd_T31 l0 x16_1).f3.f0)) := (blk_cell BK2.out 5).trans rfl
           have hcz53_6 : wc.cell? ⟨gb2, 6, none⟩ = some (.int .i64 ((rd_T31 l0 x16_1).f3.f1)) := (blk_cell BK2.out 6).trans rfl
           have hcz53_7 : wc.cell? ⟨gb2, 7, none⟩ = some (.int .i64 ((rd_T31 l0 x16_1).f3.f2)) := (blk_cell BK2.out 7).trans rfl
           have hcz53_8 : wc.cell? ⟨gb2, 8, none⟩ = some (.int .i64 ((rd_T31 l0 x16_1).f4.f0)) := (blk_cell BK2.out 8).trans rfl
           have hcz53_9 : wc.cell? ⟨gb2, 9, none⟩ = some (.int .i64 ((rd_T31 l0 x16_1).f4.f1)) := (blk_cell BK2.out 9).trans rfl
           have hcz53_10 : wc.cell? ⟨gb2, 10, none⟩ = some (.int .i64 ((rd_T31 l0 x16_1).f4.f2)) := (blk_cell BK2.out 10).trans rfl
           have hcz53_11 : wc.cell? ⟨gb2, 11, none⟩ = some (.int .i64 ((rd_T31 l0 x16_1).f5)) := (blk_cell BK2.out 11).trans rfl
           have hfz53_0 := blk_frozen BK2.out 0
           have hfz53_1 := blk_frozen BK2.out 1
           have hfz53_2 := blk_frozen BK2.out 2
           have hfz53_3 := blk_frozen BK2.out 3
           have hfz53_4 := blk_frozen BK2.out 4
           have hfz53_5 := blk_frozen BK2.out 5
           have hfz53_6 := blk_frozen BK2.out 6
           have hfz53_7 := blk_frozen BK2.out 7
           have hfz53_8 := blk_frozen BK2.out 8
           have hfz53_9 := blk_frozen BK2.out 9
           have hfz53_10 := blk_frozen BK2.out 10
           have hfz53_11 := blk_frozen BK2.out 11
           go_wp2_with (first|((with_reducible refine gate_callee (f := 115) rfl ?_);refine goesL_ (some 65) rfl rfl Try.func115 (by kernel_rfl) rfl #[.agg #[.int .i64 ((rd_T31 l0 x16_1).f4.f0), .int .i64 ((rd_T31 l0 x16_1).f4.f1), .int .i64 ((rd_T31 l0 x16_1).f4.f2)]] rfl (by (try simp only [List.map_toArray, List.map_cons, List.map_nil]);first|done|rfl|(simp only [List.length_drop, List.length_take];rfl)) ?_;(with_reducible refine (vec_May.calls ((rd_T31 l0 x16_1).f4.f0) ((rd_T31 l0 x16_1).f4.f1) ((rd_T31 l0 x16_1).f4.f2) false _ A49.out).mono ?_);rintro e w54 ⟨rfl, hb⟩;refine ⟨_, rfl, ?_⟩;have n0_ := Aside0.mk (blk_below (g := gb2) (o := .cells #[.string ((rd_T31 l0 x16_1).f0), .string ((rd_T31 l0 x16_1).f1), .int .i64 ((rd_T31 l0 x16_1).f2.f0), .int .i64 ((rd_T31 l0 x16_1).f2.f1), .int .i64 ((rd_T31 l0 x16_1).f2.f2), .int .i64 ((rd_T31 l0 x16_1).f3.f0), .int .i64 ((rd_T31 l0 x16_1).f3.f1), .int .i64 ((rd_T31 l0 x16_1).f3.f2), .int .i64 ((rd_T31 l0 x16_1).f4.f0), .int .i64 ((rd_T31 l0 x16_1).f4.f1), .int .i64 ((rd_T31 l0 x16_1).f4.f2), .int .i64 ((rd_T31 l0 x16_1).f5)] 31 (0, 0)) (by (with_reducible repeat (first|refine blk_drewN ?_ _|refine blk_drew ?_|refine blk_alloc ?_ _));exact BK2.out) hb);have n1_ := Aside0.mk (below_step (by repeat (first|(with_reducible first|exact HB.out|apply below_alloc|apply pw_below_drewN|apply below_drew1|refine below_set ?_ GE2.out)|exact HB.out)) hb);clear BK2;clear HB;have BK2 := n0_;have HB := n1_;clear n0_ n1_;(try clear hb);(try clear hb2);(try clear hk);(try clear hi)))
           go_ret
           exact ⟨by first|rfl|(simp [errW_none, errW_some] <;> rfl)|(simp [*, errW_none, errW_some] <;> rfl), by repeat (first|(with_reducible first|exact HB.out|apply below_alloc|apply pw_below_drewN|apply below_drew1|refine below_set ?_ GE2.out)|exact HB.out)⟩
      ·rw [if_neg c5] at H
       exact absurd H (by simp)
     ·rw [if_neg c4] at H
      exact absurd H (by simp)
    ·rw [if_neg c3] at H
     have c3b0 : decide (x16_1 < (l0.length : Int)) = false := decide_eq_false c3
     clear c3
     have H' := Aside0.mk H
     clear H
     go_wp2
     go_loopg [70] k1 (fun kq v70 w' => ∃ (x70_2 : Int), v70 = .int .i64 x70_2 ∧ Aside0 (tree_Right.l1 kq l0 l0 (l0.length : Int) x70_2 = some r) ∧ Aside0 (kq ≤ k1) ∧ Aside0 (Below w.heap.size w w'))
     case atStart => exact ⟨(0), (by first|rfl|(simp;done)|(simp [*];done)), H', ⟨Nat.le_refl _⟩, ⟨by repeat (first|(with_reducible first|exact HB.out|apply below_alloc|apply pw_below_drewN|apply below_drew1)|exact HB.out)⟩⟩
     case round =>
      clear H'
      try clear c1
      try clear p2
      try clear c3
      try clear c3b0
      try clear c4
      try clear c5
      try clear p6
      try clear c7
      try clear c11
      try clear c12
      try clear c38
      try clear c38b0
      try clear c48
      try clear c50
      try clear hcz51_0
      try clear hcz51_1
      try clear hcz51_10
      try clear hcz51_11
      try clear hcz51_2
      try clear hcz51_3
      try clear hcz51_4
      try clear hcz51_5
      try clear hcz51_6
      try clear hcz51_7
      try clear hcz51_8
      try clear hcz51_9
      try clear hcz53_0
      try clear hcz53_1
      try clear hcz53_10
      try clear hcz53_11
      try clear hcz53_2
      try clear hcz53_3
      try clear hcz53_4
      try clear hcz53_5
      try clear hcz53_6
      try clear hcz53_7
      try clear hcz53_8
      try clear hcz53_9
      try clear hfz51_0
      try clear hfz51_1
      try clear hfz51_10
      try clear hfz51_11
      try clear hfz51_2
      try clear hfz51_3
      try clear hfz51_4
      try clear hfz51_5
      try clear hfz51_6
      try clear hfz51_7
      try clear hfz51_8
      try clear hfz51_9
      try clear hfz53_0
      try clear hfz53_1
      try clear hfz53_10
      try clear hfz53_11
      try clear hfz53_2
      try clear hfz53_3
      try clear hfz53_4
      try clear hfz53_5
      try clear hfz53_6
      try clear hfz53_7
      try clear hfz53_8
      try clear hfz53_9
      try clear p2
      obtain ⟨x70_2, rfl, HA, HK2, HB⟩ := hrel
      cases gk with
      | zero => exact absurd HA.out (by simp [tree_Right.l1])
      | succ k2 =>
       have H := HA.out
       clear HA
       simp only [tree_Right.l1] at H
       by_cases c55 : x70_2 < (l0.length : Int)
       ·rw [if_pos c55] at H
        have c55b0 : decide (x70_2 < (l0.length : Int)) = true := decide_eq_true c55
        clear c55
        by_cases c56 : 0 ≤ x70_2
        ·rw [if_pos c56] at H
         have c56b0 : decide (0 ≤ x70_2) = true := decide_eq_true c56
         clear c56
         by_cases c57 : x70_2 < (l0.length : Int)
         ·rw [if_pos c57] at H
          have c57b0 : decide (x70_2 < (l0.length : Int)) = true := decide_eq_true c57
          clear c57
          have H' := Aside0.mk H
          clear H
          have p11 : 0 ≤ (x70_2 : Int) := of_decide_eq_true (by first|(with_reducible assumption)|assumption)
          have q11 : x70_2 < (l0.length : Int) := of_decide_eq_true (by first|(with_reducible assumption)|assumption)
          obtain ⟨ad11, e11, hx11_0, hx11_1, hx11_2, hx11_3, hx11_4, hx11_5, hx11_6, hx11_7, hx11_8, hx11_9, hx11_10, hx11_11⟩ := at_T31 HR0.out x70_2 p11 q11
          cases e11
          replace hx11_0 := (HB.out.cell (World.block_lt_of_cell? w _ hx11_0)).trans hx11_0
          replace hx11_1 := (HB.out.cell (World.block_lt_of_cell? w _ hx11_1)).trans hx11_1
          replace hx11_2 := (HB.out.cell (World.block_lt_of_cell? w _ hx11_2)).trans hx11_2
          replace hx11_3 := (HB.out.cell (World.block_lt_of_cell? w _ hx11_3)).trans hx11_3
          replace hx11_4 := (HB.out.cell (World.block_lt_of_cell? w _ hx11_4)).trans hx11_4
          replace hx11_5 := (HB.out.cell (World.block_lt_of_cell? w _ hx11_5)).trans hx11_5
          replace hx11_6 := (HB.out.cell (World.block_lt_of_cell? w _ hx11_6)).trans hx11_6
          replace hx11_7 := (HB.out.cell (World.block_lt_of_cell? w _ hx11_7)).trans hx11_7
          replace hx11_8 := (HB.out.cell (World.block_lt_of_cell? w _ hx11_8)).trans hx11_8
          replace hx11_9 := (HB.out.cell (World.block_lt_of_cell? w _ hx11_9)).trans hx11_9
          replace hx11_10 := (HB.out.cell (World.block_lt_of_cell? w _ hx11_10)).trans hx11_10
          replace hx11_11 := (HB.out.cell (World.block_lt_of_cell? w _ hx11_11)).trans hx11_11
          replace p11 := eq_true p11
          replace q11 := eq_true q11
          go_wp2_with (first|((with_reducible refine gate_dst (N := 7) rfl ?_);(try (refine gate_guard (by rfl) ?_;dsimp only));refine box_event ?hg (N := 7) ?hd (cs := #[.string (⟨#[]⟩ : ByteArray), .string (⟨#[]⟩ : ByteArray), .int .i64 0, .int .i64 0, .int .i64 0, .int .i64 0, .int .i64 0, .int .i64 0, .int .i64 0, .int .i64 0, .int .i64 0, .int .i64 0]) (t := 31) ?hr ?_;(case hd => rfl);(case hg => rfl);(case hr => first|(go_simp;done)|(go_simp;rfl));intro gb12 hg w58 hbox hb;have n0_ := Aside0.mk (below_step (by repeat (first|(with_reducible first|exact HB.out|apply below_alloc|apply pw_below_drewN|apply below_drew1)|exact HB.out)) hb);have n1_ := Aside0.mk (hbox);have n2_ := Aside0.mk ((by rw [hg];exact (below_size (by repeat (first|(with_reducible first|exact HB.out|apply below_alloc|apply pw_below_drewN|apply below_drew1)|exact HB.out))) : w.heap.size ≤ gb12));have n3_ := Aside0.mk ((by rw [hg];exact (below_size (by repeat (first|(with_reducible first|exact HB.out|apply below_alloc|apply pw_below_drewN|apply below_drew1)|exact HB.out))) : w.heap.size ≤ gb12));clear HB;have HB := n0_;have BK12 := n1_;have GW12 := n2_;have GE12 := n3_;clear n0_ n1_ n2_ n3_;clear hb hbox hg;have hcz59_0 : w58.cell? ⟨gb12, 0, none⟩ = some (.string (⟨#[]⟩ : ByteArray)) := (blk_cell BK12.out 0).trans rfl;have hcz59_1 : w58.cell? ⟨gb12, 1, none⟩ = some (.string (⟨#[]⟩ : ByteArray)) := (blk_cell BK12.out 1).trans rfl;have hcz59_2 : w58.cell? ⟨gb12, 2, none⟩ = some (.int .i64 0) := (blk_cell BK12.out 2).trans rfl;have hcz59_3 : w58.cell? ⟨gb12, 3, none⟩ = some (.int .i64 0) := (blk_cell BK12.out 3).trans rfl;have hcz59_4 : w58.cell? ⟨gb12, 4, none⟩ = some (.int .i64 0) := (blk_cell BK12.out 4).trans rfl;have hcz59_5 : w58.cell? ⟨gb12, 5, none⟩ = some (.int .i64 0) := (blk_cell BK12.out 5).trans rfl;have hcz59_6 : w58.cell? ⟨gb12, 6, none⟩ = some (.int .i64 0) := (blk_cell BK12.out 6).trans rfl;have hcz59_7 : w58.cell? ⟨gb12, 7, none⟩ = some (.int .i64 0) := (blk_cell BK12.out 7).trans rfl;have hcz59_8 : w58.cell? ⟨gb12, 8, none⟩ = some (.int .i64 0) := (blk_cell BK12.out 8).trans rfl;have hcz59_9 : w58.cell? ⟨gb12, 9, none⟩ = some (.int .i64 0) := (blk_cell BK12.out 9).trans rfl;have hcz59_10 : w58.cell? ⟨gb12, 10, none⟩ = some (.int .i64 0) := (blk_cell BK12.out 10).trans rfl;have hcz59_11 : w58.cell? ⟨gb12, 11, none⟩ = some (.int .i64 0) := (blk_cell BK12.out 11).trans rfl;have hfz59_0 := blk_frozen BK12.out 0;have hfz59_1 := blk_frozen BK12.out 1;have hfz59_2 := blk_frozen BK12.out 2;have hfz59_3 := blk_frozen BK12.out 3;have hfz59_4 := blk_frozen BK12.out 4;have hfz59_5 := blk_frozen BK12.out 5;have hfz59_6 := blk_frozen BK12.out 6;have hfz59_7 := blk_frozen BK12.out 7;have hfz59_8 := blk_frozen BK12.out 8;have hfz59_9 := blk_frozen BK12.out 9;have hfz59_10 := blk_frozen BK12.out 10;have hfz59_11 := blk_frozen BK12.out 11)|((with_reducible refine gate_dst (N := 8) rfl ?_);(try (refine gate_guard (by rfl) ?_;dsimp only));refine box_event ?hg (N := 8) ?hd (cs := #[.string (⟨#[]⟩ : ByteArray), .string (⟨#[]⟩ : ByteArray), .int .i64 0, .int .i64 0, .int .i64 0, .int .i64 0, .int .i64 0, .int .i64 0, .int .i64 0, .int .i64 0, .int .i64 0, .int .i64 0, .slice none 0 0]) (t := 159) ?hr ?_;(case hd => rfl);(case hg => rfl);(case hr => first|(go_simp;done)|(go_simp;rfl));intro gb13 hg w60 hbox hb;have n0_ := Aside0.mk (blk_below (g := gb12) (o := .cells #[.string ((rd_T31 l0 x70_2).f0), .string ((rd_T31 l0 x70_2).f1), .int .i64 ((rd_T31 l0 x70_2).f2.f0), .int .i64 ((rd_T31 l0 x70_2).f2.f1), .int .i64 ((rd_T31 l0 x70_2).f2.f2), .int .i64 ((rd_T31 l0 x70_2).f3.f0), .int .i64 ((rd_T31 l0 x70_2).f3.f1), .int .i64 ((rd_T31 l0 x70_2).f3.f2), .int .i64 ((rd_T31 l0 x70_2).f4.f0), .int .i64 ((rd_T31 l0 x70_2).f4.f1), .int .i64 ((rd_T31 l0 x70_2).f4.f2), .int .i64 ((rd_T31 l0 x70_2).f5)] 31 (0, 0)) (by (with_reducible repeat (first|refine blk_drewN ?_ _|refine blk_drew ?_|refine blk_alloc ?_ _));refine blk_put (cs := #[.string ((rd_T31 l0 x70_2).f0), .string ((rd_T31 l0 x70_2).f1), .int .i64 ((rd_T31 l0 x70_2).f2.f0), .int .i64 ((rd_T31 l0 x70_2).f2.f1), .int .i64 ((rd_T31 l0 x70_2).f2.f2), .int .i64 ((rd_T31 l0 x70_2).f3.f0), .int .i64 ((rd_T31 l0 x70_2).f3.f1), .int .i64 ((rd_T31 l0 x70_2).f3.f2), .int .i64 ((rd_T31 l0 x70_2).f4.f0), .int .i64 ((rd_T31 l0 x70_2).f4.f1), .int .i64 ((rd_T31 l0 x70_2).f4.f2), .int .i64 0]) ?_ 11 _ rfl;(with_reducible repeat (first|refine blk_drewN ?_ _|refine blk_drew ?_|refine blk_alloc ?_ _));refine blk_put (cs := #[.string ((rd_T31 l0 x70_2).f0), .string ((rd_T31 l0 x70_2).f1), .int .i64 ((rd_T31 l0 x70_2).f2.f0), .int .i64 ((rd_T31 l0 x70_2).f2.f1), .int .i64 ((rd_T31 l0 x70_2).f2.f2), .int .i64 ((rd_T31 l0 x70_2).f3.f0), .int .i64 ((rd_T31 l0 x70_2).f3.f1), .int .i64 ((rd_T31 l0 x70_2).f3.f2), .int .i64 ((rd_T31 l0 x70_2).f4.f0), .int .i64 ((rd_T31 l0 x70_2).f4.f1), .int .i64 0, .int .i64 0]) ?_ 10 _ rfl;(with_reducible repeat (first|refine blk_drewN ?_ _|refine blk_drew ?_|refine blk_alloc ?_ _));refine blk_put (cs := #[.string ((rd_T31 l0 x70_2).f0), .string ((rd_T31 l0 x70_2).f1), .int .i64 ((rd_T31 l0 x70_2).f2.f0), .int .i64 ((rd_T31 l0 x70_2).f2.f1), .int .i64 ((rd_T31 l0 x70_2).f2.f2), .int .i64 ((rd_T31 l0 x70_2).f3.f0), .int .i64 ((rd_T31 l0 x70_2).f3.f1), .int .i64 ((rd_T31 l0 x70_2).f3.f2), .int .i64 ((rd_T31 l0 x70_2).f4.f0), .int .i64 0, .int .i64 0, .int .i64 0]) ?_ 9 _ rfl;(with_reducible repeat (first|refine blk_drewN ?_ _|refine blk_drew ?_|refine blk_alloc ?_ _));refine blk_put (cs := #[.string ((rd_T31 l0 x70_2).f0), .string ((rd_T31 l0 x70_2).f1), .int .i64 ((rd_T31 l0 x70_2).f2.f0), .int .i64 ((rd_T31 l0 x70_2).f2.f1), .int .i64 ((rd_T31 l0 x70_2).f2.f2), .int .i64 ((rd_T31 l0 x70_2).f3.f0), .int .i64 ((rd_T31 l0 x70_2).f3.f1), .int .i64 ((rd_T31 l0 x70_2).f3.f2), .int .i64 0, .int .i64 0, .int .i64 0, .int .i64 0]) ?_ 8 _ rfl;(with_reducible repeat (first|refine blk_drewN ?_ _|refine blk_drew ?_|refine blk_alloc ?_ _));refine blk_put (cs := #[.string ((rd_T31 l0 x70_2).f0), .string ((rd_T31 l0 x70_2).f1), .int .i64 ((rd_T31 l0 x70_2).f2.f0), .int .i64 ((rd_T31 l0 x70_2).f2.f1), .int .i64 ((rd_T31 l0 x70_2).f2.f2), .int .i64 ((rd_T31 l0 x70_2).f3.f0), .int .i64 ((rd_T31 l0 x70_2).f3.f1), .int .i64 0, .int .i64 0, .int .i64 0, .int .i64 0, .int .i64 0]) ?_ 7 _ rfl;(with_reducible repeat (first|refine blk_drewN ?_ _|refine blk_drew ?_|refine blk_alloc ?_ _));refine blk_put (cs := #[.string ((rd_T31 l0 x70_2).f0), .string ((rd_T31 l0 x70_2).f1), .int .i64 ((rd_T31 l0 x70_2).f2.f0), .int .i64 ((rd_T31 l0 x70_2).f2.f1), .int .i64 ((rd_T31 l0 x70_2).f2.f2), .int .i64 ((rd_T31 l0 x70_2).f3.f0), .int .i64 0, .int .i64 0, .int .i64 0, .int .i64 0, .int .i64 0, .int .i64 0]) ?_ 6 _ rfl;(with_reducible repeat (first|refine blk_drewN ?_ _|refine blk_drew ?_|refine blk_alloc ?_ _));refine blk_put (cs := #[.string ((rd_T31 l0 x70_2).f0), .string ((rd_T31 l0 x70_2).f1), .int .i64 ((rd_T31 l0 x70_2).f2.f0), .int .i64 ((rd_T31 l0 x70_2).f2.f1), .int .i64 ((rd_T31 l0 x70_2).f2.f2), .int .i64 0, .int .i64 0, .int .i64 0, .int .i64 0, .int .i64 0, .int .i64 0, .int .i64 0]) ?_ 5 _ rfl;(with_reducible repeat (first|refine blk_drewN ?_ _|refine blk_drew ?_|refine blk_alloc ?_ _));refine blk_put (cs := #[.string ((rd_T31 l0 x70_2).f0), .string ((rd_T31 l0 x70_2).f1), .int .i64 ((rd_T31 l0 x70_2).f2.f0), .int .i64 ((rd_T31 l0 x70_2).f2.f1), .int .i64 0, .int .i64 0, .int .i64 0, .int .i64 0, .int .i64 0, .int .i64 0, .int .i64 0, .int .i64 0]) ?_ 4 _ rfl;(with_reducible repeat (first|refine blk_drewN ?_ _|refine blk_drew ?_|refine blk_alloc ?_ _));refine blk_put (cs := #[.string ((rd_T31 l0 x70_2).f0), .string ((rd_T31 l0 x70_2).f1), .int .i64 ((rd_T31 l0 x70_2).f2.f0), .int .i64 0, .int .i64 0, .int .i64 0, .int .i64 0, .int .i64 0, .int .i64 0, .int .i64 0, .int .i64 0, .int .i64 0]) ?_ 3 _ rfl;(with_reducible repeat (first|refine blk_drewN ?_ _|refine blk_drew ?_|refine blk_alloc ?_ _));refine blk_put (cs := #[.string ((rd_T31 l0 x70_2).f0), .string ((rd_T31 l0 x70_2).f1), .int .i64 0, .int .i64 0, .int .i64 0, .int .i64 0, .int .i64 0, .int .i64 0, .int .i64 0, .int .i64 0, .int .i64 0, .int .i64 0]) ?_ 2 _ rfl;(with_reducible repeat (first|refine blk_drewN ?_ _|refine blk_drew ?_|refine blk_alloc ?_ _));refine blk_put (cs := #[.string ((rd_T31 l0 x70_2).f0), .string (⟨#[]⟩ : ByteArray), .int .i64 0, .int .i64 0, .int .i64 0, .int .i64 0, .int .i64 0, .int .i64 0, .int .i64 0, .int .i64 0, .int .i64 0, .int .i64 0]) ?_ 1 _ rfl;(with_reducible repeat (first|refine blk_drewN ?_ _|refine blk_drew ?_|refine blk_alloc ?_ _));refine blk_put (cs := #[.string (⟨#[]⟩ : ByteArray), .string (⟨#[]⟩ : ByteArray), .int .i64 0, .int .i64 0, .int .i64 0, .int .i64 0, .int .i64 0, .int .i64 0, .int .i64 0, .int .i64 0, .int .i64 0, .int .i64 0]) ?_ 0 _ rfl;(with_reducible repeat (first|refine blk_drewN ?_ _|refine blk_drew ?_|refine blk_alloc ?_ _));exact BK12.out) hb);have n1_ := Aside0.mk (below_step (by repeat (first|(with_reducible first|exact HB.out|apply below_alloc|apply pw_below_drewN|apply below_drew1|refine below_set ?_ GE12.out)|exact HB.out)) hb);have n2_ := Aside0.mk (hbox);have n3_ := Aside0.mk ((by rw [hg];exact (below_size (by repeat (first|(with_reducible first|exact HB.out|apply below_alloc|apply pw_below_drewN|apply below_drew1|refine below_set ?_ GE12.out)|exact HB.out))) : w.heap.size ≤ gb13));have n4_ := Aside0.mk ((by rw [hg];exact (below_size (by repeat (first|(with_reducible first|exact HB.out|apply below_alloc|apply pw_below_drewN|apply below_drew1|refine below_set ?_ GE12.out)|exact HB.out))) : w.heap.size ≤ gb13));have n5_ := Aside0.mk ((by rw [hg];exact Nat.ne_of_lt (blk_lt (g := gb12) (o := .cells #[.string ((rd_T31 l0 x70_2).f0), .string ((rd_T31 l0 x70_2).f1), .int .i64 ((rd_T31 l0 x70_2).f2.f0), .int .i64 ((rd_T31 l0 x70_2).f2.f1), .int .i64 ((rd_T31 l0 x70_2).f2.f2), .int .i64 ((rd_T31 l0 x70_2).f3.f0), .int .i64 ((rd_T31 l0 x70_2).f3.f1), .int .i64 ((rd_T31 l0 x70_2).f3.f2), .int .i64 ((rd_T31 l0 x70_2).f4.f0), .int .i64 ((rd_T31 l0 x70_2).f4.f1), .int .i64 ((rd_T31 l0 x70_2).f4.f2), .int .i64 ((rd_T31 l0 x70_2).f5)] 31 (0, 0)) (by (with_reducible repeat (first|refine blk_drewN ?_ _|refine blk_drew ?_|refine blk_alloc ?_ _));refine blk_put (cs := #[.string ((rd_T31 l0 x70_2).f0), .string ((rd_T31 l0 x70_2).f1), .int .i64 ((rd_T31 l0 x70_2).f2.f0), .int .i64 ((rd_T31 l0 x70_2).f2.f1), .int .i64 ((rd_T31 l0 x70_2).f2.f2), .int .i64 ((rd_T31 l0 x70_2).f3.f0), .int .i64 ((rd_T31 l0 x70_2).f3.f1), .int .i64 ((rd_T31 l0 x70_2).f3.f2), .int .i64 ((rd_T31 l0 x70_2).f4.f0), .int .i64 ((rd_T31 l0 x70_2).f4.f1), .int .i64 ((rd_T31 l0 x70_2).f4.f2), .int .i64 0]) ?_ 11 _ rfl;(with_reducible repeat (first|refine blk_drewN ?_ _|refine blk_drew ?_|refine blk_alloc ?_ _));refine blk_put (cs := #[.string ((rd_T31 l0 x70_2).f0), .string ((rd_T31 l0 x70_2).f1), .int .i64 ((rd_T31 l0 x70_2).f2.f0), .int .i64 ((rd_T31 l0 x70_2).f2.f1), .int .i64 ((rd_T31 l0 x70_2).f2.f2), .int .i64 ((rd_T31 l0 x70_2).f3.f0), .int .i64 ((rd_T31 l0 x70_2).f3.f1), .int .i64 ((rd_T31 l0 x70_2).f3.f2), .int .i64 ((rd_T31 l0 x70_2).f4.f0), .int .i64 ((rd_T31 l0 x70_2).f4.f1), .int .i64 0, .int .i64 0]) ?_ 10 _ rfl;(with_reducible repeat (first|refine blk_drewN ?_ _|refine blk_drew ?_|refine blk_alloc ?_ _));refine blk_put (cs := #[.string ((rd_T31 l0 x70_2).f0), .string ((rd_T31 l0 x70_2).f1), .int .i64 ((rd_T31 l0 x70_2).f2.f0), .int .i64 ((rd_T31 l0 x70_2).f2.f1), .int .i64 ((rd_T31 l0 x70_2).f2.f2), .int .i64 ((rd_T31 l0 x70_2).f3.f0), .int .i64 ((rd_T31 l0 x70_2).f3.f1), .int .i64 ((rd_T31 l0 x70_2).f3.f2), .int .i64 ((rd_T31 l0 x70_2).f4.f0), .int .i64 0, .int .i64 0, .int .i64 0]) ?_ 9 _ rfl;(with_reducible repeat (first|refine blk_drewN ?_ _|refine blk_drew ?_|refine blk_alloc ?_ _));refine blk_put (cs := #[.string ((rd_T31 l0 x70_2).f0), .string ((rd_T31 l0 x70_2).f1), .int .i64 ((rd_T31 l0 x70_2).f2.f0), .int .i64 ((rd_T31 l0 x70_2).f2.f1), .int .i64 ((rd_T31 l0 x70_2).f2.f2), .int .i64 ((rd_T31 l0 x70_2).f3.f0), .int .i64 ((rd_T31 l0 x70_2).f3.f1), .int .i64 ((rd_T31 l0 x70_2).f3.f2), .int .i64 0, .int .i64 0, .int .i64 0, .int .i64 0]) ?_ 8 _ rfl;(with_reducible repeat (first|refine blk_drewN ?_ _|refine blk_drew ?_|refine blk_alloc ?_ _));refine blk_put (cs := #[.string ((rd_T31 l0 x70_2).f0), .string ((rd_T31 l0 x70_2).f1), .int .i64 ((rd_T31 l0 x70_2).f2.f0), .int .i64 ((rd_T31 l0 x70_2).f2.f1), .int .i64 ((rd_T31 l0 x70_2).f2.f2), .int .i64 ((rd_T31 l0 x70_2).f3.f0), .int .i64 ((rd_T31 l0 x70_2).f3.f1), .int .i64 0, .int .i64 0, .int .i64 0, .int .i64 0, .int .i64 0]) ?_ 7 _ rfl;(with_reducible repeat (first|refine blk_drewN ?_ _|refine blk_drew ?_|refine blk_alloc ?_ _));refine blk_put (cs := #[.string ((rd_T31 l0 x70_2).f0), .string ((rd_T31 l0 x70_2).f1), .int .i64 ((rd_T31 l0 x70_2).f2.f0), .int .i64 ((rd_T31 l0 x70_2).f2.f1), .int .i64 ((rd_T31 l0 x70_2).f2.f2), .int .i64 ((rd_T31 l0 x70_2).f3.f0), .int .i64 0, .int .i64 0, .int .i64 0, .int .i64 0, .int .i64 0, .int .i64 0]) ?_ 6 _ rfl;(with_reducible repeat (first|refine blk_drewN ?_ _|refine blk_drew ?_|refine blk_alloc ?_ _));refine blk_put (cs := #[.string ((rd_T31 l0 x70_2).f0), .string ((rd_T31 l0 x70_2).f1), .int .i64 ((rd_T31 l0 x70_2).f2.f0), .int .i64 ((rd_T31 l0 x70_2).f2.f1), .int .i64 ((rd_T31 l0 x70_2).f2.f2), .int .i64 0, .int .i64 0, .int .i64 0, .int .i64 0, .int .i64 0, .int .i64 0, .int .i64 0]) ?_ 5 _ rfl;(with_reducible repeat (first|refine blk_drewN ?_ _|refine blk_drew ?_|refine blk_alloc ?_ _));refine blk_put (cs := #[.string ((rd_T31 l0 x70_2).f0), .string ((rd_T31 l0 x70_2).f1), .int .i64 ((rd_T31 l0 x70_2).f2.f0), .int .i64 ((rd_T31 l0 x70_2).f2.f1), .int .i64 0, .int .i64 0, .int .i64 0, .int .i64 0, .int .i64 0, .int .i64 0, .int .i64 0, .int .i64 0]) ?_ 4 _ rfl;(with_reducible repeat (first|refine blk_drewN ?_ _|refine blk_drew ?_|refine blk_alloc ?_ _));refine blk_put (cs := #[.string ((rd_T31 l0 x70_2).f0), .string ((rd_T31 l0 x70_2).f1), .int .i64 ((rd_T31 l0 x70_2).f2.f0), .int .i64 0, .int .i64 0, .int .i64 0, .int .i64 0, .int .i64 0, .int .i64 0, .int .i64 0, .int .i64 0, .int .i64 0]) ?_ 3 _ rfl;(with_reducible repeat (first|refine blk_drewN ?_ _|refine blk_drew ?_|refine blk_alloc ?_ _));refine blk_put (cs := #[.string ((rd_T31 l0 x70_2).f0), .string ((rd_T31 l0 x70_2).f1), .int .i64 0, .int .i64 0, .int .i64 0, .int .i64 0, .int .i64 0, .int .i64 0, .int .i64 0, .int .i64 0, .int .i64 0, .int .i64 0]) ?_ 2 _ rfl;(with_reducible repeat (first|refine blk_drewN ?_ _|refine blk_drew ?_|refine blk_alloc ?_ _));refine blk_put (cs := #[.string ((rd_T31 l0 x70_2).f0), .string (⟨#[]⟩ : ByteArray), .int .i64 0, .int .i64 0, .int .i64 0, .int .i64 0, .int .i64 0, .int .i64 0, .int .i64 0, .int .i64 0, .int .i64 0, .int .i64 0]) ?_ 1 _ rfl;(with_reducible repeat (first|refine blk_drewN ?_ _|refine blk_drew ?_|refine blk_alloc ?_ _));refine blk_put (cs := #[.string (⟨#[]⟩ : ByteArray), .string (⟨#[]⟩ : ByteArray), .int .i64 0, .int .i64 0, .int .i64 0, .int .i64 0, .int .i64 0, .int .i64 0, .int .i64 0, .int .i64 0, .int .i64 0, .int .i64 0]) ?_ 0 _ rfl;(with_reducible repeat (first|refine blk_drewN ?_ _|refine blk_drew ?_|refine blk_alloc ?_ _));exact BK12.out)) : gb12 ≠ gb13));have n6_ := Aside0.mk ((by rw [hg];exact Nat.ne_of_gt (blk_lt (g := gb12) (o := .cells #[.string ((rd_T31 l0 x70_2).f0), .string ((rd_T31 l0 x70_2).f1), .int .i64 ((rd_T31 l0 x70_2).f2.f0), .int .i64 ((rd_T31 l0 x70_2).f2.f1), .int .i64 ((rd_T31 l0 x70_2).f2.f2), .int .i64 ((rd_T31 l0 x70_2).f3.f0), .int .i64 ((rd_T31 l0 x70_2).f3.f1), .int .i64 ((rd_T31 l0 x70_2).f3.f2), .int .i64 ((rd_T31 l0 x70_2).f4.f0), .int .i64 ((rd_T31 l0 x70_2).f4.f1), .int .i64 ((rd_T31 l0 x70_2).f4.f2), .int .i64 ((rd_T31 l0 x70_2).f5)] 31 (0, 0)) (by (with_reducible repeat (first|refine blk_drewN ?_ _|refine blk_drew ?_|refine blk_alloc ?_ _));refine blk_put (cs := #[.string ((rd_T31 l0 x70_2).f0), .string ((rd_T31 l0 x70_2).f1), .int .i64 ((rd_T31 l0 x70_2).f2.f0), .int .i64 ((rd_T31 l0 x70_2).f2.f1), .int .i64 ((rd_T31 l0 x70_2).f2.f2), .int .i64 ((rd_T31 l0 x70_2).f3.f0), .int .i64 ((rd_T31 l0 x70_2).f3.f1), .int .i64 ((rd_T31 l0 x70_2).f3.f2), .int .i64 ((rd_T31 l0 x70_2).f4.f0), .int .i64 ((rd_T31 l0 x70_2).f4.f1), .int .i64 ((rd_T31 l0 x70_2).f4.f2), .int .i64 0]) ?_ 11 _ rfl;(with_reducible repeat (first|refine blk_drewN ?_ _|refine blk_drew ?_|refine blk_alloc ?_ _));refine blk_put (cs := #[.string ((rd_T31 l0 x70_2).f0), .string ((rd_T31 l0 x70_2).f1), .int .i64 ((rd_T31 l0 x70_2).f2.f0), .int .i64 ((rd_T31 l0 x70_2).f2.f1), .int .i64 ((rd_T31 l0 x70_2).f2.f2), .int .i64 ((rd_T31 l0 x70_2).f3.f0), .int .i64 ((rd_T31 l0 x70_2).f3.f1), .int .i64 ((rd_T31 l0 x70_2).f3.f2), .int .i64 ((rd_T31 l0 x70_2).f4.f0), .int .i64 ((rd_T31 l0 x70_2).f4.f1), .int .i64 0, .int .i64 0]) ?_ 10 _ rfl;(with_reducible repeat (first|refine blk_drewN ?_ _|refine blk_drew ?_|refine blk_alloc ?_ _));refine blk_put (cs := #[.string ((rd_T31 l0 x70_2).f0), .string ((rd_T31 l0 x70_2).f1), .int .i64 ((rd_T31 l0 x70_2).f2.f0), .int .i64 ((rd_T31 l0 x70_2).f2.f1), .int .i64 ((rd_T31 l0 x70_2).f2.f2), .int .i64 ((rd_T31 l0 x70_2).f3.f0), .int .i64 ((rd_T31 l0 x70_2).f3.f1), .int .i64 ((rd_T31 l0 x70_2).f3.f2), .int .i64 ((rd_T31 l0 x70_2).f4.f0), .int .i64 0, .int .i64 0, .int .i64 0]) ?_ 9 _ rfl;(with_reducible repeat (first|refine blk_drewN ?_ _|refine blk_drew ?_|refine blk_alloc ?_ _));refine blk_put (cs := #[.string ((rd_T31 l0 x70_2).f0), .string ((rd_T31 l0 x70_2).f1), .int .i64 ((rd_T31 l0 x70_2).f2.f0), .int .i64 ((rd_T31 l0 x70_2).f2.f1), .int .i64 ((rd_T31 l0 x70_2).f2.f2), .int .i64 ((rd_T31 l0 x70_2).f3.f0), .int .i64 ((rd_T31 l0 x70_2).f3.f1), .int .i64 ((rd_T31 l0 x70_2).f3.f2), .int .i64 0, .int .i64 0, .int .i64 0, .int .i64 0]) ?_ 8 _ rfl;(with_reducible repeat (first|refine blk_drewN ?_ _|refine blk_drew ?_|refine blk_alloc ?_ _));refine blk_put (cs := #[.string ((rd_T31 l0 x70_2).f0), .string ((rd_T31 l0 x70_2).f1), .int .i64 ((rd_T31 l0 x70_2).f2.f0), .int .i64 ((rd_T31 l0 x70_2).f2.f1), .int .i64 ((rd_T31 l0 x70_2).f2.f2), .int .i64 ((rd_T31 l0 x70_2).f3.f0), .int .i64 ((rd_T31 l0 x70_2).f3.f1), .int .i64 0, .int .i64 0, .int .i64 0, .int .i64 0, .int .i64 0]) ?_ 7 _ rfl;(with_reducible repeat (first|refine blk_drewN ?_ _|refine blk_drew ?_|refine blk_alloc ?_ _));refine blk_put (cs := #[.string ((rd_T31 l0 x70_2).f0), .string ((rd_T31 l0 x70_2).f1), .int .i64 ((rd_T31 l0 x70_2).f2.f0), .int .i64 ((rd_T31 l0 x70_2).f2.f1), .int .i64 ((rd_T31 l0 x70_2).f2.f2), .int .i64 ((rd_T31 l0 x70_2).f3.f0), .int .i64 0, .int .i64 0, .int .i64 0, .int .i64 0, .int .i64 0, .int .i64 0]) ?_ 6 _ rfl;(with_reducible repeat (first|refine blk_drewN ?_ _|refine blk_drew ?_|refine blk_alloc ?_ _));refine blk_put (cs := #[.string ((rd_T31 l0 x70_2).f0), .string ((rd_T31 l0 x70_2).f1), .int .i64 ((rd_T31 l0 x70_2).f2.f0), .int .i64 ((rd_T31 l0 x70_2).f2.f1), .int .i64 ((rd_T31 l0 x70_2).f2.f2), .int .i64 0, .int .i64 0, .int .i64 0, .int .i64 0, .int .i64 0, .int .i64 0, .int .i64 0]) ?_ 5 _ rfl;(with_reducible repeat (first|refine blk_drewN ?_ _|refine blk_drew ?_|refine blk_alloc ?_ _));refine blk_put (cs := #[.string ((rd_T31 l0 x70_2).f0), .string ((rd_T31 l0 x70_2).f1), .int .i64 ((rd_T31 l0 x70_2).f2.f0), .int .i64 ((rd_T31 l0 x70_2).f2.f1), .int .i64 0, .int .i64 0, .int .i64 0, .int .i64 0, .int .i64 0, .int .i64 0, .int .i64 0, .int .i64 0]) ?_ 4 _ rfl;(with_reducible repeat (first|refine blk_drewN ?_ _|refine blk_drew ?_|refine blk_alloc ?_ _));refine blk_put (cs := #[.string ((rd_T31 l0 x70_2).f0), .string ((rd_T31 l0 x70_2).f1), .int .i64 ((rd_T31 l0 x70_2).f2.f0), .int .i64 0, .int .i64 0, .int .i64 0, .int .i64 0, .int .i64 0, .int .i64 0, .int .i64 0, .int .i64 0, .int .i64 0]) ?_ 3 _ rfl;(with_reducible repeat (first|refine blk_drewN ?_ _|refine blk_drew ?_|refine blk_alloc ?_ _));refine blk_put (cs := #[.string ((rd_T31 l0 x70_2).f0), .string ((rd_T31 l0 x70_2).f1), .int .i64 0, .int .i64 0, .int .i64 0, .int .i64 0, .int .i64 0, .int .i64 0, .int .i64 0, .int .i64 0, .int .i64 0, .int .i64 0]) ?_ 2 _ rfl;(with_reducible repeat (first|refine blk_drewN ?_ _|refine blk_drew ?_|refine blk_alloc ?_ _));refine blk_put (cs := #[.string ((rd_T31 l0 x70_2).f0), .string (⟨#[]⟩ : ByteArray), .int .i64 0, .int .i64 0, .int .i64 0, .int .i64 0, .int .i64 0, .int .i64 0, .int .i64 0, .int .i64 0, .int .i64 0, .int .i64 0]) ?_ 1 _ rfl;(with_reducible repeat (first|refine blk_drewN ?_ _|refine blk_drew ?_|refine blk_alloc ?_ _));refine blk_put (cs := #[.string (⟨#[]⟩ : ByteArray), .string (⟨#[]⟩ : ByteArray), .int .i64 0, .int .i64 0, .int .i64 0, .int .i64 0, .int .i64 0, .int .i64 0, .int .i64 0, .int .i64 0, .int .i64 0, .int .i64 0]) ?_ 0 _ rfl;(with_reducible repeat (first|refine blk_drewN ?_ _|refine blk_drew ?_|refine blk_alloc ?_ _));exact BK12.out)) : gb13 ≠ gb12));clear BK12;clear HB;have BK12 := n0_;have HB := n1_;have BK13 := n2_;have GW13 := n3_;have GE13 := n4_;have NB12_13 := n5_;have NB13_12 := n6_;clear n0_ n1_ n2_ n3_ n4_ n5_ n6_;clear hb hbox hg;have hnb61 := NB13_12.out;have hnc61 := NB12_13.out;have hcz62_0 : w60.cell? ⟨gb13, 0, none⟩ = some (.string (⟨#[]⟩ : ByteArray)) := (blk_cell BK13.out 0).trans rfl;have hcz62_1 : w60.cell? ⟨gb13, 1, none⟩ = some (.string (⟨#[]⟩ : ByteArray)) := (blk_cell BK13.out 1).trans rfl;have hcz62_2 : w60.cell? ⟨gb13, 2, none⟩ = some (.int .i64 0) := (blk_cell BK13.out 2).trans rfl;have hcz62_3 : w60.cell? ⟨gb13, 3, none⟩ = some (.int .i64 0) := (blk_cell BK13.out 3).trans rfl;have hcz62_4 : w60.cell? ⟨gb13, 4, none⟩ = some (.int .i64 0) := (blk_cell BK13.out 4).trans rfl;have hcz62_5 : w60.cell? ⟨gb13, 5, none⟩ = some (.int .i64 0) := (blk_cell BK13.out 5).trans rfl;have hcz62_6 : w60.cell? ⟨gb13, 6, none⟩ = some (.int .i64 0) := (blk_cell BK13.out 6).trans rfl;have hcz62_7 : w60.cell? ⟨gb13, 7, none⟩ = some (.int .i64 0) := (blk_cell BK13.out 7).trans rfl;have hcz62_8 : w60.cell? ⟨gb13, 8, none⟩ = some (.int .i64 0) := (blk_cell BK13.out 8).trans rfl;have hcz62_9 : w60.cell? ⟨gb13, 9, none⟩ = some (.int .i64 0) := (blk_cell BK13.out 9).trans rfl;have hcz62_10 : w60.cell? ⟨gb13, 10, none⟩ = some (.int .i64 0) := (blk_cell BK13.out 10).trans rfl;have hcz62_11 : w60.cell? ⟨gb13, 11, none⟩ = some (.int .i64 0) := (blk_cell BK13.out 11).trans rfl;have hcz62_12 : w60.cell? ⟨gb13, 12, none⟩ = some (.slice none 0 0) := (blk_cell BK13.out 12).trans rfl;have hfz62_0 := blk_frozen BK13.out 0;have hfz62_1 := blk_frozen BK13.out 1;have hfz62_2 := blk_frozen BK13.out 2;have hfz62_3 := blk_frozen BK13.out 3;have hfz62_4 := blk_frozen BK13.out 4;have hfz62_5 := blk_frozen BK13.out 5;have hfz62_6 := blk_frozen BK13.out 6;have hfz62_7 := blk_frozen BK13.out 7;have hfz62_8 := blk_frozen BK13.out 8;have hfz62_9 := blk_frozen BK13.out 9;have hfz62_10 := blk_frozen BK13.out 10;have hfz62_11 := blk_frozen BK13.out 11;have hfz62_12 := blk_frozen BK13.out 12))
          go_loopg [78] k2 (fun kq v78 w' => ∃ (x78_3 : Int) (x14012_3 : List (S27)) (u14012 : Value), v78 = .int .i64 x78_3 ∧ Aside0 (tree_Right.l2 kq l0 l0 (l0.length : Int) x70_2 l0 (l0.length : Int) x78_3 ((rd_T31 l0 x70_2).f0) ((rd_T31 l0 x70_2).f1) ((rd_T31 l0 x70_2).f2.f0) ((rd_T31 l0 x70_2).f2.f1) ((rd_T31 l0 x70_2).f2.f2) ((rd_T31 l0 x70_2).f3.f0) ((rd_T31 l0 x70_2).f3.f1) ((rd_T31 l0 x70_2).f3.f2) ((rd_T31 l0 x70_2).f4.f0) ((rd_T31 l0 x70_2).f4.f1) ((rd_T31 l0 x70_2).f4.f2) ((rd_T31 l0 x70_2).f5) ((rd_T31 l0 x70_2).f0) ((rd_T31 l0 x70_2).f1) ((rd_T31 l0 x70_2).f2.f0) ((rd_T31 l0 x70_2).f2.f1) ((rd_T31 l0 x70_2).f2.f2) ((rd_T31 l0 x70_2).f3.f0) ((rd_T31 l0 x70_2).f3.f1) ((rd_T31 l0 x70_2).f3.f2) ((rd_T31 l0 x70_2).f4.f0) ((rd_T31 l0 x70_2).f4.f1) ((rd_T31 l0 x70_2).f4.f2) ((rd_T31 l0 x70_2).f5) x14012_3 = some r) ∧ Aside0 (kq ≤ k2) ∧ Aside0 (Kd.R k27 27 w' w.heap.size (fun _ => True) u14012 x14012_3) ∧ Aside0 (w'.heap[gb12]? = some (.cells #[.string ((rd_T31 l0 x70_2).f0), .string ((rd_T31 l0 x70_2).f1), .int .i64 ((rd_T31 l0 x70_2).f2.f0), .int .i64 ((rd_T31 l0 x70_2).f2.f1), .int .i64 ((rd_T31 l0 x70_2).f2.f2), .int .i64 ((rd_T31 l0 x70_2).f3.f0), .int .i64 ((rd_T31 l0 x70_2).f3.f1), .int .i64 ((rd_T31 l0 x70_2).f3.f2), .int .i64 ((rd_T31 l0 x70_2).f4.f0), .int .i64 ((rd_T31 l0 x70_2).f4.f1), .int .i64 ((rd_T31 l0 x70_2).f4.f2), .int .i64 ((rd_T31 l0 x70_2).f5)] 31 (0, 0))) ∧ Aside0 (w'.heap[gb13]? = some (.cells #[.string ((rd_T31 l0 x70_2).f0), .string ((rd_T31 l0 x70_2).f1), .int .i64 ((rd_T31 l0 x70_2).f2.f0), .int .i64 ((rd_T31 l0 x70_2).f2.f1), .int .i64 ((rd_T31 l0 x70_2).f2.f2), .int .i64 ((rd_T31 l0 x70_2).f3.f0), .int .i64 ((rd_T31 l0 x70_2).f3.f1), .int .i64 ((rd_T31 l0 x70_2).f3.f2), .int .i64 ((rd_T31 l0 x70_2).f4.f0), .int .i64 ((rd_T31 l0 x70_2).f4.f1), .int .i64 ((rd_T31 l0 x70_2).f4.f2), .int .i64 ((rd_T31 l0 x70_2).f5), u14012] 159 (0, 0))) ∧ Aside0 (Below w.heap.size w w'))
          case atStart => exact ⟨(0), (([] : List (S27))), (.slice none 0 0), (by first|rfl|(simp;done)|(simp [*];done)), H', ⟨Nat.le_refl _⟩, ⟨by first|exact Kd.R_nil _ _ _ _ _|exact Kd.N_nil _ _ _ _ _|exact Kd.V_nil _ _ _ _ _|exact Kd.Q_nil _ _ _ _ _|exact Kd.S_nil _ _ _ _ _⟩, ⟨by (with_reducible repeat (first|refine blk_drewN ?_ _|refine blk_drew ?_|refine blk_alloc ?_ _));refine blk_far ?_ NB12_13.out _;(with_reducible repeat (first|refine blk_drewN ?_ _|refine blk_drew ?_|refine blk_alloc ?_ _));refine blk_far ?_ NB12_13.out _;(with_reducible repeat (first|refine blk_drewN ?_ _|refine blk_drew ?_|refine blk_alloc ?_ _));refine blk_far ?_ NB12_13.out _;(with_reducible repeat (first|refine blk_drewN ?_ _|refine blk_drew ?_|refine blk_alloc ?_ _));refine blk_far ?_ NB12_13.out _;(with_reducible repeat (first|refine blk_drewN ?_ _|refine blk_drew ?_|refine blk_alloc ?_ _));refine blk_far ?_ NB12_13.out _;(with_reducible repeat (first|refine blk_drewN ?_ _|refine blk_drew ?_|refine blk_alloc ?_ _));refine blk_far ?_ NB12_13.out _;(with_reducible repeat (first|refine blk_drewN ?_ _|refine blk_drew ?_|refine blk_alloc ?_ _));refine blk_far ?_ NB12_13.out _;(with_reducible repeat (first|refine blk_drewN ?_ _|refine blk_drew ?_|refine blk_alloc ?_ _));refine blk_far ?_ NB12_13.out _;(with_reducible repeat (first|refine blk_drewN ?_ _|refine blk_drew ?_|refine blk_alloc ?_ _));refine blk_far ?_ NB12_13.out _;(with_reducible repeat (first|refine blk_drewN ?_ _|refine blk_drew ?_|refine blk_alloc ?_ _));refine blk_far ?_ NB12_13.out _;(with_reducible repeat (first|refine blk_drewN ?_ _|refine blk_drew ?_|refine blk_alloc ?_ _));refine blk_far ?_ NB12_13.out _;(with_reducible repeat (first|refine blk_drewN ?_ _|refine blk_drew ?_|refine blk_alloc ?_ _));refine blk_far ?_ NB12_13.out _;(with_reducible repeat (first|refine blk_drewN ?_ _|refine blk_drew ?_|refine blk_alloc ?_ _));refine blk_far ?_ NB12_13.out _;(with_reducible repeat (first|refine blk_drewN ?_ _|refine blk_drew ?_|refine blk_alloc ?_ _));exact BK12.out⟩, ⟨by (with_reducible repeat (first|refine blk_drewN ?_ _|refine blk_drew ?_|refine blk_alloc ?_ _));refine blk_put (cs := #[.string ((rd_T31 l0 x70_2).f0), .string ((rd_T31 l0 x70_2).f1), .int .i64 ((rd_T31 l0 x70_2).f2.f0), .int .i64 ((rd_T31 l0 x70_2).f2.f1), .int .i64 ((rd_T31 l0 x70_2).f2.f2), .int .i64 ((rd_T31 l0 x70_2).f3.f0), .int .i64 ((rd_T31 l0 x70_2).f3.f1), .int .i64 ((rd_T31 l0 x70_2).f3.f2), .int .i64 ((rd_T31 l0 x70_2).f4.f0), .int .i64 ((rd_T31 l0 x70_2).f4.f1), .int .i64 ((rd_T31 l0 x70_2).f4.f2), .int .i64 ((rd_T31 l0 x70_2).f5), .slice none 0 0]) ?_ 12 _ rfl;(with_reducible repeat (first|refine blk_drewN ?_ _|refine blk_drew ?_|refine blk_alloc ?_ _));refine blk_put (cs := #[.string ((rd_T31 l0 x70_2).f0), .string ((rd_T31 l0 x70_2).f1), .int .i64 ((rd_T31 l0 x70_2).f2.f0), .int .i64 ((rd_T31 l0 x70_2).f2.f1), .int .i64 ((rd_T31 l0 x70_2).f2.f2), .int .i64 ((rd_T31 l0 x70_2).f3.f0), .int .i64 ((rd_T31 l0 x70_2).f3.f1), .int .i64 ((rd_T31 l0 x70_2).f3.f2), .int .i64 ((rd_T31 l0 x70_2).f4.f0), .int .i64 ((rd_T31 l0 x70_2).f4.f1), .int .i64 ((rd_T31 l0 x70_2).f4.f2), .int .i64 0, .slice none 0 0]) ?_ 11 _ rfl;(with_reducible repeat (first|refine blk_drewN ?_ _|refine blk_drew ?_|refine blk_alloc ?_ _));refine blk_put (cs := #[.string ((rd_T31 l0 x70_2).f0), .string ((rd_T31 l0 x70_2).f1), .int .i64 ((rd_T31 l0 x70_2).f2.f0), .int .i64 ((rd_T31 l0 x70_2).f2.f1), .int .i64 ((rd_T31 l0 x70_2).f2.f2), .int .i64 ((rd_T31 l0 x70_2).f3.f0), .int .i64 ((rd_T31 l0 x70_2).f3.f1), .int .i64 ((rd_T31 l0 x70_2).f3.f2), .int .i64 ((rd_T31 l0 x70_2).f4.f0), .int .i64 ((rd_T31 l0 x70_2).f4.f1), .int .i64 0, .int .i64 0, .slice none 0 0]) ?_ 10 _ rfl;(with_reducible repeat (first|refine blk_drewN ?_ _|refine blk_drew ?_|refine blk_alloc ?_ _));refine blk_put (cs := #[.string ((rd_T31 l0 x70_2).f0), .string ((rd_T31 l0 x70_2).f1), .int .i64 ((rd_T31 l0 x70_2).f2.f0), .int .i64 ((rd_T31 l0 x70_2).f2.f1), .int .i64 ((rd_T31 l0 x70_2).f2.f2), .int .i64 ((rd_T31 l0 x70_2).f3.f0), .int .i64 ((rd_T31 l0 x70_2).f3.f1), .int .i64 ((rd_T31 l0 x70_2).f3.f2), .int .i64 ((rd_T31 l0 x70_2).f4.f0), .int .i64 0, .int .i64 0, .int .i64 0, .slice none 0 0]) ?_ 9 _ rfl;(with_reducible repeat (first|refine blk_drewN ?_ _|refine blk_drew ?_|refine blk_alloc ?_ _));refine blk_put (cs := #[.string ((rd_T31 l0 x70_2).f0), .string ((rd_T31 l0 x70_2).f1), .int .i64 ((rd_T31 l0 x70_2).f2.f0), .int .i64 ((rd_T31 l0 x70_2).f2.f1), .int .i64 ((rd_T31 l0 x70_2).f2.f2), .int .i64 ((rd_T31 l0 x70_2).f3.f0), .int .i64 ((rd_T31 l0 x70_2).f3.f1), .int .i64 ((rd_T31 l0 x70_2).f3.f2), .int .i64 0, .int .i64 0, .int .i64 0, .int .i64 0, .slice none 0 0]) ?_ 8 _ rfl;(with_reducible repeat (first|refine blk_drewN ?_ _|refine blk_drew ?_|refine blk_alloc ?_ _));refine blk_put (cs := #[.string ((rd_T31 l0 x70_2).f0), .string ((rd_T31 l0 x70_2).f1), .int .i64 ((rd_T31 l0 x70_2).f2.f0), .int .i64 ((rd_T31 l0 x70_2).f2.f1), .int .i64 ((rd_T31 l0 x70_2).f2.f2), .int .i64 ((rd_T31 l0 x70_2).f3.f0), .int .i64 ((rd_T31 l0 x70_2).f3.f1), .int .i64 0, .int .i64 0, .int .i64 0, .int .i64 0, .int .i64 0, .slice none 0 0]) ?_ 7 _ rfl;(with_reducible repeat (first|refine blk_drewN ?_ _|refine blk_drew ?_|refine blk_alloc ?_ _));refine blk_put (cs := #[.string ((rd_T31 l0 x70_2).f0), .string ((rd_T31 l0 x70_2).f1), .int .i64 ((rd_T31 l0 x70_2).f2.f0), .int .i64 ((rd_T31 l0 x70_2).f2.f1), .int .i64 ((rd_T31 l0 x70_2).f2.f2), .int .i64 ((rd_T31 l0 x70_2).f3.f0), .int .i64 0, .int .i64 0, .int .i64 0, .int .i64 0, .int .i64 0, .int .i64 0, .slice none 0 0]) ?_ 6 _ rfl;(with_reducible repeat (first|refine blk_drewN ?_ _|refine blk_drew ?_|refine blk_alloc ?_ _));refine blk_put (cs := #[.string ((rd_T31 l0 x70_2).f0), .string ((rd_T31 l0 x70_2).f1), .int .i64 ((rd_T31 l0 x70_2).f2.f0), .int .i64 ((rd_T31 l0 x70_2).f2.f1), .int .i64 ((rd_T31 l0 x70_2).f2.f2), .int .i64 0, .int .i64 0, .int .i64 0, .int .i64 0, .int .i64 0, .int .i64 0, .int .i64 0, .slice none 0 0]) ?_ 5 _ rfl;(with_reducible repeat (first|refine blk_drewN ?_ _|refine blk_drew ?_|refine blk_alloc ?_ _));refine blk_put (cs := #[.string ((rd_T31 l0 x70_2).f0), .string ((rd_T31 l0 x70_2).f1), .int .i64 ((rd_T31 l0 x70_2).f2.f0), .int .i64 ((rd_T31 l0 x70_2).f2.f1), .int .i64 0, .int .i64 0, .int .i64 0, .int .i64 0, .int .i64 0, .int .i64 0, .int .i64 0, .int .i64 0, .slice none 0 0]) ?_ 4 _ rfl;(with_reducible repeat (first|refine blk_drewN ?_ _|refine blk_drew ?_|refine blk_alloc ?_ _));refine blk_put (cs := #[.string ((rd_T31 l0 x70_2).f0), .string ((rd_T31 l0 x70_2).f1), .int .i64 ((rd_T31 l0 x70_2).f2.f0), .int .i64 0, .int .i64 0, .int .i64 0, .int .i64 0, .int .i64 0, .int .i64 0, .int .i64 0, .int .i64 0, .int .i64 0, .slice none 0 0]) ?_ 3 _ rfl;(with_reducible repeat (first|refine blk_drewN ?_ _|refine blk_drew ?_|refine blk_alloc ?_ _));refine blk_put (cs := #[.string ((rd_T31 l0 x70_2).f0), .string ((rd_T31 l0 x70_2).f1), .int .i64 0, .int .i64 0, .int .i64 0, .int .i64 0, .int .i64 0, .int .i64 0, .int .i64 0, .int .i64 0, .int .i64 0, .int .i64 0, .slice none 0 0]) ?_ 2 _ rfl;(with_reducible repeat (first|refine blk_drewN ?_ _|refine blk_drew ?_|refine blk_alloc ?_ _));refine blk_put (cs := #[.string ((rd_T31 l0 x70_2).f0), .string (⟨#[]⟩ : ByteArray), .int .i64 0, .int .i64 0, .int .i64 0, .int .i64 0, .int .i64 0, .int .i64 0, .int .i64 0, .int .i64 0, .int .i64 0, .int .i64 0, .slice none 0 0]) ?_ 1 _ rfl;(with_reducible repeat (first|refine blk_drewN ?_ _|refine blk_drew ?_|refine blk_alloc ?_ _));refine blk_put (cs := #[.string (⟨#[]⟩ : ByteArray), .string (⟨#[]⟩ : ByteArray), .int .i64 0, .int .i64 0, .int .i64 0, .int .i64 0, .int .i64 0, .int .i64 0, .int .i64 0, .int .i64 0, .int .i64 0, .int .i64 0, .slice none 0 0]) ?_ 0 _ rfl;(with_reducible repeat (first|refine blk_drewN ?_ _|refine blk_drew ?_|refine blk_alloc ?_ _));exact BK13.out⟩, ⟨by repeat (first|(with_reducible first|exact HB.out|apply below_alloc|apply pw_below_drewN|apply below_drew1|refine below_set ?_ GE12.out|refine below_set ?_ GE13.out)|exact HB.out)⟩⟩
          case round =>
           clear H'
           try clear c1
           try clear p1
           try clear q1
           try clear hx1
           try clear p2
           try clear c3
           try clear c3b0
           try clear c4
           try clear c5
           try clear c6
           try clear p6
           try clear c7
           try clear c11
           try clear p11
           try clear q11
           try clear hx11
           try clear c12
           try clear c38
           try clear c38b0
           try clear c48
           try clear c50
           try clear c55
           try clear c55b0
           try clear c56
           try clear c56b0
           try clear c57
           try clear c57b0
           try clear c61
           try clear hcz51_0
           try clear hcz51_1
           try clear hcz51_10
           try clear hcz51_11
           try clear hcz51_2
           try clear hcz51_3
           try clear hcz51_4
           try clear hcz51_5
           try clear hcz51_6
           try clear hcz51_7
           try clear hcz51_8
           try clear hcz51_9
           try clear hcz53_0
           try clear hcz53_1
           try clear hcz53_10
           try clear hcz53_11
           try clear hcz53_2
           try clear hcz53_3
           try clear hcz53_4
           try clear hcz53_5
           try clear hcz53_6
           try clear hcz53_7
           try clear hcz53_8
           try clear hcz53_9
           try clear hcz59_0
           try clear hcz59_1
           try clear hcz59_10
           try clear hcz59_11
           try clear hcz59_2
           try clear hcz59_3
           try clear hcz59_4
           try clear hcz59_5
           try clear hcz59_6
           try clear hcz59_7
           try clear hcz59_8
           try clear hcz59_9
           try clear hcz62_0
           try clear hcz62_1
           try clear hcz62_10
           try clear hcz62_11
           try clear hcz62_12
           try clear hcz62_2
           try clear hcz62_3
           try clear hcz62_4
           try clear hcz62_5
           try clear hcz62_6
           try clear hcz62_7
           try clear hcz62_8
           try clear hcz62_9
           try clear hfz51_0
           try clear hfz51_1
           try clear hfz51_10
           try clear hfz51_11
           try clear hfz51_2
           try clear hfz51_3
           try clear hfz51_4
           try clear hfz51_5
           try clear hfz51_6
           try clear hfz51_7
           try clear hfz51_8
           try clear hfz51_9
           try clear hfz53_0
           try clear hfz53_1
           try clear hfz53_10
           try clear hfz53_11
           try clear hfz53_2
           try clear hfz53_3
           try clear hfz53_4
           try clear hfz53_5
           try clear hfz53_6
           try clear hfz53_7
           try clear hfz53_8
           try clear hfz53_9
           try clear hfz59_0
           try clear hfz59_1
           try clear hfz59_10
           try clear hfz59_11
           try clear hfz59_2
           try clear hfz59_3
           try clear hfz59_4
           try clear hfz59_5
           try clear hfz59_6
           try clear hfz59_7
           try clear hfz59_8
           try clear hfz59_9
           try clear hfz62_0
           try clear hfz62_1
           try clear hfz62_10
           try clear hfz62_11
           try clear hfz62_12
           try clear hfz62_2
           try clear hfz62_3
           try clear hfz62_4
           try clear hfz62_5
           try clear hfz62_6
           try clear hfz62_7
           try clear hfz62_8
           try clear hfz62_9
           try clear hx11_0
           try clear hx11_1
           try clear hx11_10
           try clear hx11_11
           try clear hx11_2
           try clear hx11_3
           try clear hx11_4
           try clear hx11_5
           try clear hx11_6
           try clear hx11_7
           try clear hx11_8
           try clear hx11_9
           try clear p11
           try clear p2
           try clear p6
           try clear q11
           obtain ⟨x78_3, x14012_3, u14012, rfl, HA, HK3, HO_14012, BK12, BK13, HB⟩ := hrel
           cases gk with
           | zero => exact absurd HA.out (by simp [tree_Right.l2])
           | succ k3 =>
            have H := HA.out
            clear HA
            simp only [tree_Right.l2] at H
            by_cases c63 : x78_3 < (l0.length : Int)
            ·rw [if_pos c63] at H
             have c63b0 : decide (x78_3 < (l0.length : Int)) = true := decide_eq_true c63
             clear c63
             by_cases c64 : 0 ≤ x78_3
             ·rw [if_pos c64] at H
              have c64b0 : decide (0 ≤ x78_3) = true := decide_eq_true c64
              clear c64
              by_cases c65 : x78_3 < (l0.length : Int)
              ·rw [if_pos c65] at H
               have c65b0 : decide (x78_3 < (l0.length : Int)) = true := decide_eq_true c65
               clear c65
               by_cases c66 : ((rd_T31 l0 x78_3).f1).toList = ((rd_T31 l0 x70_2).f0).toList
               ·rw [if_pos c66] at H
                have c66b0 : (((rd_T31 l0 x78_3).f1).toList == ((rd_T31 l0 x70_2).f0).toList) = true := beq_iff_eq.mpr c66
                have c66b1 : (((rd_T31 l0 x78_3).f1).toList != ((rd_T31 l0 x70_2).f0).toList) = false := bne_eq_false_iff_eq.mpr c66
                clear c66
                by_cases c67 : x14012_3.length < 5864062014805
                ·rw [if_pos c67] at H
                 have LMc67 := Aside0.mk c67
                 clear c67
                 obtain ⟨y16, hy16⟩ : ∃ y_ : List (S27), y_ = (x14012_3 ++ [(⟨(rd_T31 l0 x78_3).f4.f0, (rd_T31 l0 x78_3).f4.f1, (rd_T31 l0 x78_3).f4.f2⟩ : S27)]) := ⟨_, rfl⟩
                 replace H : (tree_Right.l2 k3 l0 l0 (l0.length : Int) x70_2 l0 (l0.length : Int) (wrap64 (x78_3 + 1)) ((rd_T31 l0 x70_2).f0) ((rd_T31 l0 x70_2).f1) ((rd_T31 l0 x70_2).f2.f0) ((rd_T31 l0 x70_2).f2.f1) ((rd_T31 l0 x70_2).f2.f2) ((rd_T31 l0 x70_2).f3.f0) ((rd_T31 l0 x70_2).f3.f1) ((rd_T31 l0 x70_2).f3.f2) ((rd_T31 l0 x70_2).f4.f0) ((rd_T31 l0 x70_2).f4.f1) ((rd_T31 l0 x70_2).f4.f2) ((rd_T31 l0 x70_2).f5) ((rd_T31 l0 x70_2).f0) ((rd_T31 l0 x70_2).f1) ((rd_T31 l0 x70_2).f2.f0) ((rd_T31 l0 x70_2).f2.f1) ((rd_T31 l0 x70_2).f2.f2) ((rd_T31 l0 x70_2).f3.f0) ((rd_T31 l0 x70_2).f3.f1) ((rd_T31 l0 x70_2).f3.f2) ((rd_T31 l0 x70_2).f4.f0) ((rd_T31 l0 x70_2).f4.f1) ((rd_T31 l0 x70_2).f4.f2) ((rd_T31 l0 x70_2).f5) y16) = some r := by first|(rw [hy16];with_reducible exact H)|(have H2_ := (Option.bind_some _ _).symm.trans H;rw [hy16];with_reducible exact H2_)|(have H2_ := (Option.bind_some _ _).symm.trans H;with_reducible exact H2_)|with_reducible exact H|(rw [hy16];exact H)|exact H
                 have Ny16 := Aside0.mk hy16
                 clear hy16
                 have H' := Aside0.mk H
                 clear H
                 have p14 : 0 ≤ (x78_3 : Int) := of_decide_eq_true (by first|(with_reducible assumption)|assumption)
                 have q14 : x78_3 < (l0.length : Int) := of_decide_eq_true (by first|(with_reducible assumption)|assumption)
                 obtain ⟨ad14, e14, hx14_0, hx14_1, hx14_2, hx14_3, hx14_4, hx14_5, hx14_6, hx14_7, hx14_8, hx14_9, hx14_10, hx14_11⟩ := at_T31 HR0.out x78_3 p14 q14
                 obtain rfl : ad11 = ad14 := (by injection e14)
                 replace hx14_0 := (HB.out.cell (World.block_lt_of_cell? w _ hx14_0)).trans hx14_0
                 replace hx14_1 := (HB.out.cell (World.block_lt_of_cell? w _ hx14_1)).trans hx14_1
                 replace hx14_2 := (HB.out.cell (World.block_lt_of_cell? w _ hx14_2)).trans hx14_2
                 replace hx14_3 := (HB.out.cell (World.block_lt_of_cell? w _ hx14_3)).trans hx14_3
                 replace hx14_4 := (HB.out.cell (World.block_lt_of_cell? w _ hx14_4)).trans hx14_4
                 replace hx14_5 := (HB.out.cell (World.block_lt_of_cell? w _ hx14_5)).trans hx14_5
                 replace hx14_6 := (HB.out.cell (World.block_lt_of_cell? w _ hx14_6)).trans hx14_6
                 replace hx14_7 := (HB.out.cell (World.block_lt_of_cell? w _ hx14_7)).trans hx14_7
                 replace hx14_8 := (HB.out.cell (World.block_lt_of_cell? w _ hx14_8)).trans hx14_8
                 replace hx14_9 := (HB.out.cell (World.block_lt_of_cell? w _ hx14_9)).trans hx14_9
                 replace hx14_10 := (HB.out.cell (World.block_lt_of_cell? w _ hx14_10)).trans hx14_10
                 replace hx14_11 := (HB.out.cell (World.block_lt_of_cell? w _ hx14_11)).trans hx14_11
                 replace p14 := eq_true p14
                 replace q14 := eq_true q14
                 go_wp2_with (first|((with_reducible refine gate_dst (N := 10) rfl ?_);(try (refine gate_guard (by rfl) ?_;dsimp only));refine box_event ?hg (N := 10) ?hd (cs := #[.string (⟨#[]⟩ : ByteArray), .string (⟨#[]⟩ : ByteArray), .int .i64 0, .int .i64 0, .int .i64 0, .int .i64 0, .int .i64 0, .int .i64 0, .int .i64 0, .int .i64 0, .int .i64 0, .int .i64 0]) (t := 31) ?hr ?_;(case hd => rfl);(case hg => rfl);(case hr => first|(go_simp;done)|(go_simp;rfl));intro gb15 hg w68 hbox hb;have n0_ := Aside0.mk (Kd.R_below (by (with_reducible repeat (first|apply Kd.R_alloc|apply Kd.R_drewN|apply Kd.R_drew));exact HO_14012.out) hb);have n1_ := Aside0.mk (blk_below (g := gb12) (o := .cells #[.string ((rd_T31 l0 x70_2).f0), .string ((rd_T31 l0 x70_2).f1), .int .i64 ((rd_T31 l0 x70_2).f2.f0), .int .i64 ((rd_T31 l0 x70_2).f2.f1), .int .i64 ((rd_T31 l0 x70_2).f2.f2), .int .i64 ((rd_T31 l0 x70_2).f3.f0), .int .i64 ((rd_T31 l0 x70_2).f3.f1), .int .i64 ((rd_T31 l0 x70_2).f3.f2), .int .i64 ((rd_T31 l0 x70_2).f4.f0), .int .i64 ((rd_T31 l0 x70_2).f4.f1), .int .i64 ((rd_T31 l0 x70_2).f4.f2), .int .i64 ((rd_T31 l0 x70_2).f5)] 31 (0, 0)) (by (with_reducible repeat (first|refine blk_drewN ?_ _|refine blk_drew ?_|refine blk_alloc ?_ _));exact BK12.out) hb);have n2_ := Aside0.mk (blk_below (g := gb13) (o := .cells #[.string ((rd_T31 l0 x70_2).f0), .string ((rd_T31 l0 x70_2).f1), .int .i64 ((rd_T31 l0 x70_2).f2.f0), .int .i64 ((rd_T31 l0 x70_2).f2.f1), .int .i64 ((rd_T31 l0 x70_2).f2.f2), .int .i64 ((rd_T31 l0 x70_2).f3.f0), .int .i64 ((rd_T31 l0 x70_2).f3.f1), .int .i64 ((rd_T31 l0 x70_2).f3.f2), .int .i64 ((rd_T31 l0 x70_2).f4.f0), .int .i64 ((rd_T31 l0 x70_2).f4.f1), .int .i64 ((rd_T31 l0 x70_2).f4.f2), .int .i64 ((rd_T31 l0 x70_2).f5), u14012] 159 (0, 0)) (by (with_reducible repeat (first|refine blk_drewN ?_ _|refine blk_drew ?_|refine blk_alloc ?_ _));exact BK13.out) hb);have n3_ := Aside0.mk (below_step (by repeat (first|(with_reducible first|exact HB.out|apply below_alloc|apply pw_below_drewN|apply below_drew1|refine below_set ?_ GE12.out|refine below_set ?_ GE13.out)|exact HB.out)) hb);have n4_ := Aside0.mk (hbox);have n5_ := Aside0.mk ((by rw [hg];exact (below_size (by repeat (first|(with_reducible first|exact HB.out|apply below_alloc|apply pw_below_drewN|apply below_drew1|refine below_set ?_ GE12.out|refine below_set ?_ GE13.out)|exact HB.out))) : w.heap.size ≤ gb15));have n6_ := Aside0.mk ((by rw [hg];exact (below_size (by repeat (first|(with_reducible first|exact HB.out|apply below_alloc|apply pw_below_drewN|apply below_drew1|refine below_set ?_ GE12.out|refine below_set ?_ GE13.out)|exact HB.out))) : w.heap.size ≤ gb15));have n7_ := Aside0.mk ((by rw [hg];exact Nat.ne_of_lt (blk_lt (g := gb12) (o := .cells #[.string ((rd_T31 l0 x70_2).f0), .string ((rd_T31 l0 x70_2).f1), .int .i64 ((rd_T31 l0 x70_2).f2.f0), .int .i64 ((rd_T31 l0 x70_2).f2.f1), .int .i64 ((rd_T31 l0 x70_2).f2.f2), .int .i64 ((rd_T31 l0 x70_2).f3.f0), .int .i64 ((rd_T31 l0 x70_2).f3.f1), .int .i64 ((rd_T31 l0 x70_2).f3.f2), .int .i64 ((rd_T31 l0 x70_2).f4.f0), .int .i64 ((rd_T31 l0 x70_2).f4.f1), .int .i64 ((rd_T31 l0 x70_2).f4.f2), .int .i64 ((rd_T31 l0 x70_2).f5)] 31 (0, 0)) (by (with_reducible repeat (first|refine blk_drewN ?_ _|refine blk_drew ?_|refine blk_alloc ?_ _));exact BK12.out)) : gb12 ≠ gb15));have n8_ := Aside0.mk ((by rw [hg];exact Nat.ne_of_gt (blk_lt (g := gb12) (o := .cells #[.string ((rd_T31 l0 x70_2).f0), .string ((rd_T31 l0 x70_2).f1), .int .i64 ((rd_T31 l0 x70_2).f2.f0), .int .i64 ((rd_T31 l0 x70_2).f2.f1), .int .i64 ((rd_T31 l0 x70_2).f2.f2), .int .i64 ((rd_T31 l0 x70_2).f3.f0), .int .i64 ((rd_T31 l0 x70_2).f3.f1), .int .i64 ((rd_T31 l0 x70_2).f3.f2), .int .i64 ((rd_T31 l0 x70_2).f4.f0), .int .i64 ((rd_T31 l0 x70_2).f4.f1), .int .i64 ((rd_T31 l0 x70_2).f4.f2), .int .i64 ((rd_T31 l0 x70_2).f5)] 31 (0, 0)) (by (with_reducible repeat (first|refine blk_drewN ?_ _|refine blk_drew ?_|refine blk_alloc ?_ _));exact BK12.out)) : gb15 ≠ gb12));have n9_ := Aside0.mk ((by rw [hg];exact Nat.ne_of_lt (blk_lt (g := gb13) (o := .cells #[.string ((rd_T31 l0 x70_2).f0), .string ((rd_T31 l0 x70_2).f1), .int .i64 ((rd_T31 l0 x70_2).f2.f0), .int .i64 ((rd_T31 l0 x70_2).f2.f1), .int .i64 ((rd_T31 l0 x70_2).f2.f2), .int .i64 ((rd_T31 l0 x70_2).f3.f0), .int .i64 ((rd_T31 l0 x70_2).f3.f1), .int .i64 ((rd_T31 l0 x70_2).f3.f2), .int .i64 ((rd_T31 l0 x70_2).f4.f0), .int .i64 ((rd_T31 l0 x70_2).f4.f1), .int .i64 ((rd_T31 l0 x70_2).f4.f2), .int .i64 ((rd_T31 l0 x70_2).f5), u14012] 159 (0, 0)) (by (with_reducible repeat (first|refine blk_drewN ?_ _|refine blk_drew ?_|refine blk_alloc ?_ _));exact BK13.out)) : gb13 ≠ gb15));have n10_ := Aside0.mk ((by rw [hg];exact Nat.ne_of_gt (blk_lt (g := gb13) (o := .cells #[.string ((rd_T31 l0 x70_2).f0), .string ((rd_T31 l0 x70_2).f1), .int .i64 ((rd_T31 l0 x70_2).f2.f0), .int .i64 ((rd_T31 l0 x70_2).f2.f1), .int .i64 ((rd_T31 l0 x70_2).f2.f2), .int .i64 ((rd_T31 l0 x70_2).f3.f0), .int .i64 ((rd_T31 l0 x70_2).f3.f1), .int .i64 ((rd_T31 l0 x70_2).f3.f2), .int .i64 ((rd_T31 l0 x70_2).f4.f0), .int .i64 ((rd_T31 l0 x70_2).f4.f1), .int .i64 ((rd_T31 l0 x70_2).f4.f2), .int .i64 ((rd_T31 l0 x70_2).f5), u14012] 159 (0, 0)) (by (with_reducible repeat (first|refine blk_drewN ?_ _|refine blk_drew ?_|refine blk_alloc ?_ _));exact BK13.out)) : gb15 ≠ gb13));clear HO_14012;clear BK12;clear BK13;clear HB;have HO_14012 := n0_;have BK12 := n1_;have BK13 := n2_;have HB := n3_;have BK15 := n4_;have GW15 := n5_;have GE15 := n6_;have NB12_15 := n7_;have NB15_12 := n8_;have NB13_15 := n9_;have NB15_13 := n10_;clear n0_ n1_ n2_ n3_ n4_ n5_ n6_ n7_ n8_ n9_ n10_;clear hb hbox hg;have hnb69 := NB15_12.out;have hnc69 := NB12_15.out;have hnb70 := NB15_13.out;have hnc70 := NB13_15.out;have hcz71_0 : w68.cell? ⟨gb15, 0, none⟩ = some (.string (⟨#[]⟩ : ByteArray)) := (blk_cell BK15.out 0).trans rfl;have hcz71_1 : w68.cell? ⟨gb15, 1, none⟩ = some (.string (⟨#[]⟩ : ByteArray)) := (blk_cell BK15.out 1).trans rfl;have hcz71_2 : w68.cell? ⟨gb15, 2, none⟩ = some (.int .i64 0) := (blk_cell BK15.out 2).trans rfl;have hcz71_3 : w68.cell? ⟨gb15, 3, none⟩ = some (.int .i64 0) := (blk_cell BK15.out 3).trans rfl;have hcz71_4 : w68.cell? ⟨gb15, 4, none⟩ = some (.int .i64 0) := (blk_cell BK15.out 4).trans rfl;have hcz71_5 : w68.cell? ⟨gb15, 5, none⟩ = some (.int .i64 0) := (blk_cell BK15.out 5).trans rfl;have hcz71_6 : w68.cell? ⟨gb15, 6, none⟩ = some (.int .i64 0) := (blk_cell BK15.out 6).trans rfl;have hcz71_7 : w68.cell? ⟨gb15, 7, none⟩ = some (.int .i64 0) := (blk_cell BK15.out 7).trans rfl;have hcz71_8 : w68.cell? ⟨gb15, 8, none⟩ = some (.int .i64 0) := (blk_cell BK15.out 8).trans rfl;have hcz71_9 : w68.cell? ⟨gb15, 9, none⟩ = some (.int .i64 0) := (blk_cell BK15.out 9).trans rfl;have hcz71_10 : w68.cell? ⟨gb15, 10, none⟩ = some (.int .i64 0) := (blk_cell BK15.out 10).trans rfl;have hcz71_11 : w68.cell? ⟨gb15, 11, none⟩ = some (.int .i64 0) := (blk_cell BK15.out 11).trans rfl;have hfz71_0 := blk_frozen BK15.out 0;have hfz71_1 := blk_frozen BK15.out 1;have hfz71_2 := blk_frozen BK15.out 2;have hfz71_3 := blk_frozen BK15.out 3;have hfz71_4 := blk_frozen BK15.out 4;have hfz71_5 := blk_frozen BK15.out 5;have hfz71_6 := blk_frozen BK15.out 6;have hfz71_7 := blk_frozen BK15.out 7;have hfz71_8 := blk_frozen BK15.out 8;have hfz71_9 := blk_frozen BK15.out 9;have hfz71_10 := blk_frozen BK15.out 10;have hfz71_11 := blk_frozen BK15.out 11;have hnb72 := NB12_13.out;have hnc72 := NB13_12.out;have hcz73_0 : w68.cell? ⟨gb12, 0, none⟩ = some (.string ((rd_T31 l0 x70_2).f0)) := (blk_cell BK12.out 0).trans rfl;have hcz73_1 : w68.cell? ⟨gb12, 1, none⟩ = some (.string ((rd_T31 l0 x70_2).f1)) := (blk_cell BK12.out 1).trans rfl;have hcz73_2 : w68.cell? ⟨gb12, 2, none⟩ = some (.int .i64 ((rd_T31 l0 x70_2).f2.f0)) := (blk_cell BK12.out 2).trans rfl;have hcz73_3 : w68.cell? ⟨gb12, 3, none⟩ = some (.int .i64 ((rd_T31 l0 x70_2).f2.f1)) := (blk_cell BK12.out 3).trans rfl;have hcz73_4 : w68.cell? ⟨gb12, 4, none⟩ = some (.int .i64 ((rd_T31 l0 x70_2).f2.f2)) := (blk_cell BK12.out 4).trans rfl;have hcz73_5 : w68.cell? ⟨gb12, 5, none⟩ = some (.int .i64 ((rd_T31 l0 x70_2).f3.f0)) := (blk_cell BK12.out 5).trans rfl;have hcz73_6 : w68.cell? ⟨gb12, 6, none⟩ = some (.int .i64 ((rd_T31 l0 x70_2).f3.f1)) := (blk_cell BK12.out 6).trans rfl;have hcz73_7 : w68.cell? ⟨gb12, 7, none⟩ = some (.int .i64 ((rd_T31 l0 x70_2).f3.f2)) := (blk_cell BK12.out 7).trans rfl;have hcz73_8 : w68.cell? ⟨gb12, 8, none⟩ = some (.int .i64 ((rd_T31 l0 x70_2).f4.f0)) := (blk_cell BK12.out 8).trans rfl;have hcz73_9 : w68.cell? ⟨gb12, 9, none⟩ = some (.int .i64 ((rd_T31 l0 x70_2).f4.f1)) := (blk_cell BK12.out 9).trans rfl;have hcz73_10 : w68.cell? ⟨gb12, 10, none⟩ = some (.int .i64 ((rd_T31 l0 x70_2).f4.f2)) := (blk_cell BK12.out 10).trans rfl;have hcz73_11 : w68.cell? ⟨gb12, 11, none⟩ = some (.int .i64 ((rd_T31 l0 x70_2).f5)) := (blk_cell BK12.out 11).trans rfl;have hfz73_0 := blk_frozen BK12.out 0;have hfz73_1 := blk_frozen BK12.out 1;have hfz73_2 := blk_frozen BK12.out 2;have hfz73_3 := blk_frozen BK12.out 3;have hfz73_4 := blk_frozen BK12.out 4;have hfz73_5 := blk_frozen BK12.out 5;have hfz73_6 := blk_frozen BK12.out 6;have hfz73_7 := blk_frozen BK12.out 7;have hfz73_8 := blk_frozen BK12.out 8;have hfz73_9 := blk_frozen BK12.out 9;have hfz73_10 := blk_frozen BK12.out 10;have hfz73_11 := blk_frozen BK12.out 11;have hcz74_0 : w68.cell? ⟨gb13, 0, none⟩ = some (.string ((rd_T31 l0 x70_2).f0)) := (blk_cell BK13.out 0).trans rfl;have hcz74_1 : w68.cell? ⟨gb13, 1, none⟩ = some (.string ((rd_T31 l0 x70_2).f1)) := (blk_cell BK13.out 1).trans rfl;have hcz74_2 : w68.cell? ⟨gb13, 2, none⟩ = some (.int .i64 ((rd_T31 l0 x70_2).f2.f0)) := (blk_cell BK13.out 2).trans rfl;have hcz74_3 : w68.cell? ⟨gb13, 3, none⟩ = some (.int .i64 ((rd_T31 l0 x70_2).f2.f1)) := (blk_cell BK13.out 3).trans rfl;have hcz74_4 : w68.cell? ⟨gb13, 4, none⟩ = some (.int .i64 ((rd_T31 l0 x70_2).f2.f2)) := (blk_cell BK13.out 4).trans rfl;have hcz74_5 : w68.cell? ⟨gb13, 5, none⟩ = some (.int .i64 ((rd_T31 l0 x70_2).f3.f0)) := (blk_cell BK13.out 5).trans rfl;have hcz74_6 : w68.cell? ⟨gb13, 6, none⟩ = some (.int .i64 ((rd_T31 l0 x70_2).f3.f1)) := (blk_cell BK13.out 6).trans rfl;have hcz74_7 : w68.cell? ⟨gb13, 7, none⟩ = some (.int .i64 ((rd_T31 l0 x70_2).f3.f2)) := (blk_cell BK13.out 7).trans rfl;have hcz74_8 : w68.cell? ⟨gb13, 8, none⟩ = some (.int .i64 ((rd_T31 l0 x70_2).f4.f0)) := (blk_cell BK13.out 8).trans rfl;have hcz74_9 : w68.cell? ⟨gb13, 9, none⟩ = some (.int .i64 ((rd_T31 l0 x70_2).f4.f1)) := (blk_cell BK13.out 9).trans rfl;have hcz74_10 : w68.cell? ⟨gb13, 10, none⟩ = some (.int .i64 ((rd_T31 l0 x70_2).f4.f2)) := (blk_cell BK13.out 10).trans rfl;have hcz74_11 : w68.cell? ⟨gb13, 11, none⟩ = some (.int .i64 ((rd_T31 l0 x70_2).f5)) := (blk_cell BK13.out 11).trans rfl;have hcz74_12 : w68.cell? ⟨gb13, 12, none⟩ = some (u14012) := (blk_cell BK13.out 12).trans rfl;have hfz74_0 := blk_frozen BK13.out 0;have hfz74_1 := blk_frozen BK13.out 1;have hfz74_2 := blk_frozen BK13.out 2;have hfz74_3 := blk_frozen BK13.out 3;have hfz74_4 := blk_frozen BK13.out 4;have hfz74_5 := blk_frozen BK13.out 5;have hfz74_6 := blk_frozen BK13.out 6;have hfz74_7 := blk_frozen BK13.out 7;have hfz74_8 := blk_frozen BK13.out 8;have hfz74_9 := blk_frozen BK13.out 9;have hfz74_10 := blk_frozen BK13.out 10;have hfz74_11 := blk_frozen BK13.out 11;have hfz74_12 := blk_frozen BK13.out 12)|((with_reducible refine gate_builtin (b := .append) (xs := #[.tmp 88, .tmp 91]) rfl ?_);(try (refine gate_guard (by rfl) ?_;dsimp only));at_builtin;refine Kd.R_append k27 (w0 := w) w.heap.size rfl (.tmp 88) (.tmp 91) 157 27 (.agg #[(.int .i64 0), (.int .i64 0), (.int .i64 0)]) 24 rfl Try.underlying157 info27 rfl (by decide) (by omega) u14012 x14012_3 (⟨(rd_T31 l0 x78_3).f4.f0, (rd_T31 l0 x78_3).f4.f1, (rd_T31 l0 x78_3).f4.f2⟩ : S27) [.int .i64 ((rd_T31 l0 x78_3).f4.f0), .int .i64 ((rd_T31 l0 x78_3).f4.f1), .int .i64 ((rd_T31 l0 x78_3).f4.f2)] (fun _ => True) (fun _ => False) rfl (by first|(go_simp;done)|(go_simp;rfl)) ?aP (fun _ hk => hk.elim) ?aF ?aO ?aB ?aS ?aL ?_;(case aP => exact k27_mkM _ _ _ (⟨(rd_T31 l0 x78_3).f4.f0, (rd_T31 l0 x78_3).f4.f1, (rd_T31 l0 x78_3).f4.f2⟩ : S27));(case aB => exact (by repeat (first|(with_reducible first|exact HB.out|apply below_alloc|apply pw_below_drewN|apply below_drew1|refine below_set ?_ GE12.out|refine below_set ?_ GE13.out|refine below_set ?_ GE15.out)|exact HB.out)));(case aF => exact (fun _ _ => trivial));(case aO => exact (by (with_reducible repeat (first|apply Kd.R_alloc|apply Kd.R_drewN|apply Kd.R_drew));exact Kd.R_mono (Kd.R_far (p := ⟨gb15, 11, none⟩) (Kd.R_far (p := ⟨gb15, 10, none⟩) (Kd.R_far (p := ⟨gb15, 9, none⟩) (Kd.R_far (p := ⟨gb15, 8, none⟩) (Kd.R_far (p := ⟨gb15, 7, none⟩) (Kd.R_far (p := ⟨gb15, 6, none⟩) (Kd.R_far (p := ⟨gb15, 5, none⟩) (Kd.R_far (p := ⟨gb15, 4, none⟩) (Kd.R_far (p := ⟨gb15, 3, none⟩) (Kd.R_far (p := ⟨gb15, 2, none⟩) (Kd.R_far (p := ⟨gb15, 1, none⟩) (Kd.R_far (p := ⟨gb15, 0, none⟩) (Kd.R_types HO_14012.out BK15.out (by decide)) (fun _ hk => hk.2) (.string ((rd_T31 l0 x78_3).f0))) (fun _ hk => hk.2) (.string ((rd_T31 l0 x78_3).f1))) (fun _ hk => hk.2) (.int .i64 ((rd_T31 l0 x78_3).f2.f0))) (fun _ hk => hk.2) (.int .i64 ((rd_T31 l0 x78_3).f2.f1))) (fun _ hk => hk.2) (.int .i64 ((rd_T31 l0 x78_3).f2.f2))) (fun _ hk => hk.2) (.int .i64 ((rd_T31 l0 x78_3).f3.f0))) (fun _ hk => hk.2) (.int .i64 ((rd_T31 l0 x78_3).f3.f1))) (fun _ hk => hk.2) (.int .i64 ((rd_T31 l0 x78_3).f3.f2))) (fun _ hk => hk.2) (.int .i64 ((rd_T31 l0 x78_3).f4.f0))) (fun _ hk => hk.2) (.int .i64 ((rd_T31 l0 x78_3).f4.f1))) (fun _ hk => hk.2) (.int .i64 ((rd_T31 l0 x78_3).f4.f2))) (fun _ hk => hk.2) (.int .i64 ((rd_T31 l0 x78_3).f5))) (fun _ hk => trivial)));(case aS => exact (below_size (by repeat (first|(with_reducible first|exact HB.out|apply below_alloc|apply pw_below_drewN|apply below_drew1|refine below_set ?_ GE12.out|refine below_set ?_ GE13.out|refine below_set ?_ GE15.out)|exact HB.out))));(case aL => have := LMc67.out;omega);intro v17 w75 ho hb hg hat;rw [← Ny16.out] at ho;have n0_ := Aside0.mk (blk_grown (g := gb12) (o := .cells #[.string ((rd_T31 l0 x70_2).f0), .string ((rd_T31 l0 x70_2).f1), .int .i64 ((rd_T31 l0 x70_2).f2.f0), .int .i64 ((rd_T31 l0 x70_2).f2.f1), .int .i64 ((rd_T31 l0 x70_2).f2.f2), .int .i64 ((rd_T31 l0 x70_2).f3.f0), .int .i64 ((rd_T31 l0 x70_2).f3.f1), .int .i64 ((rd_T31 l0 x70_2).f3.f2), .int .i64 ((rd_T31 l0 x70_2).f4.f0), .int .i64 ((rd_T31 l0 x70_2).f4.f1), .int .i64 ((rd_T31 l0 x70_2).f4.f2), .int .i64 ((rd_T31 l0 x70_2).f5)] 31 (0, 0)) (by (with_reducible repeat (first|refine blk_drewN ?_ _|refine blk_drew ?_|refine blk_alloc ?_ _));refine blk_far ?_ NB12_15.out _;(with_reducible repeat (first|refine blk_drewN ?_ _|refine blk_drew ?_|refine blk_alloc ?_ _));refine blk_far ?_ NB12_15.out _;(with_reducible repeat (first|refine blk_drewN ?_ _|refine blk_drew ?_|refine blk_alloc ?_ _));refine blk_far ?_ NB12_15.out _;(with_reducible repeat (first|refine blk_drewN ?_ _|refine blk_drew ?_|refine blk_alloc ?_ _));refine blk_far ?_ NB12_15.out _;(with_reducible repeat (first|refine blk_drewN ?_ _|refine blk_drew ?_|refine blk_alloc ?_ _));refine blk_far ?_ NB12_15.out _;(with_reducible repeat (first|refine blk_drewN ?_ _|refine blk_drew ?_|refine blk_alloc ?_ _));refine blk_far ?_ NB12_15.out _;(with_reducible repeat (first|refine blk_drewN ?_ _|refine blk_drew ?_|refine blk_alloc ?_ _));refine blk_far ?_ NB12_15.out _;(with_reducible repeat (first|refine blk_drewN ?_ _|refine blk_drew ?_|refine blk_alloc ?_ _));refine blk_far ?_ NB12_15.out _;(with_reducible repeat (first|refine blk_drewN ?_ _|refine blk_drew ?_|refine blk_alloc ?_ _));refine blk_far ?_ NB12_15.out _;(with_reducible repeat (first|refine blk_drewN ?_ _|refine blk_drew ?_|refine blk_alloc ?_ _));refine blk_far ?_ NB12_15.out _;(with_reducible repeat (first|refine blk_drewN ?_ _|refine blk_drew ?_|refine blk_alloc ?_ _));refine blk_far ?_ NB12_15.out _;(with_reducible repeat (first|refine blk_drewN ?_ _|refine blk_drew ?_|refine blk_alloc ?_ _));refine blk_far ?_ NB12_15.out _;(with_reducible repeat (first|refine blk_drewN ?_ _|refine blk_drew ?_|refine blk_alloc ?_ _));exact BK12.out) hg (Kd.R_ne HO_14012.out BK12.out (by decide)));have n1_ := Aside0.mk (blk_grown (g := gb13) (o := .cells #[.string ((rd_T31 l0 x70_2).f0), .string ((rd_T31 l0 x70_2).f1), .int .i64 ((rd_T31 l0 x70_2).f2.f0), .int .i64 ((rd_T31 l0 x70_2).f2.f1), .int .i64 ((rd_T31 l0 x70_2).f2.f2), .int .i64 ((rd_T31 l0 x70_2).f3.f0), .int .i64 ((rd_T31 l0 x70_2).f3.f1), .int .i64 ((rd_T31 l0 x70_2).f3.f2), .int .i64 ((rd_T31 l0 x70_2).f4.f0), .int .i64 ((rd_T31 l0 x70_2).f4.f1), .int .i64 ((rd_T31 l0 x70_2).f4.f2), .int .i64 ((rd_T31 l0 x70_2).f5), u14012] 159 (0, 0)) (by (with_reducible repeat (first|refine blk_drewN ?_ _|refine blk_drew ?_|refine blk_alloc ?_ _));refine blk_far ?_ NB13_15.out _;(with_reducible repeat (first|refine blk_drewN ?_ _|refine blk_drew ?_|refine blk_alloc ?_ _));refine blk_far ?_ NB13_15.out _;(with_reducible repeat (first|refine blk_drewN ?_ _|refine blk_drew ?_|refine blk_alloc ?_ _));refine blk_far ?_ NB13_15.out _;(with_reducible repeat (first|refine blk_drewN ?_ _|refine blk_drew ?_|refine blk_alloc ?_ _));refine blk_far ?_ NB13_15.out _;(with_reducible repeat (first|refine blk_drewN ?_ _|refine blk_drew ?_|refine blk_alloc ?_ _));refine blk_far ?_ NB13_15.out _;(with_reducible repeat (first|refine blk_drewN ?_ _|refine blk_drew ?_|refine blk_alloc ?_ _));refine blk_far ?_ NB13_15.out _;(with_reducible repeat (first|refine blk_drewN ?_ _|refine blk_drew ?_|refine blk_alloc ?_ _));refine blk_far ?_ NB13_15.out _;(with_reducible repeat (first|refine blk_drewN ?_ _|refine blk_drew ?_|refine blk_alloc ?_ _));refine blk_far ?_ NB13_15.out _;(with_reducible repeat (first|refine blk_drewN ?_ _|refine blk_drew ?_|refine blk_alloc ?_ _));refine blk_far ?_ NB13_15.out _;(with_reducible repeat (first|refine blk_drewN ?_ _|refine blk_drew ?_|refine blk_alloc ?_ _));refine blk_far ?_ NB13_15.out _;(with_reducible repeat (first|refine blk_drewN ?_ _|refine blk_drew ?_|refine blk_alloc ?_ _));refine blk_far ?_ NB13_15.out _;(with_reducible repeat (first|refine blk_drewN ?_ _|refine blk_drew ?_|refine blk_alloc ?_ _));refine blk_far ?_ NB13_15.out _;(with_reducible repeat (first|refine blk_drewN ?_ _|refine blk_drew ?_|refine blk_alloc ?_ _));exact BK13.out) hg (Kd.R_ne HO_14012.out BK13.out (by decide)));have n2_ := Aside0.mk (blk_grown (g := gb15) (o := .cells #[.string ((rd_T31 l0 x78_3).f0), .string ((rd_T31 l0 x78_3).f1), .int .i64 ((rd_T31 l0 x78_3).f2.f0), .int .i64 ((rd_T31 l0 x78_3).f2.f1), .int .i64 ((rd_T31 l0 x78_3).f2.f2), .int .i64 ((rd_T31 l0 x78_3).f3.f0), .int .i64 ((rd_T31 l0 x78_3).f3.f1), .int .i64 ((rd_T31 l0 x78_3).f3.f2), .int .i64 ((rd_T31 l0 x78_3).f4.f0), .int .i64 ((rd_T31 l0 x78_3).f4.f1), .int .i64 ((rd_T31 l0 x78_3).f4.f2), .int .i64 ((rd_T31 l0 x78_3).f5)] 31 (0, 0)) (by (with_reducible repeat (first|refine blk_drewN ?_ _|refine blk_drew ?_|refine blk_alloc ?_ _));refine blk_put (cs := #[.string ((rd_T31 l0 x78_3).f0), .string ((rd_T31 l0 x78_3).f1), .int .i64 ((rd_T31 l0 x78_3).f2.f0), .int .i64 ((rd_T31 l0 x78_3).f2.f1), .int .i64 ((rd_T31 l0 x78_3).f2.f2), .int .i64 ((rd_T31 l0 x78_3).f3.f0), .int .i64 ((rd_T31 l0 x78_3).f3.f1), .int .i64 ((rd_T31 l0 x78_3).f3.f2), .int .i64 ((rd_T31 l0 x78_3).f4.f0), .int .i64 ((rd_T31 l0 x78_3).f4.f1), .int .i64 ((rd_T31 l0 x78_3).f4.f2), .int .i64 0]) ?_ 11 _ rfl;(with_reducible repeat (first|refine blk_drewN ?_ _|refine blk_drew ?_|refine blk_alloc ?_ _));refine blk_put (cs := #[.string ((rd_T31 l0 x78_3).f0), .string ((rd_T31 l0 x78_3).f1), .int .i64 ((rd_T31 l0 x78_3).f2.f0), .int .i64 ((rd_T31 l0 x78_3).f2.f1), .int .i64 ((rd_T31 l0 x78_3).f2.f2), .int .i64 ((rd_T31 l0 x78_3).f3.f0), .int .i64 ((rd_T31 l0 x78_3).f3.f1), .int .i64 ((rd_T31 l0 x78_3).f3.f2), .int .i64 ((rd_T31 l0 x78_3).f4.f0), .int .i64 ((rd_T31 l0 x78_3).f4.f1), .int .i64 0, .int .i64 0]) ?_ 10 _ rfl;(with_reducible repeat (first|refine blk_drewN ?_ _|refine blk_drew ?_|refine blk_alloc ?_ _));refine blk_put (cs := #[.string ((rd_T31 l0 x78_3).f0), .string ((rd_T31 l0 x78_3).f1), .int .i64 ((rd_T31 l0 x78_3).f2.f0), .int .i64 ((rd_T31 l0 x78_3).f2.f1), .int .i64 ((rd_T31 l0 x78_3).f2.f2), .int .i64 ((rd_T31 l0 x78_3).f3.f0), .int .i64 ((rd_T31 l0 x78_3).f3.f1), .int .i64 ((rd_T31 l0 x78_3).f3.f2), .int .i64 ((rd_T31 l0 x78_3).f4.f0), .int .i64 0, .int .i64 0, .int .i64 0]) ?_ 9 _ rfl;(with_reducible repeat (first|refine blk_drewN ?_ _|refine blk_drew ?_|refine blk_alloc ?_ _));refine blk_put (cs := #[.string ((rd_T31 l0 x78_3).f0), .string ((rd_T31 l0 x78_3).f1), .int .i64 ((rd_T31 l0 x78_3).f2.f0), .int .i64 ((rd_T31 l0 x78_3).f2.f1), .int .i64 ((rd_T31 l0 x78_3).f2.f2), .int .i64 ((rd_T31 l0 x78_3).f3.f0), .int .i64 ((rd_T31 l0 x78_3).f3.f1), .int .i64 ((rd_T31 l0 x78_3).f3.f2), .int .i64 0, .int .i64 0, .int .i64 0, .int .i64 0]) ?_ 8 _ rfl;(with_reducible repeat (first|refine blk_drewN ?_ _|refine blk_drew ?_|refine blk_alloc ?_ _));refine blk_put (cs := #[.string ((rd_T31 l0 x78_3).f0), .string ((rd_T31 l0 x78_3).f1), .int .i64 ((rd_T31 l0 x78_3).f2.f0), .int .i64 ((rd_T31 l0 x78_3).f2.f1), .int .i64 ((rd_T31 l0 x78_3).f2.f2), .int .i64 ((rd_T31 l0 x78_3).f3.f0), .int .i64 ((rd_T31 l0 x78_3).f3.f1), .int .i64 0, .int .i64 0, .int .i64 0, .int .i64 0, .int .i64 0]) ?_ 7 _ rfl;(with_reducible repeat (first|refine blk_drewN ?_ _|refine blk_drew ?_|refine blk_alloc ?_ _));refine blk_put (cs := #[.string ((rd_T31 l0 x78_3).f0), .string ((rd_T31 l0 x78_3).f1), .int .i64 ((rd_T31 l0 x78_3).f2.f0), .int .i64 ((rd_T31 l0 x78_3).f2.f1), .int .i64 ((rd_T31 l0 x78_3).f2.f2), .int .i64 ((rd_T31 l0 x78_3).f3.f0), .int .i64 0, .int .i64 0, .int .i64 0, .int .i64 0, .int .i64 0, .int .i64 0]) ?_ 6 _ rfl;(with_reducible repeat (first|refine blk_drewN ?_ _|refine blk_drew ?_|refine blk_alloc ?_ _));refine blk_put (cs := #[.string ((rd_T31 l0 x78_3).f0), .string ((rd_T31 l0 x78_3).f1), .int .i64 ((rd_T31 l0 x78_3).f2.f0), .int .i64 ((rd_T31 l0 x78_3).f2.f1), .int .i64 ((rd_T31 l0 x78_3).f2.f2), .int .i64 0, .int .i64 0, .int .i64 0, .int .i64 0, .int .i64 0, .int .i64 0, .int .i64 0]) ?_ 5 _ rfl;(with_reducible repeat (first|refine blk_drewN ?_ _|refine blk_drew ?_|refine blk_alloc ?_ _));refine blk_put (cs := #[.string ((rd_T31 l0 x78_3).f0), .string ((rd_T31 l0 x78_3).f1), .int .i64 ((rd_T31 l0 x78_3).f2.f0), .int .i64 ((rd_T31 l0 x78_3).f2.f1), .int .i64 0, .int .i64 0, .int .i64 0, .int .i64 0, .int .i64 0, .int .i64 0, .int .i64 0, .int .i64 0]) ?_ 4 _ rfl;(with_reducible repeat (first|refine blk_drewN ?_ _|refine blk_drew ?_|refine blk_alloc ?_ _));refine blk_put (cs := #[.string ((rd_T31 l0 x78_3).f0), .string ((rd_T31 l0 x78_3).f1), .int .i64 ((rd_T31 l0 x78_3).f2.f0), .int .i64 0, .int .i64 0, .int .i64 0, .int .i64 0, .int .i64 0, .int .i64 0, .int .i64 0, .int .i64 0, .int .i64 0]) ?_ 3 _ rfl;(with_reducible repeat (first|refine blk_drewN ?_ _|refine blk_drew ?_|refine blk_alloc ?_ _));refine blk_put (cs := #[.string ((rd_T31 l0 x78_3).f0), .string ((rd_T31 l0 x78_3).f1), .int .i64 0, .int .i64 0, .int .i64 0, .int .i64 0, .int .i64 0, .int .i64 0, .int .i64 0, .int .i64 0, .int .i64 0, .int .i64 0]) ?_ 2 _ rfl;(with_reducible repeat (first|refine blk_drewN ?_ _|refine blk_drew ?_|refine blk_alloc ?_ _));refine blk_put (cs := #[.string ((rd_T31 l0 x78_3).f0), .string (⟨#[]⟩ : ByteArray), .int .i64 0, .int .i64 0, .int .i64 0, .int .i64 0, .int .i64 0, .int .i64 0, .int .i64 0, .int .i64 0, .int .i64 0, .int .i64 0]) ?_ 1 _ rfl;(with_reducible repeat (first|refine blk_drewN ?_ _|refine blk_drew ?_|refine blk_alloc ?_ _));refine blk_put (cs := #[.string (⟨#[]⟩ : ByteArray), .string (⟨#[]⟩ : ByteArray), .int .i64 0, .int .i64 0, .int .i64 0, .int .i64 0, .int .i64 0, .int .i64 0, .int .i64 0, .int .i64 0, .int .i64 0, .int .i64 0]) ?_ 0 _ rfl;(with_reducible repeat (first|refine blk_drewN ?_ _|refine blk_drew ?_|refine blk_alloc ?_ _));exact BK15.out) hg (Kd.R_ne HO_14012.out BK15.out (by decide)));have n3_ := Aside0.mk (hb);have n4_ := Aside0.mk (ho);clear BK12;clear BK13;clear BK15;clear HB;clear HO_14012;have BK12 := n0_;have BK13 := n1_;have BK15 := n2_;have HB := n3_;have HO18 := n4_;clear n0_ n1_ n2_ n3_ n4_;clear ho hb hg hat;obtain ⟨Ao76, co76, eo76⟩ := Kd.R_slice HO18.out;subst eo76;have hcz77_0 : w75.cell? ⟨gb13, 0, none⟩ = some (.string ((rd_T31 l0 x70_2).f0)) := (blk_cell BK13.out 0).trans rfl;have hcz77_1 : w75.cell? ⟨gb13, 1, none⟩ = some (.string ((rd_T31 l0 x70_2).f1)) := (blk_cell BK13.out 1).trans rfl;have hcz77_2 : w75.cell? ⟨gb13, 2, none⟩ = some (.int .i64 ((rd_T31 l0 x70_2).f2.f0)) := (blk_cell BK13.out 2).trans rfl;have hcz77_3 : w75.cell? ⟨gb13, 3, none⟩ = some (.int .i64 ((rd_T31 l0 x70_2).f2.f1)) := (blk_cell BK13.out 3).trans rfl;have hcz77_4 : w75.cell? ⟨gb13, 4, none⟩ = some (.int .i64 ((rd_T31 l0 x70_2).f2.f2)) := (blk_cell BK13.out 4).trans rfl;have hcz77_5 : w75.cell? ⟨gb13, 5, none⟩ = some (.int .i64 ((rd_T31 l0 x70_2).f3.f0)) := (blk_cell BK13.out 5).trans rfl;have hcz77_6 : w75.cell? ⟨gb13, 6, none⟩ = some (.int .i64 ((rd_T31 l0 x70_2).f3.f1)) := (blk_cell BK13.out 6).trans rfl;have hcz77_7 : w75.cell? ⟨gb13, 7, none⟩ = some (.int .i64 ((rd_T31 l0 x70_2).f3.f2)) := (blk_cell BK13.out 7).trans rfl;have hcz77_8 : w75.cell? ⟨gb13, 8, none⟩ = some (.int .i64 ((rd_T31 l0 x70_2).f4.f0)) := (blk_cell BK13.out 8).trans rfl;have hcz77_9 : w75.cell? ⟨gb13, 9, none⟩ = some (.int .i64 ((rd_T31 l0 x70_2).f4.f1)) := (blk_cell BK13.out 9).trans rfl;have hcz77_10 : w75.cell? ⟨gb13, 10, none⟩ = some (.int .i64 ((rd_T31 l0 x70_2).f4.f2)) := (blk_cell BK13.out 10).trans rfl;have hcz77_11 : w75.cell? ⟨gb13, 11, none⟩ = some (.int .i64 ((rd_T31 l0 x70_2).f5)) := (blk_cell BK13.out 11).trans rfl;have hcz77_12 : w75.cell? ⟨gb13, 12, none⟩ = some (u14012) := (blk_cell BK13.out 12).trans rfl;have hfz77_0 := blk_frozen BK13.out 0;have hfz77_1 := blk_frozen BK13.out 1;have hfz77_2 := blk_frozen BK13.out 2;have hfz77_3 := blk_frozen BK13.out 3;have hfz77_4 := blk_frozen BK13.out 4;have hfz77_5 := blk_frozen BK13.out 5;have hfz77_6 := blk_frozen BK13.out 6;have hfz77_7 := blk_frozen BK13.out 7;have hfz77_8 := blk_frozen BK13.out 8;have hfz77_9 := blk_frozen BK13.out 9;have hfz77_10 := blk_frozen BK13.out 10;have hfz77_11 := blk_frozen BK13.out 11;have hfz77_12 := blk_frozen BK13.out 12))
                 go_roundg k3
                 case measure => have := HK1.out; have := HK2.out; have := HK3.out; omega
                 case rel => exact ⟨(wrap64 (x78_3 + 1)), (y16), (.slice Ao76 y16.length co76), (by first|rfl|(simp;done)|(simp [*];done)), H', ⟨by have := HK1.out;have := HK2.out;have := HK3.out;omega⟩, ⟨by (with_reducible repeat (first|apply Kd.R_alloc|apply Kd.R_drewN|apply Kd.R_drew));exact Kd.R_mono (Kd.R_far (p := ⟨gb13, 12, none⟩) (Kd.R_types HO18.out BK13.out (by decide)) (fun _ hk => hk.2) (.slice Ao76 y16.length co76)) (fun _ hk => trivial)⟩, ⟨by (with_reducible repeat (first|refine blk_drewN ?_ _|refine blk_drew ?_|refine blk_alloc ?_ _));refine blk_far ?_ NB12_13.out _;(with_reducible repeat (first|refine blk_drewN ?_ _|refine blk_drew ?_|refine blk_alloc ?_ _));exact BK12.out⟩, ⟨by (with_reducible repeat (first|refine blk_drewN ?_ _|refine blk_drew ?_|refine blk_alloc ?_ _));refine blk_put (cs := #[.string ((rd_T31 l0 x70_2).f0), .string ((rd_T31 l0 x70_2).f1), .int .i64 ((rd_T31 l0 x70_2).f2.f0), .int .i64 ((rd_T31 l0 x70_2).f2.f1), .int .i64 ((rd_T31 l0 x70_2).f2.f2), .int .i64 ((rd_T31 l0 x70_2).f3.f0), .int .i64 ((rd_T31 l0 x70_2).f3.f1), .int .i64 ((rd_T31 l0 x70_2).f3.f2), .int .i64 ((rd_T31 l0 x70_2).f4.f0), .int .i64 ((rd_T31 l0 x70_2).f4.f1), .int .i64 ((rd_T31 l0 x70_2).f4.f2), .int .i64 ((rd_T31 l0 x70_2).f5), u14012]) ?_ 12 _ rfl;(with_reducible repeat (first|refine blk_drewN ?_ _|refine blk_drew ?_|refine blk_alloc ?_ _));exact BK13.out⟩, ⟨by repeat (first|(with_reducible first|exact HB.out|apply below_alloc|apply pw_below_drewN|apply below_drew1|refine below_set ?_ GE12.out|refine below_set ?_ GE13.out|refine below_set ?_ GE15.out)|exact HB.out)⟩⟩
                ·rw [if_neg c67] at H
                 exact absurd H (by simp)
               ·rw [if_neg c66] at H
                have c66b0 : (((rd_T31 l0 x78_3).f1).toList == ((rd_T31 l0 x70_2).f0).toList) = false := beq_eq_false_iff_ne.mpr c66
                have c66b1 : (((rd_T31 l0 x78_3).f1).toList != ((rd_T31 l0 x70_2).f0).toList) = true := bne_iff_ne.mpr c66
                have H' := Aside0.mk H
                clear H
                have p14 : 0 ≤ (x78_3 : Int) := of_decide_eq_true (by first|(with_reducible assumption)|assumption)
                have q14 : x78_3 < (l0.length : Int) := of_decide_eq_true (by first|(with_reducible assumption)|assumption)
                obtain ⟨ad14, e14, hx14_0, hx14_1, hx14_2, hx14_3, hx14_4, hx14_5, hx14_6, hx14_7, hx14_8, hx14_9, hx14_10, hx14_11⟩ := at_T31 HR0.out x78_3 p14 q14
                obtain rfl : ad11 = ad14 := (by injection e14)
                replace hx14_0 := (HB.out.cell (World.block_lt_of_cell? w _ hx14_0)).trans hx14_0
                replace hx14_1 := (HB.out.cell (World.block_lt_of_cell? w _ hx14_1)).trans hx14_1
                replace hx14_2 := (HB.out.cell (World.block_lt_of_cell? w _ hx14_2)).trans hx14_2
                replace hx14_3 := (HB.out.cell (World.block_lt_of_cell? w _ hx14_3)).trans hx14_3
                replace hx14_4 := (HB.out.cell (World.block_lt_of_cell? w _ hx14_4)).trans hx14_4
                replace hx14_5 := (HB.out.cell (World.block_lt_of_cell? w _ hx14_5)).trans hx14_5
                replace hx14_6 := (HB.out.cell (World.block_lt_of_cell? w _ hx14_6)).trans hx14_6
                replace hx14_7 := (HB.out.cell (World.block_lt_of_cell? w _ hx14_7)).trans hx14_7
                replace hx14_8 := (HB.out.cell (World.block_lt_of_cell? w _ hx14_8)).trans hx14_8
                replace hx14_9 := (HB.out.cell (World.block_lt_of_cell? w _ hx14_9)).trans hx14_9
                replace hx14_10 := (HB.out.cell (World.block_lt_of_cell? w _ hx14_10)).trans hx14_10
                replace hx14_11 := (HB.out.cell (World.block_lt_of_cell? w _ hx14_11)).trans hx14_11
                replace p14 := eq_true p14
                replace q14 := eq_true q14
                go_wp2_with (first|((with_reducible refine gate_dst (N := 10) rfl ?_);(try (refine gate_guard (by rfl) ?_;dsimp only));refine box_event ?hg (N := 10) ?hd (cs := #[.string (⟨#[]⟩ : ByteArray), .string (⟨#[]⟩ : ByteArray), .int .i64 0, .int .i64 0, .int .i64 0, .int .i64 0, .int .i64 0, .int .i64 0, .int .i64 0, .int .i64 0, .int .i64 0, .int .i64 0]) (t := 31) ?hr ?_;(case hd => rfl);(case hg => rfl);(case hr => first|(go_simp;done)|(go_simp;rfl));intro gb15 hg w78 hbox hb;have n0_ := Aside0.mk (Kd.R_below (by (with_reducible repeat (first|apply Kd.R_alloc|apply Kd.R_drewN|apply Kd.R_drew));exact HO_14012.out) hb);have n1_ := Aside0.mk (blk_below (g := gb12) (o := .cells #[.string ((rd_T31 l0 x70_2).f0), .string ((rd_T31 l0 x70_2).f1), .int .i64 ((rd_T31 l0 x70_2).f2.f0), .int .i64 ((rd_T31 l0 x70_2).f2.f1), .int .i64 ((rd_T31 l0 x70_2).f2.f2), .int .i64 ((rd_T31 l0 x70_2).f3.f0), .int .i64 ((rd_T31 l0 x70_2).f3.f1), .int .i64 ((rd_T31 l0 x70_2).f3.f2), .int .i64 ((rd_T31 l0 x70_2).f4.f0), .int .i64 ((rd_T31 l0 x70_2).f4.f1), .int .i64 ((rd_T31 l0 x70_2).f4.f2), .int .i64 ((rd_T31 l0 x70_2).f5)] 31 (0, 0)) (by (with_reducible repeat (first|refine blk_drewN ?_ _|refine blk_drew ?_|refine blk_alloc ?_ _));exact BK12.out) hb);have n2_ := Aside0.mk (blk_below (g := gb13) (o := .cells #[.string ((rd_T31 l0 x70_2).f0), .string ((rd_T31 l0 x70_2).f1), .int .i64 ((rd_T31 l0 x70_2).f2.f0), .int .i64 ((rd_T31 l0 x70_2).f2.f1), .int .i64 ((rd_T31 l0 x70_2).f2.f2), .int .i64 ((rd_T31 l0 x70_2).f3.f0), .int .i64 ((rd_T31 l0 x70_2).f3.f1), .int .i64 ((rd_T31 l0 x70_2).f3.f2), .int .i64 ((rd_T31 l0 x70_2).f4.f0), .int .i64 ((rd_T31 l0 x70_2).f4.f1), .int .i64 ((rd_T31 l0 x70_2).f4.f2), .int .i64 ((rd_T31 l0 x70_2).f5), u14012] 159 (0, 0)) (by (with_reducible repeat (first|refine blk_drewN ?_ _|refine blk_drew ?_|refine blk_alloc ?_ _));exact BK13.out) hb);have n3_ := Aside0.mk (below_step (by repeat (first|(with_reducible first|exact HB.out|apply below_alloc|apply pw_below_drewN|apply below_drew1|refine below_set ?_ GE12.out|refine below_set ?_ GE13.out)|exact HB.out)) hb);have n4_ := Aside0.mk (hbox);have n5_ := Aside0.mk ((by rw [hg];exact (below_size (by repeat (first|(with_reducible first|exact HB.out|apply below_alloc|apply pw_below_drewN|apply below_drew1|refine below_set ?_ GE12.out|refine below_set ?_ GE13.out)|exact HB.out))) : w.heap.size ≤ gb15));have n6_ := Aside0.mk ((by rw [hg];exact (below_size (by repeat (first|(with_reducible first|exact HB.out|apply below_alloc|apply pw_below_drewN|apply below_drew1|refine below_set ?_ GE12.out|refine below_set ?_ GE13.out)|exact HB.out))) : w.heap.size ≤ gb15));have n7_ := Aside0.mk ((by rw [hg];exact Nat.ne_of_lt (blk_lt (g := gb12) (o := .cells #[.string ((rd_T31 l0 x70_2).f0), .string ((rd_T31 l0 x70_2).f1), .int .i64 ((rd_T31 l0 x70_2).f2.f0), .int .i64 ((rd_T31 l0 x70_2).f2.f1), .int .i64 ((rd_T31 l0 x70_2).f2.f2), .int .i64 ((rd_T31 l0 x70_2).f3.f0), .int .i64 ((rd_T31 l0 x70_2).f3.f1), .int .i64 ((rd_T31 l0 x70_2).f3.f2), .int .i64 ((rd_T31 l0 x70_2).f4.f0), .int .i64 ((rd_T31 l0 x70_2).f4.f1), .int .i64 ((rd_T31 l0 x70_2).f4.f2), .int .i64 ((rd_T31 l0 x70_2).f5)] 31 (0, 0)) (by (with_reducible repeat (first|refine blk_drewN ?_ _|refine blk_drew ?_|refine blk_alloc ?_ _));exact BK12.out)) : gb12 ≠ gb15));have n8_ := Aside0.mk ((by rw [hg];exact Nat.ne_of_gt (blk_lt (g := gb12) (o := .cells #[.string ((rd_T31 l0 x70_2).f0), .string ((rd_T31 l0 x70_2).f1), .int .i64 ((rd_T31 l0 x70_2).f2.f0), .int .i64 ((rd_T31 l0 x70_2).f2.f1), .int .i64 ((rd_T31 l0 x70_2).f2.f2), .int .i64 ((rd_T31 l0 x70_2).f3.f0), .int .i64 ((rd_T31 l0 x70_2).f3.f1), .int .i64 ((rd_T31 l0 x70_2).f3.f2), .int .i64 ((rd_T31 l0 x70_2).f4.f0), .int .i64 ((rd_T31 l0 x70_2).f4.f1), .int .i64 ((rd_T31 l0 x70_2).f4.f2), .int .i64 ((rd_T31 l0 x70_2).f5)] 31 (0, 0)) (by (with_reducible repeat (first|refine blk_drewN ?_ _|refine blk_drew ?_|refine blk_alloc ?_ _));exact BK12.out)) : gb15 ≠ gb12));have n9_ := Aside0.mk ((by rw [hg];exact Nat.ne_of_lt (blk_lt (g := gb13) (o := .cells #[.string ((rd_T31 l0 x70_2).f0), .string ((rd_T31 l0 x70_2).f1), .int .i64 ((rd_T31 l0 x70_2).f2.f0), .int .i64 ((rd_T31 l0 x70_2).f2.f1), .int .i64 ((rd_T31 l0 x70_2).f2.f2), .int .i64 ((rd_T31 l0 x70_2).f3.f0), .int .i64 ((rd_T31 l0 x70_2).f3.f1), .int .i64 ((rd_T31 l0 x70_2).f3.f2), .int .i64 ((rd_T31 l0 x70_2).f4.f0), .int .i64 ((rd_T31 l0 x70_2).f4.f1), .int .i64 ((rd_T31 l0 x70_2).f4.f2), .int .i64 ((rd_T31 l0 x70_2).f5), u14012] 159 (0, 0)) (by (with_reducible repeat (first|refine blk_drewN ?_ _|refine blk_drew ?_|refine blk_alloc ?_ _));exact BK13.out)) : gb13 ≠ gb15));have n10_ := Aside0.mk ((by rw [hg];exact Nat.ne_of_gt (blk_lt (g := gb13) (o := .cells #[.string ((rd_T31 l0 x70_2).f0), .string ((rd_T31 l0 x70_2).f1), .int .i64 ((rd_T31 l0 x70_2).f2.f0), .int .i64 ((rd_T31 l0 x70_2).f2.f1), .int .i64 ((rd_T31 l0 x70_2).f2.f2), .int .i64 ((rd_T31 l0 x70_2).f3.f0), .int .i64 ((rd_T31 l0 x70_2).f3.f1), .int .i64 ((rd_T31 l0 x70_2).f3.f2), .int .i64 ((rd_T31 l0 x70_2).f4.f0), .int .i64 ((rd_T31 l0 x70_2).f4.f1), .int .i64 ((rd_T31 l0 x70_2).f4.f2), .int .i64 ((rd_T31 l0 x70_2).f5), u14012] 159 (0, 0)) (by (with_reducible repeat (first|refine blk_drewN ?_ _|refine blk_drew ?_|refine blk_alloc ?_ _));exact BK13.out)) : gb15 ≠ gb13));clear HO_14012;clear BK12;clear BK13;clear HB;have HO_14012 := n0_;have BK12 := n1_;have BK13 := n2_;have HB := n3_;have BK15 := n4_;have GW15 := n5_;have GE15 := n6_;have NB12_15 := n7_;have NB15_12 := n8_;have NB13_15 := n9_;have NB15_13 := n10_;clear n0_ n1_ n2_ n3_ n4_ n5_ n6_ n7_ n8_ n9_ n10_;clear hb hbox hg;have hnb79 := NB15_12.out;have hnc79 := NB12_15.out;have hnb80 := NB15_13.out;have hnc80 := NB13_15.out;have hcz81_0 : w78.cell? ⟨gb15, 0, none⟩ = some (.string (⟨#[]⟩ : ByteArray)) := (blk_cell BK15.out 0).trans rfl;have hcz81_1 : w78.cell? ⟨gb15, 1, none⟩ = some (.string (⟨#[]⟩ : ByteArray)) := (blk_cell BK15.out 1).trans rfl;have hcz81_2 : w78.cell? ⟨gb15, 2, none⟩ = some (.int .i64 0) := (blk_cell BK15.out 2).trans rfl;have hcz81_3 : w78.cell? ⟨gb15, 3, none⟩ = some (.int .i64 0) := (blk_cell BK15.out 3).trans rfl;have hcz81_4 : w78.cell? ⟨gb15, 4, none⟩ = some (.int .i64 0) := (blk_cell BK15.out 4).trans rfl;have hcz81_5 : w78.cell? ⟨gb15, 5, none⟩ = some (.int .i64 0) := (blk_cell BK15.out 5).trans rfl;have hcz81_6 : w78.cell? ⟨gb15, 6, none⟩ = some (.int .i64 0) := (blk_cell BK15.out 6).trans rfl;have hcz81_7 : w78.cell? ⟨gb15, 7, none⟩ = some (.int .i64 0) := (blk_cell BK15.out 7).trans rfl;have hcz81_8 : w78.cell? ⟨gb15, 8, none⟩ = some (.int .i64 0) := (blk_cell BK15.out 8).trans rfl;have hcz81_9 : w78.cell? ⟨gb15, 9, none⟩ = some (.int .i64 0) := (blk_cell BK15.out 9).trans rfl;have hcz81_10 : w78.cell? ⟨gb15, 10, none⟩ = some (.int .i64 0) := (blk_cell BK15.out 10).trans rfl;have hcz81_11 : w78.cell? ⟨gb15, 11, none⟩ = some (.int .i64 0) := (blk_cell BK15.out 11).trans rfl;have hfz81_0 := blk_frozen BK15.out 0;have hfz81_1 := blk_frozen BK15.out 1;have hfz81_2 := blk_frozen BK15.out 2;have hfz81_3 := blk_frozen BK15.out 3;have hfz81_4 := blk_frozen BK15.out 4;have hfz81_5 := blk_frozen BK15.out 5;have hfz81_6 := blk_frozen BK15.out 6;have hfz81_7 := blk_frozen BK15.out 7;have hfz81_8 := blk_frozen BK15.out 8;have hfz81_9 := blk_frozen BK15.out 9;have hfz81_10 := blk_frozen BK15.out 10;have hfz81_11 := blk_frozen BK15.out 11;have hnb82 := NB12_13.out;have hnc82 := NB13_12.out;have hcz83_0 : w78.cell? ⟨gb12, 0, none⟩ = some (.string ((rd_T31 l0 x70_2).f0)) := (blk_cell BK12.out 0).trans rfl;have hcz83_1 : w78.cell? ⟨gb12, 1, none⟩ = some (.string ((rd_T31 l0 x70_2).f1)) := (blk_cell BK12.out 1).trans rfl;have hcz83_2 : w78.cell? ⟨gb12, 2, none⟩ = some (.int .i64 ((rd_T31 l0 x70_2).f2.f0)) := (blk_cell BK12.out 2).trans rfl;have hcz83_3 : w78.cell? ⟨gb12, 3, none⟩ = some (.int .i64 ((rd_T31 l0 x70_2).f2.f1)) := (blk_cell BK12.out 3).trans rfl;have hcz83_4 : w78.cell? ⟨gb12, 4, none⟩ = some (.int .i64 ((rd_T31 l0 x70_2).f2.f2)) := (blk_cell BK12.out 4).trans rfl;have hcz83_5 : w78.cell? ⟨gb12, 5, none⟩ = some (.int .i64 ((rd_T31 l0 x70_2).f3.f0)) := (blk_cell BK12.out 5).trans rfl;have hcz83_6 : w78.cell? ⟨gb12, 6, none⟩ = some (.int .i64 ((rd_T31 l0 x70_2).f3.f1)) := (blk_cell BK12.out 6).trans rfl;have hcz83_7 : w78.cell? ⟨gb12, 7, none⟩ = some (.int .i64 ((rd_T31 l0 x70_2).f3.f2)) := (blk_cell BK12.out 7).trans rfl;have hcz83_8 : w78.cell? ⟨gb12, 8, none⟩ = some (.int .i64 ((rd_T31 l0 x70_2).f4.f0)) := (blk_cell BK12.out 8).trans rfl;have hcz83_9 : w78.cell? ⟨gb12, 9, none⟩ = some (.int .i64 ((rd_T31 l0 x70_2).f4.f1)) := (blk_cell BK12.out 9).trans rfl;have hcz83_10 : w78.cell? ⟨gb12, 10, none⟩ = some (.int .i64 ((rd_T31 l0 x70_2).f4.f2)) := (blk_cell BK12.out 10).trans rfl;have hcz83_11 : w78.cell? ⟨gb12, 11, none⟩ = some (.int .i64 ((rd_T31 l0 x70_2).f5)) := (blk_cell BK12.out 11).trans rfl;have hfz83_0 := blk_frozen BK12.out 0;have hfz83_1 := blk_frozen BK12.out 1;have hfz83_2 := blk_frozen BK12.out 2;have hfz83_3 := blk_frozen BK12.out 3;have hfz83_4 := blk_frozen BK12.out 4;have hfz83_5 := blk_frozen BK12.out 5;have hfz83_6 := blk_frozen BK12.out 6;have hfz83_7 := blk_frozen BK12.out 7;have hfz83_8 := blk_frozen BK12.out 8;have hfz83_9 := blk_frozen BK12.out 9;have hfz83_10 := blk_frozen BK12.out 10;have hfz83_11 := blk_frozen BK12.out 11))
                go_roundg k3
                case measure => have := HK1.out; have := HK2.out; have := HK3.out; omega
                case rel => exact ⟨(wrap64 (x78_3 + 1)), (x14012_3), (u14012), (by first|rfl|(simp;done)|(simp [*];done)), H', ⟨by have := HK1.out;have := HK2.out;have := HK3.out;omega⟩, ⟨by (with_reducible repeat (first|apply Kd.R_alloc|apply Kd.R_drewN|apply Kd.R_drew));exact Kd.R_mono (Kd.R_far (p := ⟨gb15, 11, none⟩) (Kd.R_far (p := ⟨gb15, 10, none⟩) (Kd.R_far (p := ⟨gb15, 9, none⟩) (Kd.R_far (p := ⟨gb15, 8, none⟩) (Kd.R_far (p := ⟨gb15, 7, none⟩) (Kd.R_far (p := ⟨gb15, 6, none⟩) (Kd.R_far (p := ⟨gb15, 5, none⟩) (Kd.R_far (p := ⟨gb15, 4, none⟩) (Kd.R_far (p := ⟨gb15, 3, none⟩) (Kd.R_far (p := ⟨gb15, 2, none⟩) (Kd.R_far (p := ⟨gb15, 1, none⟩) (Kd.R_far (p := ⟨gb15, 0, none⟩) (Kd.R_types HO_14012.out BK15.out (by decide)) (fun _ hk => hk.2) (.string ((rd_T31 l0 x78_3).f0))) (fun _ hk => hk.2) (.string ((rd_T31 l0 x78_3).f1))) (fun _ hk => hk.2) (.int .i64 ((rd_T31 l0 x78_3).f2.f0))) (fun _ hk => hk.2) (.int .i64 ((rd_T31 l0 x78_3).f2.f1))) (fun _ hk => hk.2) (.int .i64 ((rd_T31 l0 x78_3).f2.f2))) (fun _ hk => hk.2) (.int .i64 ((rd_T31 l0 x78_3).f3.f0))) (fun _ hk => hk.2) (.int .i64 ((rd_T31 l0 x78_3).f3.f1))) (fun _ hk => hk.2) (.int .i64 ((rd_T31 l0 x78_3).f3.f2))) (fun _ hk => hk.2) (.int .i64 ((rd_T31 l0 x78_3).f4.f0))) (fun _ hk => hk.2) (.int .i64 ((rd_T31 l0 x78_3).f4.f1))) (fun _ hk => hk.2) (.int .i64 ((rd_T31 l0 x78_3).f4.f2))) (fun _ hk => hk.2) (.int .i64 ((rd_T31 l0 x78_3).f5))) (fun _ hk => trivial)⟩, ⟨by (with_reducible repeat (first|refine blk_drewN ?_ _|refine blk_drew ?_|refine blk_alloc ?_ _));refine blk_far ?_ NB12_15.out _;(with_reducible repeat (first|refine blk_drewN ?_ _|refine blk_drew ?_|refine blk_alloc ?_ _));refine blk_far ?_ NB12_15.out _;(with_reducible repeat (first|refine blk_drewN ?_ _|refine blk_drew ?_|refine blk_alloc ?_ _));refine blk_far ?_ NB12_15.out _;(with_reducible repeat (first|refine blk_drewN ?_ _|refine blk_drew ?_|refine blk_alloc ?_ _));refine blk_far ?_ NB12_15.out _;(with_reducible repeat (first|refine blk_drewN ?_ _|refine blk_drew ?_|refine blk_alloc ?_ _));refine blk_far ?_ NB12_15.out _;(with_reducible repeat (first|refine blk_drewN ?_ _|refine blk_drew ?_|refine blk_alloc ?_ _));refine blk_far ?_ NB12_15.out _;(with_reducible repeat (first|refine blk_drewN ?_ _|refine blk_drew ?_|refine blk_alloc ?_ _));refine blk_far ?_ NB12_15.out _;(with_reducible repeat (first|refine blk_drewN ?_ _|refine blk_drew ?_|refine blk_alloc ?_ _));refine blk_far ?_ NB12_15.out _;(with_reducible repeat (first|refine blk_drewN ?_ _|refine blk_drew ?_|refine blk_alloc ?_ _));refine blk_far ?_ NB12_15.out _;(with_reducible repeat (first|refine blk_drewN ?_ _|refine blk_drew ?_|refine blk_alloc ?_ _));refine blk_far ?_ NB12_15.out _;(with_reducible repeat (first|refine blk_drewN ?_ _|refine blk_drew ?_|refine blk_alloc ?_ _));refine blk_far ?_ NB12_15.out _;(with_reducible repeat (first|refine blk_drewN ?_ _|refine blk_drew ?_|refine blk_alloc ?_ _));refine blk_far ?_ NB12_15.out _;(with_reducible repeat (first|refine blk_drewN ?_ _|refine blk_drew ?_|refine blk_alloc ?_ _));exact BK12.out⟩, ⟨by (with_reducible repeat (first|refine blk_drewN ?_ _|refine blk_drew ?_|refine blk_alloc ?_ _));refine blk_far ?_ NB13_15.out _;(with_reducible repeat (first|refine blk_drewN ?_ _|refine blk_drew ?_|refine blk_alloc ?_ _));refine blk_far ?_ NB13_15.out _;(with_reducible repeat (first|refine blk_drewN ?_ _|refine blk_drew ?_|refine blk_alloc ?_ _));refine blk_far ?_ NB13_15.out _;(with_reducible repeat (first|refine blk_drewN ?_ _|refine blk_drew ?_|refine blk_alloc ?_ _));refine blk_far ?_ NB13_15.out _;(with_reducible repeat (first|refine blk_drewN ?_ _|refine blk_drew ?_|refine blk_alloc ?_ _));refine blk_far ?_ NB13_15.out _;(with_reducible repeat (first|refine blk_drewN ?_ _|refine blk_drew ?_|refine blk_alloc ?_ _));refine blk_far ?_ NB13_15.out _;(with_reducible repeat (first|refine blk_drewN ?_ _|refine blk_drew ?_|refine blk_alloc ?_ _));refine blk_far ?_ NB13_15.out _;(with_reducible repeat (first|refine blk_drewN ?_ _|refine blk_drew ?_|refine blk_alloc ?_ _));refine blk_far ?_ NB13_15.out _;(with_reducible repeat (first|refine blk_drewN ?_ _|refine blk_drew ?_|refine blk_alloc ?_ _));refine blk_far ?_ NB13_15.out _;(with_reducible repeat (first|refine blk_drewN ?_ _|refine blk_drew ?_|refine blk_alloc ?_ _));refine blk_far ?_ NB13_15.out _;(with_reducible repeat (first|refine blk_drewN ?_ _|refine blk_drew ?_|refine blk_alloc ?_ _));refine blk_far ?_ NB13_15.out _;(with_reducible repeat (first|refine blk_drewN ?_ _|refine blk_drew ?_|refine blk_alloc ?_ _));refine blk_far ?_ NB13_15.out _;(with_reducible repeat (first|refine blk_drewN ?_ _|refine blk_drew ?_|refine blk_alloc ?_ _));exact BK13.out⟩, ⟨by repeat (first|(with_reducible first|exact HB.out|apply below_alloc|apply pw_below_drewN|apply below_drew1|refine below_set ?_ GE12.out|refine below_set ?_ GE13.out|refine below_set ?_ GE15.out)|exact HB.out)⟩⟩
              ·rw [if_neg c65] at H
               exact absurd H (by simp)
             ·rw [if_neg c64] at H
              exact absurd H (by simp)
            ·rw [if_neg c63] at H
             have c63b0 : decide (x78_3 < (l0.length : Int)) = false := decide_eq_false c63
             clear c63
             replace H := Option.bind_eq_some_iff.mp H
             obtain ⟨t19, A840, H⟩ := H
             replace H : (if t19 = true then (tree_Right.l1 k3 l0 l0 (l0.length : Int) (wrap64 (x70_2 + 1))) else (some false)) = some r := H
             have A84 := Aside0.mk A840
             clear A840
             by_cases c85 : t19 = true
             ·subst c85
              have H1 : (tree_Right.l1 k3 l0 l0 (l0.length : Int) (wrap64 (x70_2 + 1))) = some r := by rw [if_pos rfl] at H; exact H
              clear H
              have H := H1
              clear H1
              have H' := Aside0.mk H
              clear H
              have hnb86 := NB13_12.out
              have hnc86 := NB12_13.out
              have hcz87_0 : wr.cell? ⟨gb13, 0, none⟩ = some (.string ((rd_T31 l0 x70_2).f0)) := (blk_cell BK13.out 0).trans rfl
              have hcz87_1 : wr.cell? ⟨gb13, 1, none⟩ = some (.string ((rd_T31 l0 x70_2).f1)) := (blk_cell BK13.out 1).trans rfl
              have hcz87_2 : wr.cell? ⟨gb13, 2, none⟩ = some (.int .i64 ((rd_T31 l0 x70_2).f2.f0)) := (blk_cell BK13.out 2).trans rfl
              have hcz87_3 : wr.cell? ⟨gb13, 3, none⟩ = some (.int .i64 ((rd_T31 l0 x70_2).f2.f1)) := (blk_cell BK13.out 3).trans rfl
              have hcz87_4 : wr.cell? ⟨gb13, 4, none⟩ = some (.int .i64 ((rd_T31 l0 x70_2).f2.f2)) := (blk_cell BK13.out 4).trans rfl
              have hcz87_5 : wr.cell? ⟨gb13, 5, none⟩ = some (.int .i64 ((rd_T31 l0 x70_2).f3.f0)) := (blk_cell BK13.out 5).trans rfl
              have hcz87_6 : wr.cell? ⟨gb13, 6, none⟩ = some (.int .i64 ((rd_T31 l0 x70_2).f3.f1)) := (blk_cell BK13.out 6).trans rfl
              have hcz87_7 : wr.cell? ⟨gb13, 7, none⟩ = some (.int .i64 ((rd_T31 l0 x70_2).f3.f2)) := (blk_cell BK13.out 7).trans rfl
              have hcz87_8 : wr.cell? ⟨gb13, 8, none⟩ = some (.int .i64 ((rd_T31 l0 x70_2).f4.f0)) := (blk_cell BK13.out 8).trans rfl
              have hcz87_9 : wr.cell? ⟨gb13, 9, none⟩ = some (.int .i64 ((rd_T31 l0 x70_2).f4.f1)) := (blk_cell BK13.out 9).trans rfl
              have hcz87_10 : wr.cell? ⟨gb13, 10, none⟩ = some (.int .i64 ((rd_T31 l0 x70_2).f4.f2)) := (blk_cell BK13.out 10).trans rfl
              have hcz87_11 : wr.cell? ⟨gb13, 11, none⟩ = some (.int .i64 ((rd_T31 l0 x70_2).f5)) := (blk_cell BK13.out 11).trans rfl
              have hcz87_12 : wr.cell? ⟨gb13, 12, none⟩ = some (u14012) := (blk_cell BK13.out 12).trans rfl
              have hfz87_0 := blk_frozen BK13.out 0
              have hfz87_1 := blk_frozen BK13.out 1
              have hfz87_2 := blk_frozen BK13.out 2
              have hfz87_3 := blk_frozen BK13.out 3
              have hfz87_4 := blk_frozen BK13.out 4
              have hfz87_5 := blk_frozen BK13.out 5
              have hfz87_6 := blk_frozen BK13.out 6
              have hfz87_7 := blk_frozen BK13.out 7
              have hfz87_8 := blk_frozen BK13.out 8
              have hfz87_9 := blk_frozen BK13.out 9
              have hfz87_10 := blk_frozen BK13.out 10
              have hfz87_11 := blk_frozen BK13.out 11
              have hfz87_12 := blk_frozen BK13.out 12
              obtain ⟨Ao88, co88, eo88⟩ := Kd.R_slice HO_14012.out
              subst eo88
              go_wp2_with (first|((with_reducible refine gate_callee (f := 126) rfl ?_);refine goesL_ (some 96) rfl rfl Try.func126 (by kernel_rfl) rfl #[.agg #[.string ((rd_T31 l0 x70_2).f0), .string ((rd_T31 l0 x70_2).f1), .int .i64 ((rd_T31 l0 x70_2).f2.f0), .int .i64 ((rd_T31 l0 x70_2).f2.f1), .int .i64 ((rd_T31 l0 x70_2).f2.f2), .int .i64 ((rd_T31 l0 x70_2).f3.f0), .int .i64 ((rd_T31 l0 x70_2).f3.f1), .int .i64 ((rd_T31 l0 x70_2).f3.f2), .int .i64 ((rd_T31 l0 x70_2).f4.f0), .int .i64 ((rd_T31 l0 x70_2).f4.f1), .int .i64 ((rd_T31 l0 x70_2).f4.f2), .int .i64 ((rd_T31 l0 x70_2).f5), .slice Ao88 x14012_3.length co88]] rfl (by (try simp only [List.map_toArray, List.map_cons, List.map_nil]);first|done|rfl|(simp only [List.length_drop, List.length_take];rfl)) ?_;(with_reducible refine (tree_node_fits.calls ((rd_T31 l0 x70_2).f0) ((rd_T31 l0 x70_2).f1) ((rd_T31 l0 x70_2).f2.f0) ((rd_T31 l0 x70_2).f2.f1) ((rd_T31 l0 x70_2).f2.f2) ((rd_T31 l0 x70_2).f3.f0) ((rd_T31 l0 x70_2).f3.f1) ((rd_T31 l0 x70_2).f3.f2) ((rd_T31 l0 x70_2).f4.f0) ((rd_T31 l0 x70_2).f4.f1) ((rd_T31 l0 x70_2).f4.f2) ((rd_T31 l0 x70_2).f5) (fun k_ => some k_ = (.slice Ao88 x14012_3.length co88 : Value).ownBlock) (.slice Ao88 x14012_3.length co88) x14012_3 true w _ ?side1 ?side2 A84.out).mono ?_);(case side1 => repeat (first|(with_reducible first|exact HB.out|apply below_alloc|apply pw_below_drewN|apply below_drew1|refine below_set ?_ GE12.out|refine below_set ?_ GE13.out)|exact HB.out));(case side2 => exact Kd.R_tight rfl HO_14012.out);rintro e w89 ⟨rfl, hb, hkp⟩;refine ⟨_, rfl, ?_⟩;have n0_ := Aside0.mk (blk_kept (by (with_reducible repeat (first|refine blk_drewN ?_ _|refine blk_drew ?_|refine blk_alloc ?_ _));exact BK12.out) hkp (fun hs_ => (fun e_ => (Kd.R_ne HO_14012.out BK12.out (by decide)) e_) hs_));have n1_ := Aside0.mk (blk_kept (by (with_reducible repeat (first|refine blk_drewN ?_ _|refine blk_drew ?_|refine blk_alloc ?_ _));exact BK13.out) hkp (fun hs_ => (fun e_ => (Kd.R_ne HO_14012.out BK13.out (by decide)) e_) hs_));have n2_ := Aside0.mk (hb);clear BK12;clear BK13;clear HB;clear HO_14012;have BK12 := n0_;have BK13 := n1_;have HB := n2_;clear n0_ n1_ n2_;(try clear hb);(try clear hkp)))
              go_roundg k3
              case measure => have := HK1.out; have := HK2.out; have := HK3.out; omega
              case rel => exact ⟨(wrap64 (x70_2 + 1)), (by first|rfl|(simp;done)|(simp [*];done)), H', ⟨by have := HK1.out;have := HK2.out;have := HK3.out;omega⟩, ⟨by repeat (first|(with_reducible first|exact HB.out|apply below_alloc|apply pw_below_drewN|apply below_drew1|refine below_set ?_ GE12.out|refine below_set ?_ GE13.out)|exact HB.out)⟩⟩
             ·replace c85 := Bool.eq_false_iff.mpr c85
              subst c85
              have H1 : (some false) = some r := by rw [if_neg (show ¬ (false = true) by decide)] at H; exact H
              clear H
              have H := H1
              clear H1
              obtain rfl := Option.some.inj H
              have hnb90 := NB13_12.out
              have hnc90 := NB12_13.out
              have hcz91_0 : wr.cell? ⟨gb13, 0, none⟩ = some (.string ((rd_T31 l0 x70_2).f0)) := (blk_cell BK13.out 0).trans rfl
              have hcz91_1 : wr.cell? ⟨gb13, 1, none⟩ = some (.string ((rd_T31 l0 x70_2).f1)) := (blk_cell BK13.out 1).trans rfl
              have hcz91_2 : wr.cell? ⟨gb13, 2, none⟩ = some (.int .i64 ((rd_T31 l0 x70_2).f2.f0)) := (blk_cell BK13.out 2).trans rfl
              have hcz91_3 : wr.cell? ⟨gb13, 3, none⟩ = some (.int .i64 ((rd_T31 l0 x70_2).f2.f1)) := (blk_cell BK13.out 3).trans rfl
              have hcz91_4 : wr.cell? ⟨gb13, 4, none⟩ = some (.int .i64 ((rd_T31 l0 x70_2).f2.f2)) := (blk_cell BK13.out 4).trans rfl
              have hcz91_5 : wr.cell? ⟨gb13, 5, none⟩ = some (.int .i64 ((rd_T31 l0 x70_2).f3.f0)) := (blk_cell BK13.out 5).trans rfl
              have hcz91_6 : wr.cell? ⟨gb13, 6, none⟩ = some (.int .i64 ((rd_T31 l0 x70_2).f3.f1)) := (blk_cell BK13.out 6).trans rfl
              have hcz91_7 : wr.cell? ⟨gb13, 7, none⟩ = some (.int .i64 ((rd_T31 l0 x70_2).f3.f2)) := (blk_cell BK13.out 7).trans rfl
              have hcz91_8 : wr.cell? ⟨gb13, 8, none⟩ = some (.int .i64 ((rd_T31 l0 x70_2).f4.f0)) := (blk_cell BK13.out 8).trans rfl
              have hcz91_9 : wr.cell? ⟨gb13, 9, none⟩ = some (.int .i64 ((rd_T31 l0 x70_2).f4.f1)) := (blk_cell BK13.out 9).trans rfl
              have hcz91_10 : wr.cell? ⟨gb13, 10, none⟩ = some (.int .i64 ((rd_T31 l0 x70_2).f4.f2)) := (blk_cell BK13.out 10).trans rfl
              have hcz91_11 : wr.cell? ⟨gb13, 11, none⟩ = some (.int .i64 ((rd_T31 l0 x70_2).f5)) := (blk_cell BK13.out 11).trans rfl
              have hcz91_12 : wr.cell? ⟨gb13, 12, none⟩ = some (u14012) := (blk_cell BK13.out 12).trans rfl
              have hfz91_0 := blk_frozen BK13.out 0
              have hfz91_1 := blk_frozen BK13.out 1
              have hfz91_2 := blk_frozen BK13.out 2
              have hfz91_3 := blk_frozen BK13.out 3
              have hfz91_4 := blk_frozen BK13.out 4
              have hfz91_5 := blk_frozen BK13.out 5
              have hfz91_6 := blk_frozen BK13.out 6
              have hfz91_7 := blk_frozen BK13.out 7
              have hfz91_8 := blk_frozen BK13.out 8
              have hfz91_9 := blk_frozen BK13.out 9
              have hfz91_10 := blk_frozen BK13.out 10
              have hfz91_11 := blk_frozen BK13.out 11
              have hfz91_12 := blk_frozen BK13.out 12
              obtain ⟨Ao92, co92, eo92⟩ := Kd.R_slice HO_14012.out
              subst eo92
              go_wp2_with (first|((with_reducible refine gate_callee (f := 126) rfl ?_);refine goesL_ (some 96) rfl rfl Try.func126 (by kernel_rfl) rfl #[.agg #[.string ((rd_T31 l0 x70_2).f0), .string ((rd_T31 l0 x70_2).f1), .int .i64 ((rd_T31 l0 x70_2).f2.f0), .int .i64 ((rd_T31 l0 x70_2).f2.f1), .int .i64 ((rd_T31 l0 x70_2).f2.f2), .int .i64 ((rd_T31 l0 x70_2).f3.f0), .int .i64 ((rd_T31 l0 x70_2).f3.f1), .int .i64 ((rd_T31 l0 x70_2).f3.f2), .int .i64 ((rd_T31 l0 x70_2).f4.f0), .int .i64 ((rd_T31 l0 x70_2).f4.f1), .int .i64 ((rd_T31 l0 x70_2).f4.f2), .int .i64 ((rd_T31 l0 x70_2).f5), .slice Ao92 x14012_3.length co92]] rfl (by (try simp only [List.map_toArray, List.map_cons, List.map_nil]);first|done|rfl|(simp only [List.length_drop, List.length_take];rfl)) ?_;(with_reducible refine (tree_node_fits.calls ((rd_T31 l0 x70_2).f0) ((rd_T31 l0 x70_2).f1) ((rd_T31 l0 x70_2).f2.f0) ((rd_T31 l0 x70_2).f2.f1) ((rd_T31 l0 x70_2).f2.f2) ((rd_T31 l0 x70_2).f3.f0) ((rd_T31 l0 x70_2).f3.f1) ((rd_T31 l0 x70_2).f3.f2) ((rd_T31 l0 x70_2).f4.f0) ((rd_T31 l0 x70_2).f4.f1) ((rd_T31 l0 x70_2).f4.f2) ((rd_T31 l0 x70_2).f5) (fun k_ => some k_ = (.slice Ao92 x14012_3.length co92 : Value).ownBlock) (.slice Ao92 x14012_3.length co92) x14012_3 false w _ ?side1 ?side2 A84.out).mono ?_);(case side1 => repeat (first|(with_reducible first|exact HB.out|apply below_alloc|apply pw_below_drewN|apply below_drew1|refine below_set ?_ GE12.out|refine below_set ?_ GE13.out)|exact HB.out));(case side2 => exact Kd.R_tight rfl HO_14012.out);rintro e w93 ⟨rfl, hb, hkp⟩;refine ⟨_, rfl, ?_⟩;have n0_ := Aside0.mk (blk_kept (by (with_reducible repeat (first|refine blk_drewN ?_ _|refine blk_drew ?_|refine blk_alloc ?_ _));exact BK12.out) hkp (fun hs_ => (fun e_ => (Kd.R_ne HO_14012.out BK12.out (by decide)) e_) hs_));have n1_ := Aside0.mk (blk_kept (by (with_reducible repeat (first|refine blk_drewN ?_ _|refine blk_drew ?_|refine blk_alloc ?_ _));exact BK13.out) hkp (fun hs_ => (fun e_ => (Kd.R_ne HO_14012.out BK13.out (by decide)) e_) hs_));have n2_ := Aside0.mk (hb);clear BK12;clear BK13;clear HB;clear HO_14012;have BK12 := n0_;have BK13 := n1_;have HB := n2_;clear n0_ n1_ n2_;(try clear hb);(try clear hkp)))
              go_ret
              exact ⟨by first|rfl|(simp [errW_none, errW_some] <;> rfl)|(simp [*, errW_none, errW_some] <;> rfl), by repeat (first|(with_reducible first|exact HB.out|apply below_alloc|apply pw_below_drewN|apply below_drew1|refine below_set ?_ GE12.out|refine below_set ?_ GE13.out)|exact HB.out)⟩
         ·rw [if_neg c57] at H
          exact absurd H (by simp)
        ·rw [if_neg c56] at H
         exact absurd H (by simp)
       ·rw [if_neg c55] at H
        have c55b0 : decide (x70_2 < (l0.length : Int)) = false := decide_eq_false c55
        clear c55
        obtain rfl := Option.some.inj H
        go_wp2
        go_ret
        exact ⟨by first|rfl|(simp [errW_none, errW_some] <;> rfl)|(simp [*, errW_none, errW_some] <;> rfl), by repeat (first|(with_reducible first|exact HB.out|apply below_alloc|apply pw_below_drewN|apply below_drew1)|exact HB.out)⟩
end Go.Proofs.Ytcgefpklljclgaa.Print

namespace Go.Proofs.Ytcgefpklljclgaa.Print
open Go.RowKit Go.Proofs.YtcgefpklljclgaaW.PrintWords Go.Proofs.YtcgefpklljclgaaW.PrintLast Go.Proofs.YtcgefpklljclgaaW.PrintMore
attribute [local go_sem] max2_int min2_int max_two min_two max_three min_three max_four min_four   -- for this text's walks alone
set_option linter.unusedVariables false
set_option linter.unusedSimpArgs false
/-! ### r10_no: function 113 -/
def r10_no.f (a0 : Int) : Option ((List (S31)) × Int) := some (([] : List (S31)), a0)
set_option maxHeartbeats 8000000 in
set_option maxRecDepth 100000 in
theorem r10_no.calls (a0 : Int) (r1 : List (S31)) (r2 : Int) (w : World) (h : r10_no.f a0 = some (r1, r2)) :
  Calls Try.prog 113 #[.int .i64 a0] w fun e w' => ∃ v0_ : Value, e = .returned (.agg #[v0_, .int .i64 r2]) ∧ Kd.R k31 31 w' w.heap.size (fun _ => True) v0_ r1 ∧ Below w.heap.size w w' := by
 have hu67 := Try.underlying67
 have HB := Aside0.mk (Below.refl w.heap.size w)
 have H : (some (([] : List (S31)), a0)) = some (r1, r2) := h
 clear h
 simp only [Option.some.injEq, Prod.mk.injEq] at H
 obtain ⟨rfl, rfl⟩ := H
 go_enter Try.func113, Try.ntmps113
 go_wp2_with (first|((with_reducible refine gate_dst (N := 2) rfl ?_);refine box_event ?hg (N := 2) ?hd (cs := #[.slice none 0 0, .int .i64 0]) (t := 67) ?hr ?_;(case hd => rfl);(case hg => rfl);(case hr => first|(go_simp;done)|(go_simp;rfl));intro gb1 hg w2 hbox hb;have n0_ := Aside0.mk (below_step (by repeat (first|(with_reducible first|exact HB.out|apply below_alloc|apply pw_below_drewN|apply below_drew1)|exact HB.out)) hb);have n1_ := Aside0.mk (hbox);have n2_ := Aside0.mk ((by rw [hg];exact (below_size (by repeat (first|(with_reducible first|exact HB.out|apply below_alloc|apply pw_below_drewN|apply below_drew1)|exact HB.out))) : w.heap.size ≤ gb1));have n3_ := Aside0.mk ((by rw [hg];exact (below_size (by repeat (first|(with_reducible first|exact HB.out|apply below_alloc|apply pw_below_drewN|apply below_drew1)|exact HB.out))) : w.heap.size ≤ gb1));clear HB;have HB := n0_;have BK1 := n1_;have GW1 := n2_;have GE1 := n3_;clear n0_ n1_ n2_ n3_;clear hb hbox hg;have hcz3_0 : w2.cell? ⟨gb1, 0, none⟩ = some (.slice none 0 0) := (blk_cell BK1.out 0).trans rfl;have hcz3_1 : w2.cell? ⟨gb1, 1, none⟩ = some (.int .i64 0) := (blk_cell BK1.out 1).trans rfl;have hfz3_0 := blk_frozen BK1.out 0;have hfz3_1 := blk_frozen BK1.out 1))
 refine bodyPost_ret (results_cell_row rfl _ _ gb1 67 #[.slice none 0 0, .int .i64 a0] (0, 0) _ rfl (by (with_reducible repeat (first|refine blk_drewN ?_ _|refine blk_drew ?_|refine blk_alloc ?_ _));refine blk_put (cs := #[.slice none 0 0, .int .i64 0]) ?_ 1 _ rfl;(with_reducible repeat (first|refine blk_drewN ?_ _|refine blk_drew ?_|refine blk_alloc ?_ _));refine blk_put (cs := #[.slice none 0 0, .int .i64 0]) ?_ 0 _ rfl;(with_reducible repeat (first|refine blk_drewN ?_ _|refine blk_drew ?_|refine blk_alloc ?_ _));exact BK1.out) Try.underlying67 rfl (by kernel_rfl)) rfl ?_
 exact ⟨_, by first|rfl|(simp [errW_none, errW_some] <;> rfl)|(simp [*, errW_none, errW_some] <;> rfl), by first|exact Kd.R_nil _ _ _ _ _|exact Kd.N_nil _ _ _ _ _|exact Kd.V_nil _ _ _ _ _|exact Kd.Q_nil _ _ _ _ _|exact Kd.S_nil _ _ _ _ _, by repeat (first|(with_reducible first|exact HB.out|apply below_alloc|apply pw_below_drewN|apply below_drew1|refine below_set ?_ GE1.out)|exact HB.out)⟩
end Go.Proofs.Ytcgefpklljclgaa.Print

namespace Go.Proofs.Ytcgefpklljclgaa.Print
open Go.RowKit Go.Proofs.YtcgefpklljclgaaW.PrintWords Go.Proofs.YtcgefpklljclgaaW.PrintLast Go.Proofs.YtcgefpklljclgaaW.PrintMore
attribute [local go_sem] max2_int min2_int max_two min_two max_three min_three max_four min_four   -- for this text's walks alone
set_option linter.unusedVariables false
set_option linter.unusedSimpArgs false
/-! ### r10_copied: function 124 -/
def r10_copied.f (l0 : List (S31)) : Option ((List (S31))) := (some (([] : List (S31)) : List (S31))).bind fun y1 => (if y1.length + l0.length < 1256584717458 then (some (y1 ++ l0)) else (none))
set_option maxHeartbeats 8000000 in
set_option maxRecDepth 100000 in
theorem r10_copied.calls (A0 : Option Addr) (c0 : Nat) (l0 : List (S31)) (r : List (S31)) (w : World) (hr0 : Kd.C k31 w A0 l0.length l0) (hc0 : l0.length ≤ c0) (h : r10_copied.f l0 = some r) :
  Calls Try.prog 124 #[.slice A0 l0.length c0] w fun e w' => ∃ v0_ : Value, e = .returned (v0_) ∧ Kd.R k31 31 w' w.heap.size (fun _ => True) v0_ r ∧ Below w.heap.size w w' := by
 have HR0 := Aside0.mk hr0
 have HC0 := Aside0.mk hc0
 clear hr0 hc0
 have HB := Aside0.mk (Below.refl w.heap.size w)
 have H : ((some (([] : List (S31)) : List (S31))).bind fun y1 => (if y1.length + l0.length < 1256584717458 then (some (y1 ++ l0)) else (none))) = some r := h
 clear h
 obtain ⟨y1, hy1⟩ : ∃ y_ : List (S31), y_ = (([] : List (S31))) := ⟨_, rfl⟩
 replace H : (if y1.length + l0.length < 1256584717458 then (some (y1 ++ l0)) else (none)) = some r := by first|(rw [hy1];with_reducible exact H)|(have H2_ := (Option.bind_some _ _).symm.trans H;rw [hy1];with_reducible exact H2_)|(have H2_ := (Option.bind_some _ _).symm.trans H;with_reducible exact H2_)|with_reducible exact H|(rw [hy1];exact H)|exact H
 have Ny1 := Aside0.mk hy1
 clear hy1
 by_cases c2 : y1.length + l0.length < 1256584717458
 ·rw [if_pos c2] at H
  have LMc2 := Aside0.mk c2
  clear c2
  obtain ⟨y4, hy4⟩ : ∃ y_ : List (S31), y_ = (y1 ++ l0) := ⟨_, rfl⟩
  replace H : (some y4) = some r := by first|(rw [hy4];with_reducible exact H)|(have H2_ := (Option.bind_some _ _).symm.trans H;rw [hy4];with_reducible exact H2_)|(have H2_ := (Option.bind_some _ _).symm.trans H;with_reducible exact H2_)|with_reducible exact H|(rw [hy4];exact H)|exact H
  have Ny4 := Aside0.mk hy4
  clear hy4
  obtain rfl := Option.some.inj H
  go_enter Try.func124, Try.ntmps124
  go_wp2_with (first|((with_reducible refine gate_dst (N := 3) rfl ?_);refine Kd.R_lit k31 _ 31 ?hg (N := 3) ?hd (xs := ([] : List (S31))) (inner := []) (ok := fun _ => True) (okp := fun _ => True) ?hr ?hp (fun _ hk => hk) trivial (Below.refl _ _) (Nat.le_refl _) (by simp) ?_;(case hd => rfl);(case hg => rfl);(case hr => first|(go_simp;done)|(go_simp;rfl));(case hp => exact (Reps.none _ _));intro v2 w3 ho4 hb hg_ hnew_;clear hg_ hnew_;(first|rw [← Ny1.out] at ho4|(simp only [Int.reduceToNat] at ho4;rw [← Ny1.out] at ho4));have n0_ := Aside0.mk (Kd.R_lower ho4 (below_size (by repeat (first|(with_reducible first|exact HB.out|apply below_alloc|apply pw_below_drewN|apply below_drew1)|exact HB.out))));have n1_ := Aside0.mk (below_step (by repeat (first|(with_reducible first|exact HB.out|apply below_alloc|apply pw_below_drewN|apply below_drew1)|exact HB.out)) hb);clear HB;have HO3 := n0_;have HB := n1_;clear n0_ n1_;clear hb ho4)|((with_reducible refine gate_builtin (b := .append) (xs := #[.tmp 3, .tmp 4]) rfl ?_);at_builtin;refine Kd.R_append_rows k31 (w0 := w) w.heap.size rfl (.tmp 3) (.tmp 4) 24 31 (.agg #[(.string ⟨#[]⟩), (.string ⟨#[]⟩), (.int .i64 0), (.int .i64 0), (.int .i64 0), (.int .i64 0), (.int .i64 0), (.int .i64 0), (.int .i64 0), (.int .i64 0), (.int .i64 0), (.int .i64 0)]) 112 rfl Try.underlying24 info31 rfl (by decide) (by omega) v2 y1 l0 _ _ _ (fun _ => True) (fun _ => False) rfl rfl ?aO ?aR (fun _ _ h => h) (fun _ h => h.elim) ?aF ?aB ?aS ?aL ?_;(case aR => repeat (first|exact (Kd.C_below HR0.out HB.out)|(with_reducible refine Kd.C_alloc ?_ _)|(with_reducible refine Kd.C_drewN ?_ _)|(with_reducible refine Kd.C_drew ?_)));(case aB => exact (by repeat (first|(with_reducible first|exact HB.out|apply below_alloc|apply pw_below_drewN|apply below_drew1)|exact HB.out)));(case aF => exact (fun _ _ => trivial));(case aO => exact (by (with_reducible repeat (first|apply Kd.R_alloc|apply Kd.R_drewN|apply Kd.R_drew));exact HO3.out));(case aS => exact (below_size (by repeat (first|(with_reducible first|exact HB.out|apply below_alloc|apply pw_below_drewN|apply below_drew1)|exact HB.out))));(case aL => have := LMc2.out;omega);intro v5 w5 ho hb hg hat;rw [← Ny4.out] at ho;have n0_ := Aside0.mk (hb);have n1_ := Aside0.mk (ho);clear HB;clear HO3;have HB := n0_;have HO6 := n1_;clear n0_ n1_;clear ho hb hg hat))
  go_ret
  exact ⟨_, by first|rfl|(simp [errW_none, errW_some] <;> rfl)|(simp [*, errW_none, errW_some] <;> rfl), by (with_reducible repeat (first|apply Kd.R_alloc|apply Kd.R_drewN|apply Kd.R_drew));exact HO6.out, by repeat (first|(with_reducible first|exact HB.out|apply below_alloc|apply pw_below_drewN|apply below_drew1)|exact HB.out)⟩
 ·rw [if_neg c2] at H
  exact absurd H (by simp)
end Go.Proofs.Ytcgefpklljclgaa.Print

namespace Go.Proofs.Ytcgefpklljclgaa.Print
open Go.RowKit Go.Proofs.YtcgefpklljclgaaW.PrintWords Go.Proofs.YtcgefpklljclgaaW.PrintLast Go.Proofs.YtcgefpklljclgaaW.PrintMore
attribute [local go_sem] max2_int min2_int max_two min_two max_three min_three max_four min_four   -- for this text's walks alone
set_option linter.unusedVariables false
set_option linter.unusedSimpArgs false
mutual
def r10_Create.j0 : Nat → List (S31) → ByteArray → ByteArray → Bool → Int → Int → Int → Option ((List (S31)) × Int)
 | 0, _, _, _, _, _, _, _ => none
 | k + 1, x0, x1, x2, x11, x2000, x2001, x2002 => if x11 = true then ((r10_no.f 1).bind fun bt5 => (some (bt5.1, bt5.2))) else ((r10_Find.f k x0 x1).bind fun t9 => (if t9 ≥ 0 then ((r10_no.f 3).bind fun bt10 => (some (bt10.1, bt10.2))) else (if x2.toList = ([] : List UInt8) then (r10_Create.j1 k x0 x1 x2 false x2000 x2001 x2002) else ((r10_Find.f k x0 x2).bind fun t14 => (r10_Create.j1 k x0 x1 x2 (decide (t14 < 0)) x2000 x2001 x2002)))))
def r10_Create.j1 : Nat → List (S31) → ByteArray → ByteArray → Bool → Int → Int → Int → Option ((List (S31)) × Int)
 | 0, _, _, _, _, _, _, _ => none
 | k + 1, x0, x1, x2, x27, x2000, x2001, x2002 => if x27 = true then ((r10_no.f 2).bind fun bt15 => (some (bt15.1, bt15.2))) else (if (x0.length : Int) ≥ 120 then ((r10_no.f 4).bind fun bt19 => (some (bt19.1, bt19.2))) else (r10_Create.l0 k x0 x1 x2 0 x2000 x2001 x2002))
def r10_Create.l0 : Nat → List (S31) → ByteArray → ByteArray → Int → Int → Int → Int → Option ((List (S31)) × Int)
 | 0, _, _, _, _, _, _, _ => none
 | k + 1, x0, x1, x2, x9, x2000, x2001, x2002 => if x9 < (x0.length : Int) then (if 0 ≤ x9 then (if (Op.bytesLess (((rd_T31 x0 x9).f0).toList) x1.toList) = true then (r10_Create.l0 k x0 x1 x2 (wrap64 (x9 + 1)) x2000 x2001 x2002) else (if x9 ≤ (x0.length : Int) then ((r10_copied.f (x0.take (x9 : Int).toNat)).bind fun t28 => (if t28.length < 1256584717458 then ((some (t28 ++ [(⟨x1, x2, (⟨x2000, x2001, x2002⟩ : S27), (⟨0, 0, 0⟩ : S27), (⟨0, 0, 0⟩ : S27), 1⟩ : S31)] : List (S31))).bind fun y31 => ((some (x0.drop (x9 : Int).toNat : List (S31))).bind fun y34 => (if y31.length + y34.length < 1256584717458 then (some ((y31 ++ y34), 0)) else (none)))) else (none))) else (none))) else (none)) else (if 0 ≤ x9 then (if x9 ≤ (x0.length : Int) then ((r10_copied.f (x0.take (x9 : Int).toNat)).bind fun t45 => (if t45.length < 1256584717458 then ((some (t45 ++ [(⟨x1, x2, (⟨x2000, x2001, x2002⟩ : S27), (⟨0, 0, 0⟩ : S27), (⟨0, 0, 0⟩ : S27), 1⟩ : S31)] : List (S31))).bind fun y48 => ((some (x0.drop (x9 : Int).toNat : List (S31))).bind fun y51 => (if y48.length + y51.length < 1256584717458 then (some ((y48 ++ y51), 0)) else (none)))) else (none))) else (none)) else (none))
end
def r10_Create.f (k : Nat) (l0 : List (S31)) (a1 : ByteArray) (a2 : ByteArray) (a3_0 : Int) (a3_1 : Int) (a3_2 : Int) : Option ((List (S31)) × Int) := (r10_MayName.f a1).bind fun t3 => (if t3 = true then ((r10_MayVec.f a3_0 a3_1 a3_2).bind fun t4 => (r10_Create.j0 k l0 a1 a2 (!t4) a3_0 a3_1 a3_2)) else (r10_Create.j0 k l0 a1 a2 true a3_0 a3_1 a3_2))
theorem r10_Create.mono_l : ∀ k, (∀ y0 y1 y2 y3 y4 y5 y6, LeO (r10_Create.j0 k y0 y1 y2 y3 y4 y5 y6) (r10_Create.j0 (k + 1) y0 y1 y2 y3 y4 y5 y6)) ∧ (∀ y0 y1 y2 y3 y4 y5 y6, LeO (r10_Create.j1 k y0 y1 y2 y3 y4 y5 y6) (r10_Create.j1 (k + 1) y0 y1 y2 y3 y4 y5 y6)) ∧ (∀ y0 y1 y2 y3 y4 y5 y6, LeO (r10_Create.l0 k y0 y1 y2 y3 y4 y5 y6) (r10_Create.l0 (k + 1) y0 y1 y2 y3 y4 y5 y6))
 | 0 => ⟨fun _ _ _ _ _ _ _ r h => by simp [r10_Create.j0] at h, fun _ _ _ _ _ _ _ r h => by simp [r10_Create.j1] at h, fun _ _ _ _ _ _ _ r h => by simp [r10_Create.l0] at h⟩
 | k + 1 => by
  obtain ⟨ih0, ih1, ih2⟩ := r10_Create.mono_l k
  refine ⟨?_, ?_, ?_⟩
  ·intro y0 y1 y2 y3 y4 y5 y6
   unfold r10_Create.j0
   repeat' first
   | (with_reducible exact ih0 _ _ _ _ _ _ _)
   | (with_reducible exact ih1 _ _ _ _ _ _ _)
   | (with_reducible exact ih2 _ _ _ _ _ _ _)
   | (with_reducible exact r10_Find.mono _ _ _)
   | (with_reducible exact LeO.refl _)
   | (with_reducible exact LeO.none _)
   | (with_reducible refine LeO.ite ?_ ?_)
   | (with_reducible refine LeO.bind ?_ (fun _ => ?_))
   | exact ih0 _ _ _ _ _ _ _
   | exact ih1 _ _ _ _ _ _ _
   | exact ih2 _ _ _ _ _ _ _
   | exact r10_Find.mono _ _ _
   | exact LeO.none _
   | refine LeO.ite ?_ ?_
   | refine LeO.bind ?_ (fun _ => ?_)
  ·intro y0 y1 y2 y3 y4 y5 y6
   unfold r10_Create.j1
   repeat' first
   | (with_reducible exact ih0 _ _ _ _ _ _ _)
   | (with_reducible exact ih1 _ _ _ _ _ _ _)
   | (with_reducible exact ih2 _ _ _ _ _ _ _)
   | (with_reducible exact r10_Find.mono _ _ _)
   | (with_reducible exact LeO.refl _)
   | (with_reducible exact LeO.none _)
   | (with_reducible refine LeO.ite ?_ ?_)
   | (with_reducible refine LeO.bind ?_ (fun _ => ?_))
   | exact ih0 _ _ _ _ _ _ _
   | exact ih1 _ _ _ _ _ _ _
   | exact ih2 _ _ _ _ _ _ _
   | exact r10_Find.mono _ _ _
   | exact LeO.none _
   | refine LeO.ite ?_ ?_
   | refine LeO.bind ?_ (fun _ => ?_)
  ·intro y0 y1 y2 y3 y4 y5 y6
   unfold r10_Create.l0
   repeat' first
   | (with_reducible exact ih0 _ _ _ _ _ _ _)
   | (with_reducible exact ih1 _ _ _ _ _ _ _)
   | (with_reducible exact ih2 _ _ _ _ _ _ _)
   | (with_reducible exact r10_Find.mono _ _ _)
   | (with_reducible exact LeO.refl _)
   | (with_reducible exact LeO.none _)
   | (with_reducible refine LeO.ite ?_ ?_)
   | (with_reducible refine LeO.bind ?_ (fun _ => ?_))
   | exact ih0 _ _ _ _ _ _ _
   | exact ih1 _ _ _ _ _ _ _
   | exact ih2 _ _ _ _ _ _ _
   | exact r10_Find.mono _ _ _
   | exact LeO.none _
   | refine LeO.ite ?_ ?_
   | refine LeO.bind ?_ (fun _ => ?_)
theorem r10_Create.mono : ∀ a0 a1 a2 a3 a4 a5 k, LeO (r10_Create.f k a0 a1 a2 a3 a4 a5) (r10_Create.f (k + 1) a0 a1 a2 a3 a4 a5) := by
 intro a0 a1 a2 a3 a4 a5 k
 obtain ⟨ih0, ih1, ih2⟩ := r10_Create.mono_l k
 unfold r10_Create.f
 repeat' first
   | (with_reducible exact ih0 _ _ _ _ _ _ _)
   | (with_reducible exact ih1 _ _ _ _ _ _ _)
   | (with_reducible exact ih2 _ _ _ _ _ _ _)
   | (with_reducible exact r10_Find.mono _ _ _)
   | (with_reducible exact LeO.refl _)
   | (with_reducible exact LeO.none _)
   | (with_reducible refine LeO.ite ?_ ?_)
   | (with_reducible refine LeO.bind ?_ (fun _ => ?_))
   | exact ih0 _ _ _ _ _ _ _
   | exact ih1 _ _ _ _ _ _ _
   | exact ih2 _ _ _ _ _ _ _
   | exact r10_Find.mono _ _ _
   | exact LeO.none _
   | refine LeO.ite ?_ ?_
   | refine LeO.bind ?_ (fun _ => ?_)
set_option maxHeartbeats 8000000 in
set_option maxRecDepth 100000 in
theorem r10_Create.calls (k : Nat) (A0 : Option Addr) (c0 : Nat) (l0 : List (S31)) (a1 : ByteArray) (a2 : ByteArray) (a3_0 : Int) (a3_1 : Int) (a3_2 : Int) (r1 : List (S31)) (r2 : Int) (w : World) (hr0 : Kd.C k31 w A0 l0.length l0) (hc0 : l0.length ≤ c0) (h : r10_Create.f k l0 a1 a2 a3_0 a3_1 a3_2 = some (r1, r2)) :
  Calls Try.prog 83 #[.slice A0 l0.length c0, .string a1, .string a2, .agg #[.int .i64 a3_0, .int .i64 a3_1, .int .i64 a3_2]] w fun e w' => ∃ v0_ : Value, e = .returned (.agg #[v0_, .int .i64 r2]) ∧ Kd.R k31 31 w' w.heap.size (fun _ => True) v0_ r1 ∧ Below w.heap.size w w' := by
 have hu27 := Try.underlying27
 have hu67 := Try.underlying67
 have hu31 := Try.underlying31
 have HR0 := Aside0.mk hr0
 have HC0 := Aside0.mk hc0
 clear hr0 hc0
 have HB := Aside0.mk (Below.refl w.heap.size w)
 have H : ((r10_MayName.f a1).bind fun t3 => (if t3 = true then ((r10_MayVec.f a3_0 a3_1 a3_2).bind fun t4 => (r10_Create.j0 k l0 a1 a2 (!t4) a3_0 a3_1 a3_2)) else (r10_Create.j0 k l0 a1 a2 true a3_0 a3_1 a3_2))) = some (r1, r2) := h
 clear h
 have HC5 := Aside0.mk H
 clear H
 go_enter Try.func83, Try.ntmps83
 go_upto_region 1 with (first|((with_reducible refine gate_dst (N := 7) rfl ?_);refine box_event ?hg (N := 7) ?hd (cs := #[.int .i64 a3_0, .int .i64 a3_1, .int .i64 a3_2]) (t := 27) ?hr ?_;(case hd => rfl);(case hg => rfl);(case hr => first|(go_simp;done)|(go_simp;rfl));intro gb1 hg w6 hbox hb;have n0_ := Aside0.mk (below_step (by repeat (first|(with_reducible first|exact HB.out|apply below_alloc|apply pw_below_drewN|apply below_drew1)|exact HB.out)) hb);have n1_ := Aside0.mk (hbox);have n2_ := Aside0.mk ((by rw [hg];exact (below_size (by repeat (first|(with_reducible first|exact HB.out|apply below_alloc|apply pw_below_drewN|apply below_drew1)|exact HB.out))) : w.heap.size ≤ gb1));have n3_ := Aside0.mk ((by rw [hg];exact (below_size (by repeat (first|(with_reducible first|exact HB.out|apply below_alloc|apply pw_below_drewN|apply below_drew1)|exact HB.out))) : w.heap.size ≤ gb1));clear HB;have HB := n0_;have BK1 := n1_;have GW1 := n2_;have GE1 := n3_;clear n0_ n1_ n2_ n3_;clear hb hbox hg)|((with_reducible refine gate_dst (N := 8) rfl ?_);refine box_event ?hg (N := 8) ?hd (cs := #[.slice none 0 0, .int .i64 0]) (t := 67) ?hr ?_;(case hd => rfl);(case hg => rfl);(case hr => first|(go_simp;done)|(go_simp;rfl));intro gb2 hg w7 hbox hb;have n0_ := Aside0.mk (blk_below (g := gb1) (o := .cells #[.int .i64 a3_0, .int .i64 a3_1, .int .i64 a3_2] 27 (0, 0)) (by (with_reducible repeat (first|refine blk_drewN ?_ _|refine blk_drew ?_|refine blk_alloc ?_ _));exact BK1.out) hb);have n1_ := Aside0.mk (below_step (by repeat (first|(with_reducible first|exact HB.out|apply below_alloc|apply pw_below_drewN|apply below_drew1|refine below_set ?_ GE1.out)|exact HB.out)) hb);have n2_ := Aside0.mk (hbox);have n3_ := Aside0.mk ((by rw [hg];exact (below_size (by repeat (first|(with_reducible first|exact HB.out|apply below_alloc|apply pw_below_drewN|apply below_drew1|refine below_set ?_ GE1.out)|exact HB.out))) : w.heap.size ≤ gb2));have n4_ := Aside0.mk ((by rw [hg];exact (below_size (by repeat (first|(with_reducible first|exact HB.out|apply below_alloc|apply pw_below_drewN|apply below_drew1|refine below_set ?_ GE1.out)|exact HB.out))) : w.heap.size ≤ gb2));have n5_ := Aside0.mk ((by rw [hg];exact Nat.ne_of_lt (blk_lt (g := gb1) (o := .cells #[.int .i64 a3_0, .int .i64 a3_1, .int .i64 a3_2] 27 (0, 0)) (by (with_reducible repeat (first|refine blk_drewN ?_ _|refine blk_drew ?_|refine blk_alloc ?_ _));exact BK1.out)) : gb1 ≠ gb2));have n6_ := Aside0.mk ((by rw [hg];exact Nat.ne_of_gt (blk_lt (g := gb1) (o := .cells #[.int .i64 a3_0, .int .i64 a3_1, .int .i64 a3_2] 27 (0, 0)) (by (with_reducible repeat (first|refine blk_drewN ?_ _|refine blk_drew ?_|refine blk_alloc ?_ _));exact BK1.out)) : gb2 ≠ gb1));clear BK1;clear HB;have BK1 := n0_;have HB := n1_;have BK2 := n2_;have GW2 := n3_;have GE2 := n4_;have NB1_2 := n5_;have NB2_1 := n6_;clear n0_ n1_ n2_ n3_ n4_ n5_ n6_;clear hb hbox hg))
 (try simp only [Act.put, List.setIfInBounds_toArray, List.set_cons_zero, List.set_cons_succ])
 go_cut [11] (fun v11 wc => ∃ (kq : Nat) (x11_4 : Bool), v11 = .bool x11_4 ∧ Aside0 (r10_Create.j0 kq l0 a1 a2 x11_4 a3_0 a3_1 a3_2 = some (r1, r2)) ∧ Aside0 (kq ≤ k) ∧ Aside0 (wc.heap[gb1]? = some (.cells #[.int .i64 a3_0, .int .i64 a3_1, .int .i64 a3_2] 27 (0, 0))) ∧ Aside0 (wc.heap[gb2]? = some (.cells #[(.slice none 0 0), .int .i64 0] 67 (0, 0))) ∧ Aside0 (Below w.heap.size w wc))
 case first =>
  have H := HC5.out
  clear HC5
  replace H := Option.bind_eq_some_iff.mp H
  obtain ⟨t3, A80, H⟩ := H
  replace H : (if t3 = true then ((r10_MayVec.f a3_0 a3_1 a3_2).bind fun t4 => (r10_Create.j0 k l0 a1 a2 (!t4) a3_0 a3_1 a3_2)) else (r10_Create.j0 k l0 a1 a2 true a3_0 a3_1 a3_2)) = some (r1, r2) := H
  have A8 := Aside0.mk A80
  clear A80
  by_cases c9 : t3 = true
  ·subst c9
   have H1 : ((r10_MayVec.f a3_0 a3_1 a3_2).bind fun t4 => (r10_Create.j0 k l0 a1 a2 (!t4) a3_0 a3_1 a3_2)) = some (r1, r2) := by rw [if_pos rfl] at H; exact H
   clear H
   have H := H1
   clear H1
   replace H := Option.bind_eq_some_iff.mp H
   obtain ⟨t4, A100, H⟩ := H
   replace H : (r10_Create.j0 k l0 a1 a2 (!t4) a3_0 a3_1 a3_2) = some (r1, r2) := H
   have A10 := Aside0.mk A100
   clear A100
   have H' := Aside0.mk H
   clear H
   go_wp2_with (first|((with_reducible refine gate_callee (f := 105) rfl ?_);refine goesL_ (some 13) rfl rfl Try.func105 (by kernel_rfl) rfl #[.string a1] rfl (by (try simp only [List.map_toArray, List.map_cons, List.map_nil]);first|done|rfl|(simp only [List.length_drop, List.length_take];rfl)) ?_;(with_reducible refine (r10_MayName.calls a1 true _ A8.out).mono ?_);rintro e w' ⟨rfl, ⟨nd, rfl⟩⟩;refine ⟨_, rfl, ?_⟩;have hnb11 := NB1_2.out;have hnc11 := NB2_1.out;have hcz12_0 : w7.cell? ⟨gb1, 0, none⟩ = some (.int .i64 a3_0) := (blk_cell BK1.out 0).trans rfl;have hcz12_1 : w7.cell? ⟨gb1, 1, none⟩ = some (.int .i64 a3_1) := (blk_cell BK1.out 1).trans rfl;have hcz12_2 : w7.cell? ⟨gb1, 2, none⟩ = some (.int .i64 a3_2) := (blk_cell BK1.out 2).trans rfl;have hfz12_0 := blk_frozen BK1.out 0;have hfz12_1 := blk_frozen BK1.out 1;have hfz12_2 := blk_frozen BK1.out 2)|(go_at_call 65;(with_reducible refine (r10_MayVec.calls a3_0 a3_1 a3_2 t4 _ A10.out).mono ?_);rintro e w13 ⟨rfl, hb⟩;have n0_ := Aside0.mk (blk_below (g := gb1) (o := .cells #[.int .i64 a3_0, .int .i64 a3_1, .int .i64 a3_2] 27 (0, 0)) (by (with_reducible repeat (first|refine blk_drewN ?_ _|refine blk_drew ?_|refine blk_alloc ?_ _));exact BK1.out) hb);have n1_ := Aside0.mk (blk_below (g := gb2) (o := .cells #[.slice none 0 0, .int .i64 0] 67 (0, 0)) (by (with_reducible repeat (first|refine blk_drewN ?_ _|refine blk_drew ?_|refine blk_alloc ?_ _));exact BK2.out) hb);have n2_ := Aside0.mk (below_step (by repeat (first|(with_reducible first|exact HB.out|apply below_alloc|apply pw_below_drewN|apply below_drew1|refine below_set ?_ GE1.out|refine below_set ?_ GE2.out)|exact HB.out)) hb);clear BK1;clear BK2;clear HB;have BK1 := n0_;have BK2 := n1_;have HB := n2_;clear n0_ n1_ n2_;(try clear hb);(try clear hb2);(try clear hk);(try clear hi)))
   go_meet
   case rel => exact ⟨_, (!t4), (by first|rfl|(simp;done)|(simp [*];done)), H', ⟨by first|omega|exact Nat.le_refl _⟩, ⟨by (with_reducible repeat (first|refine blk_drewN ?_ _|refine blk_drew ?_|refine blk_alloc ?_ _));exact BK1.out⟩, ⟨by (with_reducible repeat (first|refine blk_drewN ?_ _|refine blk_drew ?_|refine blk_alloc ?_ _));exact BK2.out⟩, ⟨by repeat (first|(with_reducible first|exact HB.out|apply below_alloc|apply pw_below_drewN|apply below_drew1|refine below_set ?_ GE1.out|refine below_set ?_ GE2.out)|exact HB.out)⟩⟩
  ·replace c9 := Bool.eq_false_iff.mpr c9
   subst c9
   have H1 : (r10_Create.j0 k l0 a1 a2 true a3_0 a3_1 a3_2) = some (r1, r2) := by rw [if_neg (show ¬ (false = true) by decide)] at H; exact H
   clear H
   have H := H1
   clear H1
   have H' := Aside0.mk H
   clear H
   go_wp2_with (first|((with_reducible refine gate_callee (f := 105) rfl ?_);refine goesL_ (some 13) rfl rfl Try.func105 (by kernel_rfl) rfl #[.string a1] rfl (by (try simp only [List.map_toArray, List.map_cons, List.map_nil]);first|done|rfl|(simp only [List.length_drop, List.length_take];rfl)) ?_;(with_reducible refine (r10_MayName.calls a1 false _ A8.out).mono ?_);rintro e w' ⟨rfl, ⟨nd, rfl⟩⟩;refine ⟨_, rfl, ?_⟩))
   go_meet
   case rel => exact ⟨_, (true), (by first|rfl|(simp;done)|(simp [*];done)), H', ⟨by first|omega|exact Nat.le_refl _⟩, ⟨by (with_reducible repeat (first|refine blk_drewN ?_ _|refine blk_drew ?_|refine blk_alloc ?_ _));exact BK1.out⟩, ⟨by (with_reducible repeat (first|refine blk_drewN ?_ _|refine blk_drew ?_|refine blk_alloc ?_ _));exact BK2.out⟩, ⟨by repeat (first|(with_reducible first|exact HB.out|apply below_alloc|apply pw_below_drewN|apply below_drew1|refine below_set ?_ GE1.out|refine below_set ?_ GE2.out)|exact HB.out)⟩⟩
 case rest =>
  clear HC5
  try clear c1
  try clear p2
  try clear c8
  try clear c9
  try clear c10
  try clear c11
  try clear hcz12_0
  try clear hcz12_1
  try clear hcz12_2
  try clear hfz12_0
  try clear hfz12_1
  try clear hfz12_2
  obtain ⟨kq, x11_4, rfl, HA, HJ4, BK1, BK2, HB⟩ := hcut
  cases kq with
  | zero => exact absurd HA.out (by simp [r10_Create.j0])
  | succ kj4 =>
   have H := HA.out
   clear HA
   simp only [r10_Create.j0] at H
   by_cases c14 : x11_4 = true
   ·subst c14
    have H1 : ((r10_no.f 1).bind fun bt5 => (some (bt5.1, bt5.2))) = some (r1, r2) := by rw [if_pos rfl] at H; exact H
    clear H
    have H := H1
    clear H1
    replace H := Option.bind_eq_some_iff.mp H
    obtain ⟨⟨t5, t8⟩, A150, H⟩ := H
    replace H : (some (t5, t8)) = some (r1, r2) := H
    have A15 := Aside0.mk A150
    clear A150
    simp only [Option.some.injEq, Prod.mk.injEq] at H
    obtain ⟨rfl, rfl⟩ := H
    go_wp2_with (first|((with_reducible refine gate_callee (f := 113) rfl ?_);refine goesL_ (some 20) rfl rfl Try.func113 (by kernel_rfl) rfl #[.int .i64 1] rfl (by (try simp only [List.map_toArray, List.map_cons, List.map_nil]);first|done|rfl|(simp only [List.length_drop, List.length_take];rfl)) ?_;(with_reducible refine (r10_no.calls 1 t5 t8 _ A15.out).mono ?_);rintro e w16 ⟨v6, rfl, ho0, hb⟩;refine ⟨_, rfl, ?_⟩;have n0_ := Aside0.mk (Kd.R_lower ho0 (below_size (by repeat (first|(with_reducible first|exact HB.out|apply below_alloc|apply pw_below_drewN|apply below_drew1|refine below_set ?_ GE1.out|refine below_set ?_ GE2.out)|exact HB.out))));have n1_ := Aside0.mk (blk_below (g := gb1) (o := .cells #[.int .i64 a3_0, .int .i64 a3_1, .int .i64 a3_2] 27 (0, 0)) (by (with_reducible repeat (first|refine blk_drewN ?_ _|refine blk_drew ?_|refine blk_alloc ?_ _));exact BK1.out) hb);have n2_ := Aside0.mk (blk_below (g := gb2) (o := .cells #[.slice none 0 0, .int .i64 0] 67 (0, 0)) (by (with_reducible repeat (first|refine blk_drewN ?_ _|refine blk_drew ?_|refine blk_alloc ?_ _));exact BK2.out) hb);have n3_ := Aside0.mk (below_step (by repeat (first|(with_reducible first|exact HB.out|apply below_alloc|apply pw_below_drewN|apply below_drew1|refine below_set ?_ GE1.out|refine below_set ?_ GE2.out)|exact HB.out)) hb);clear BK1;clear BK2;clear HB;have HO7 := n0_;have BK1 := n1_;have BK2 := n2_;have HB := n3_;clear n0_ n1_ n2_ n3_;(try clear hb);(try clear hb2);(try clear hk);(try clear hi);(try clear ho0);obtain ⟨Ao17, co17, eo17⟩ := Kd.R_slice HO7.out;subst eo17;have hnb18 := NB2_1.out;have hnc18 := NB1_2.out;have hcz19_0 : w16.cell? ⟨gb2, 0, none⟩ = some (.slice none 0 0) := (blk_cell BK2.out 0).trans rfl;have hcz19_1 : w16.cell? ⟨gb2, 1, none⟩ = some (.int .i64 0) := (blk_cell BK2.out 1).trans rfl;have hfz19_0 := blk_frozen BK2.out 0;have hfz19_1 := blk_frozen BK2.out 1))
    refine bodyPost_ret (results_cell_row rfl _ _ gb2 67 #[.slice Ao17 t5.length co17, .int .i64 t8] (0, 0) _ rfl (by (with_reducible repeat (first|refine blk_drewN ?_ _|refine blk_drew ?_|refine blk_alloc ?_ _));refine blk_put (cs := #[.slice Ao17 t5.length co17, .int .i64 0]) ?_ 1 _ rfl;(with_reducible repeat (first|refine blk_drewN ?_ _|refine blk_drew ?_|refine blk_alloc ?_ _));refine blk_put (cs := #[.slice none 0 0, .int .i64 0]) ?_ 0 _ rfl;(with_reducible repeat (first|refine blk_drewN ?_ _|refine blk_drew ?_|refine blk_alloc ?_ _));exact BK2.out) Try.underlying67 rfl (by kernel_rfl)) rfl ?_
    exact ⟨_, by first|rfl|(simp [errW_none, errW_some] <;> rfl)|(simp [*, errW_none, errW_some] <;> rfl), by (with_reducible repeat (first|apply Kd.R_alloc|apply Kd.R_drewN|apply Kd.R_drew));exact Kd.R_mono (Kd.R_far (p := ⟨gb2, 1, none⟩) (Kd.R_far (p := ⟨gb2, 0, none⟩) (Kd.R_types HO7.out BK2.out (by decide)) (fun _ hk => hk.2) (.slice Ao17 t5.length co17)) (fun _ hk => hk.2) (.int .i64 t8)) (fun _ hk => trivial), by repeat (first|(with_reducible first|exact HB.out|apply below_alloc|apply pw_below_drewN|apply below_drew1|refine below_set ?_ GE1.out|refine below_set ?_ GE2.out)|exact HB.out)⟩
   ·replace c14 := Bool.eq_false_iff.mpr c14
    subst c14
    have H1 : ((r10_Find.f kj4 l0 a1).bind fun t9 => (if t9 ≥ 0 then ((r10_no.f 3).bind fun bt10 => (some (bt10.1, bt10.2))) else (if a2.toList = ([] : List UInt8) then (r10_Create.j1 kj4 l0 a1 a2 false a3_0 a3_1 a3_2) else ((r10_Find.f kj4 l0 a2).bind fun t14 => (r10_Create.j1 kj4 l0 a1 a2 (decide (t14 < 0)) a3_0 a3_1 a3_2))))) = some (r1, r2) := by rw [if_neg (show ¬ (false = true) by decide)] at H; exact H
    clear H
    have H := H1
    clear H1
    replace H := Option.bind_eq_some_iff.mp H
    obtain ⟨t9, A200, H⟩ := H
    replace H : (if t9 ≥ 0 then ((r10_no.f 3).bind fun bt10 => (some (bt10.1, bt10.2))) else (if a2.toList = ([] : List UInt8) then (r10_Create.j1 kj4 l0 a1 a2 false a3_0 a3_1 a3_2) else ((r10_Find.f kj4 l0 a2).bind fun t14 => (r10_Create.j1 kj4 l0 a1 a2 (decide (t14 < 0)) a3_0 a3_1 a3_2)))) = some (r1, r2) := H
    have A20 := Aside0.mk A200
    clear A200
    by_cases c21 : t9 ≥ 0
    ·rw [if_pos c21] at H
     have c21b0 : decide (0 ≤ t9) = true := decide_eq_true c21
     clear c21
     replace H := Option.bind_eq_some_iff.mp H
     obtain ⟨⟨t10, t13⟩, A220, H⟩ := H
     replace H : (some (t10, t13)) = some (r1, r2) := H
     have A22 := Aside0.mk A220
     clear A220
     simp only [Option.some.injEq, Prod.mk.injEq] at H
     obtain ⟨rfl, rfl⟩ := H
     go_wp2_with (first|((with_reducible refine gate_callee (f := 50) rfl ?_);refine goesL_ (some 24) rfl rfl Try.func50 (by kernel_rfl) rfl #[.slice A0 l0.length c0, .string a1] rfl (by (try simp only [List.map_toArray, List.map_cons, List.map_nil]);first|done|rfl|(simp only [List.length_drop, List.length_take];rfl)) ?_;(with_reducible refine (r10_Find.calls kj4 _ _ l0 a1 t9 _ ?side1 ?side2 A20.out).mono ?_);(case side1 => repeat (first|exact (Kd.C_below HR0.out HB.out)|(with_reducible refine Kd.C_alloc ?_ _)|(with_reducible refine Kd.C_drewN ?_ _)|(with_reducible refine Kd.C_drew ?_)));(case side2 => exact HC0.out);rintro e w' ⟨rfl, ⟨nd, rfl⟩⟩;refine ⟨_, rfl, ?_⟩;(try (rw [drewN_self wc];generalize hq_ : World.drewN wc _ = wc;have n0_ : Aside0 (wc.heap[gb1]? = some (.cells #[.int .i64 a3_0, .int .i64 a3_1, .int .i64 a3_2] 27 (0, 0))) := ⟨by rw [← hq_];exact (by (with_reducible repeat (first|refine blk_drewN ?_ _|refine blk_drew ?_|refine blk_alloc ?_ _));exact BK1.out)⟩;have n1_ : Aside0 (wc.heap[gb2]? = some (.cells #[.slice none 0 0, .int .i64 0] 67 (0, 0))) := ⟨by rw [← hq_];exact (by (with_reducible repeat (first|refine blk_drewN ?_ _|refine blk_drew ?_|refine blk_alloc ?_ _));exact BK2.out)⟩;have n2_ : Aside0 (Below w.heap.size w wc) := ⟨by rw [← hq_];exact (by repeat (first|(with_reducible first|exact HB.out|apply below_alloc|apply pw_below_drewN|apply below_drew1|refine below_set ?_ GE1.out|refine below_set ?_ GE2.out)|exact HB.out))⟩;clear BK1 BK2 HB hq_;have BK1 := n0_;have BK2 := n1_;have HB := n2_;clear n0_ n1_ n2_)))|((with_reducible refine gate_callee (f := 113) rfl ?_);refine goesL_ (some 26) rfl rfl Try.func113 (by kernel_rfl) rfl #[.int .i64 3] rfl (by (try simp only [List.map_toArray, List.map_cons, List.map_nil]);first|done|rfl|(simp only [List.length_drop, List.length_take];rfl)) ?_;(with_reducible refine (r10_no.calls 3 t10 t13 _ A22.out).mono ?_);rintro e w23 ⟨v11, rfl, ho0, hb⟩;refine ⟨_, rfl, ?_⟩;have n0_ := Aside0.mk (Kd.R_lower ho0 (below_size (by repeat (first|(with_reducible first|exact HB.out|apply below_alloc|apply pw_below_drewN|apply below_drew1|refine below_set ?_ GE1.out|refine below_set ?_ GE2.out)|exact HB.out))));have n1_ := Aside0.mk (blk_below (g := gb1) (o := .cells #[.int .i64 a3_0, .int .i64 a3_1, .int .i64 a3_2] 27 (0, 0)) (by (with_reducible repeat (first|refine blk_drewN ?_ _|refine blk_drew ?_|refine blk_alloc ?_ _));exact BK1.out) hb);have n2_ := Aside0.mk (blk_below (g := gb2) (o := .cells #[.slice none 0 0, .int .i64 0] 67 (0, 0)) (by (with_reducible repeat (first|refine blk_drewN ?_ _|refine blk_drew ?_|refine blk_alloc ?_ _));exact BK2.out) hb);have n3_ := Aside0.mk (below_step (by repeat (first|(with_reducible first|exact HB.out|apply below_alloc|apply pw_below_drewN|apply below_drew1|refine below_set ?_ GE1.out|refine below_set ?_ GE2.out)|exact HB.out)) hb);clear BK1;clear BK2;clear HB;have HO12 := n0_;have BK1 := n1_;have BK2 := n2_;have HB := n3_;clear n0_ n1_ n2_ n3_;(try clear hb);(try clear hb2);(try clear hk);(try clear hi);(try clear ho0);obtain ⟨Ao24, co24, eo24⟩ := Kd.R_slice HO12.out;subst eo24;have hnb25 := NB2_1.out;have hnc25 := NB1_2.out;have hcz26_0 : w23.cell? ⟨gb2, 0, none⟩ = some (.slice none 0 0) := (blk_cell BK2.out 0).trans rfl;have hcz26_1 : w23.cell? ⟨gb2, 1, none⟩ = some (.int .i64 0) := (blk_cell BK2.out 1).trans rfl;have hfz26_0 := blk_frozen BK2.out 0;have hfz26_1 := blk_frozen BK2.out 1))
     refine bodyPost_ret (results_cell_row rfl _ _ gb2 67 #[.slice Ao24 t10.length co24, .int .i64 t13] (0, 0) _ rfl (by (with_reducible repeat (first|refine blk_drewN ?_ _|refine blk_drew ?_|refine blk_alloc ?_ _));refine blk_put (cs := #[.slice Ao24 t10.length co24, .int .i64 0]) ?_ 1 _ rfl;(with_reducible repeat (first|refine blk_drewN ?_ _|refine blk_drew ?_|refine blk_alloc ?_ _));refine blk_put (cs := #[.slice none 0 0, .int .i64 0]) ?_ 0 _ rfl;(with_reducible repeat (first|refine blk_drewN ?_ _|refine blk_drew ?_|refine blk_alloc ?_ _));exact BK2.out) Try.underlying67 rfl (by kernel_rfl)) rfl ?_
     exact ⟨_, by first|rfl|(simp [errW_none, errW_some] <;> rfl)|(simp [*, errW_none, errW_some] <;> rfl), by (with_reducible repeat (first|apply Kd.R_alloc|apply Kd.R_drewN|apply Kd.R_drew));exact Kd.R_mono (Kd.R_far (p := ⟨gb2, 1, none⟩) (Kd.R_far (p := ⟨gb2, 0, none⟩) (Kd.R_types HO12.out BK2.out (by decide)) (fun _ hk => hk.2) (.slice Ao24 t10.length co24)) (fun _ hk => hk.2) (.int .i64 t13)) (fun _ hk => trivial), by repeat (first|(with_reducible first|exact HB.out|apply below_alloc|apply pw_below_drewN|apply below_drew1|refine below_set ?_ GE1.out|refine below_set ?_ GE2.out)|exact HB.out)⟩
    ·rw [if_neg c21] at H
     have c21b0 : decide (0 ≤ t9) = false := decide_eq_false c21
     clear c21
     have HC27 := Aside0.mk H
     clear H
     go_upto_region 5 with (first|((with_reducible refine gate_callee (f := 50) rfl ?_);refine goesL_ (some 24) rfl rfl Try.func50 (by kernel_rfl) rfl #[.slice A0 l0.length c0, .string a1] rfl (by (try simp only [List.map_toArray, List.map_cons, List.map_nil]);first|done|rfl|(simp only [List.length_drop, List.length_take];rfl)) ?_;(with_reducible refine (r10_Find.calls kj4 _ _ l0 a1 t9 _ ?side1 ?side2 A20.out).mono ?_);(case side1 => repeat (first|exact (Kd.C_below HR0.out HB.out)|(with_reducible refine Kd.C_alloc ?_ _)|(with_reducible refine Kd.C_drewN ?_ _)|(with_reducible refine Kd.C_drew ?_)));(case side2 => exact HC0.out);rintro e w' ⟨rfl, ⟨nd, rfl⟩⟩;refine ⟨_, rfl, ?_⟩))
     (try simp only [Act.put, List.setIfInBounds_toArray, List.set_cons_zero, List.set_cons_succ])
     go_cut [27] (fun v27 wc => ∃ (kq : Nat) (x27_26 : Bool), v27 = .bool x27_26 ∧ Aside0 (r10_Create.j1 kq l0 a1 a2 x27_26 a3_0 a3_1 a3_2 = some (r1, r2)) ∧ Aside0 (kq ≤ kj4) ∧ Aside0 (wc.heap[gb1]? = some (.cells #[.int .i64 a3_0, .int .i64 a3_1, .int .i64 a3_2] 27 (0, 0))) ∧ Aside0 (wc.heap[gb2]? = some (.cells #[(.slice none 0 0), .int .i64 0] 67 (0, 0))) ∧ Aside0 (Below w.heap.size w wc))
     case first =>
      have H := HC27.out
      clear HC27
      by_cases c28 : a2.toList = ([] : List UInt8)
      ·rw [if_pos c28] at H
       have c28b0 : (a2.toList == ([] : List UInt8)) = true := beq_iff_eq.mpr c28
       have c28b1 : (a2.toList != ([] : List UInt8)) = false := bne_eq_false_iff_eq.mpr c28
       clear c28
       (first | rw [c28b0] | (simp only [i64_w, i32_w]; rw [c28b0]) | skip)
       have H' := Aside0.mk H
       clear H
       go_wp2
       go_meet
       case rel => exact ⟨_, (false), (by first|rfl|(simp;done)|(simp [*];done)), H', ⟨by have := HJ4.out;first|omega|exact Nat.le_refl _⟩, ⟨by (with_reducible repeat (first|refine blk_drewN ?_ _|refine blk_drew ?_|refine blk_alloc ?_ _));exact BK1.out⟩, ⟨by (with_reducible repeat (first|refine blk_drewN ?_ _|refine blk_drew ?_|refine blk_alloc ?_ _));exact BK2.out⟩, ⟨by repeat (first|(with_reducible first|exact HB.out|apply below_alloc|apply pw_below_drewN|apply below_drew1|refine below_set ?_ GE1.out|refine below_set ?_ GE2.out)|exact HB.out)⟩⟩
      ·rw [if_neg c28] at H
       have c28b0 : (a2.toList == ([] : List UInt8)) = false := beq_eq_false_iff_ne.mpr c28
       have c28b1 : (a2.toList != ([] : List UInt8)) = true := bne_iff_ne.mpr c28
       (first | rw [c28b0] | (simp only [i64_w, i32_w]; rw [c28b0]) | skip)
       replace H := Option.bind_eq_some_iff.mp H
       obtain ⟨t14, A290, H⟩ := H
       replace H : (r10_Create.j1 kj4 l0 a1 a2 (decide (t14 < 0)) a3_0 a3_1 a3_2) = some (r1, r2) := H
       have A29 := Aside0.mk A290
       clear A290
       have H' := Aside0.mk H
       clear H
       go_wp2_with (first|(go_at_call 50;(with_reducible refine (r10_Find.calls kj4 _ _ l0 a2 t14 _ ?side1 ?side2 A29.out).mono ?_);(case side1 => repeat (first|exact (Kd.C_below HR0.out HB.out)|(with_reducible refine Kd.C_alloc ?_ _)|(with_reducible refine Kd.C_drewN ?_ _)|(with_reducible refine Kd.C_drew ?_)));(case side2 => exact HC0.out);rintro e w' ⟨rfl, ⟨nd, rfl⟩⟩))
       go_meet
       case rel => exact ⟨_, (decide (t14 < 0)), (by first|rfl|(simp;done)|(simp [*];done)), H', ⟨by have := HJ4.out;first|omega|exact Nat.le_refl _⟩, ⟨by (with_reducible repeat (first|refine blk_drewN ?_ _|refine blk_drew ?_|refine blk_alloc ?_ _));exact BK1.out⟩, ⟨by (with_reducible repeat (first|refine blk_drewN ?_ _|refine blk_drew ?_|refine blk_alloc ?_ _));exact BK2.out⟩, ⟨by repeat (first|(with_reducible first|exact HB.out|apply below_alloc|apply pw_below_drewN|apply below_drew1|refine below_set ?_ GE1.out|refine below_set ?_ GE2.out)|exact HB.out)⟩⟩
     case rest =>
      clear HC27
      try clear c1
      try clear c2
      try clear p2
      try clear c5
      try clear c8
      try clear c9
      try clear c10
      try clear c11
      try clear c14
      try clear c18
      try clear c21
      try clear c21b0
      try clear c25
      try clear c28
      try clear c28b0
      try clear c28b1
      try clear hcz12_0
      try clear hcz12_1
      try clear hcz12_2
      try clear hcz19_0
      try clear hcz19_1
      try clear hcz26_0
      try clear hcz26_1
      try clear hfz12_0
      try clear hfz12_1
      try clear hfz12_2
      try clear hfz19_0
      try clear hfz19_1
      try clear hfz26_0
      try clear hfz26_1
      try clear p2
      obtain ⟨kq, x27_26, rfl, HA, HJ26, BK1, BK2, HB⟩ := hcut
      cases kq with
      | zero => exact absurd HA.out (by simp [r10_Create.j1])
      | succ kj26 =>
       have H := HA.out
       clear HA
       simp only [r10_Create.j1] at H
       by_cases c30 : x27_26 = true
       ·subst c30
        have H1 : ((r10_no.f 2).bind fun bt15 => (some (bt15.1, bt15.2))) = some (r1, r2) := by rw [if_pos rfl] at H; exact H
        clear H
        have H := H1
        clear H1
        replace H := Option.bind_eq_some_iff.mp H
        obtain ⟨⟨t15, t18⟩, A310, H⟩ := H
        replace H : (some (t15, t18)) = some (r1, r2) := H
        have A31 := Aside0.mk A310
        clear A310
        simp only [Option.some.injEq, Prod.mk.injEq] at H
        obtain ⟨rfl, rfl⟩ := H
        go_wp2_with (first|((with_reducible refine gate_callee (f := 113) rfl ?_);refine goesL_ (some 36) rfl rfl Try.func113 (by kernel_rfl) rfl #[.int .i64 2] rfl (by (try simp only [List.map_toArray, List.map_cons, List.map_nil]);first|done|rfl|(simp only [List.length_drop, List.length_take];rfl)) ?_;(with_reducible refine (r10_no.calls 2 t15 t18 _ A31.out).mono ?_);rintro e w32 ⟨v16, rfl, ho0, hb⟩;refine ⟨_, rfl, ?_⟩;have n0_ := Aside0.mk (Kd.R_lower ho0 (below_size (by repeat (first|(with_reducible first|exact HB.out|apply below_alloc|apply pw_below_drewN|apply below_drew1|refine below_set ?_ GE1.out|refine below_set ?_ GE2.out)|exact HB.out))));have n1_ := Aside0.mk (blk_below (g := gb1) (o := .cells #[.int .i64 a3_0, .int .i64 a3_1, .int .i64 a3_2] 27 (0, 0)) (by (with_reducible repeat (first|refine blk_drewN ?_ _|refine blk_drew ?_|refine blk_alloc ?_ _));exact BK1.out) hb);have n2_ := Aside0.mk (blk_below (g := gb2) (o := .cells #[.slice none 0 0, .int .i64 0] 67 (0, 0)) (by (with_reducible repeat (first|refine blk_drewN ?_ _|refine blk_drew ?_|refine blk_alloc ?_ _));exact BK2.out) hb);have n3_ := Aside0.mk (below_step (by repeat (first|(with_reducible first|exact HB.out|apply below_alloc|apply pw_below_drewN|apply below_drew1|refine below_set ?_ GE1.out|refine below_set ?_ GE2.out)|exact HB.out)) hb);clear BK1;clear BK2;clear HB;have HO17 := n0_;have BK1 := n1_;have BK2 := n2_;have HB := n3_;clear n0_ n1_ n2_ n3_;(try clear hb);(try clear hb2);(try clear hk);(try clear hi);(try clear ho0);obtain ⟨Ao33, co33, eo33⟩ := Kd.R_slice HO17.out;subst eo33;have hnb34 := NB2_1.out;have hnc34 := NB1_2.out;have hcz35_0 : w32.cell? ⟨gb2, 0, none⟩ = some (.slice none 0 0) := (blk_cell BK2.out 0).trans rfl;have hcz35_1 : w32.cell? ⟨gb2, 1, none⟩ = some (.int .i64 0) := (blk_cell BK2.out 1).trans rfl;have hfz35_0 := blk_frozen BK2.out 0;have hfz35_1 := blk_frozen BK2.out 1))
        refine bodyPost_ret (results_cell_row rfl _ _ gb2 67 #[.slice Ao33 t15.length co33, .int .i64 t18] (0, 0) _ rfl (by (with_reducible repeat (first|refine blk_drewN ?_ _|refine blk_drew ?_|refine blk_alloc ?_ _));refine blk_put (cs := #[.slice Ao33 t15.length co33, .int .i64 0]) ?_ 1 _ rfl;(with_reducible repeat (first|refine blk_drewN ?_ _|refine blk_drew ?_|refine blk_alloc ?_ _));refine blk_put (cs := #[.slice none 0 0, .int .i64 0]) ?_ 0 _ rfl;(with_reducible repeat (first|refine blk_drewN ?_ _|refine blk_drew ?_|refine blk_alloc ?_ _));exact BK2.out) Try.underlying67 rfl (by kernel_rfl)) rfl ?_
        exact ⟨_, by first|rfl|(simp [errW_none, errW_some] <;> rfl)|(simp [*, errW_none, errW_some] <;> rfl), by (with_reducible repeat (first|apply Kd.R_alloc|apply Kd.R_drewN|apply Kd.R_drew));exact Kd.R_mono (Kd.R_far (p := ⟨gb2, 1, none⟩) (Kd.R_far (p := ⟨gb2, 0, none⟩) (Kd.R_types HO17.out BK2.out (by decide)) (fun _ hk => hk.2) (.slice Ao33 t15.length co33)) (fun _ hk => hk.2) (.int .i64 t18)) (fun _ hk => trivial), by repeat (first|(with_reducible first|exact HB.out|apply below_alloc|apply pw_below_drewN|apply below_drew1|refine below_set ?_ GE1.out|refine below_set ?_ GE2.out)|exact HB.out)⟩
       ·replace c30 := Bool.eq_false_iff.mpr c30
        subst c30
        have H1 : (if (l0.length : Int) ≥ 120 then ((r10_no.f 4).bind fun bt19 => (some (bt19.1, bt19.2))) else (r10_Create.l0 kj26 l0 a1 a2 0 a3_0 a3_1 a3_2)) = some (r1, r2) := by rw [if_neg (show ¬ (false = true) by decide)] at H; exact H
        clear H
        have H := H1
        clear H1
        by_cases c36 : (l0.length : Int) ≥ 120
        ·rw [if_pos c36] at H
         have c36b0 : decide (120 ≤ (l0.length : Int)) = true := decide_eq_true c36
         have c36b1 : decide (120 ≤ l0.length) = true := decide_eq_true (by omega)
         clear c36
         replace H := Option.bind_eq_some_iff.mp H
         obtain ⟨⟨t19, t22⟩, A370, H⟩ := H
         replace H : (some (t19, t22)) = some (r1, r2) := H
         have A37 := Aside0.mk A370
         clear A370
         simp only [Option.some.injEq, Prod.mk.injEq] at H
         obtain ⟨rfl, rfl⟩ := H
         go_wp2_with (first|((with_reducible refine gate_callee (f := 113) rfl ?_);refine goesL_ (some 41) rfl rfl Try.func113 (by kernel_rfl) rfl #[.int .i64 4] rfl (by (try simp only [List.map_toArray, List.map_cons, List.map_nil]);first|done|rfl|(simp only [List.length_drop, List.length_take];rfl)) ?_;(with_reducible refine (r10_no.calls 4 t19 t22 _ A37.out).mono ?_);rintro e w38 ⟨v20, rfl, ho0, hb⟩;refine ⟨_, rfl, ?_⟩;have n0_ := Aside0.mk (Kd.R_lower ho0 (below_size (by repeat (first|(with_reducible first|exact HB.out|apply below_alloc|apply pw_below_drewN|apply below_drew1|refine below_set ?_ GE1.out|refine below_set ?_ GE2.out)|exact HB.out))));have n1_ := Aside0.mk (blk_below (g := gb1) (o := .cells #[.int .i64 a3_0, .int .i64 a3_1, .int .i64 a3_2] 27 (0, 0)) (by (with_reducible repeat (first|refine blk_drewN ?_ _|refine blk_drew ?_|refine blk_alloc ?_ _));exact BK1.out) hb);have n2_ := Aside0.mk (blk_below (g := gb2) (o := .cells #[.slice none 0 0, .int .i64 0] 67 (0, 0)) (by (with_reducible repeat (first|refine blk_drewN ?_ _|refine blk_drew ?_|refine blk_alloc ?_ _));exact BK2.out) hb);have n3_ := Aside0.mk (below_step (by repeat (first|(with_reducible first|exact HB.out|apply below_alloc|apply pw_below_drewN|apply below_drew1|refine below_set ?_ GE1.out|refine below_set ?_ GE2.out)|exact HB.out)) hb);clear BK1;clear BK2;clear HB;have HO21 := n0_;have BK1 := n1_;have BK2 := n2_;have HB := n3_;clear n0_ n1_ n2_ n3_;(try clear hb);(try clear hb2);(try clear hk);(try clear hi);(try clear ho0);obtain ⟨Ao39, co39, eo39⟩ := Kd.R_slice HO21.out;subst eo39;have hnb40 := NB2_1.out;have hnc40 := NB1_2.out;have hcz41_0 : w38.cell? ⟨gb2, 0, none⟩ = some (.slice none 0 0) := (blk_cell BK2.out 0).trans rfl;have hcz41_1 : w38.cell? ⟨gb2, 1, none⟩ = some (.int .i64 0) := (blk_cell BK2.out 1).trans rfl;have hfz41_0 := blk_frozen BK2.out 0;have hfz41_1 := blk_frozen BK2.out 1))
         refine bodyPost_ret (results_cell_row rfl _ _ gb2 67 #[.slice Ao39 t19.length co39, .int .i64 t22] (0, 0) _ rfl (by (with_reducible repeat (first|refine blk_drewN ?_ _|refine blk_drew ?_|refine blk_alloc ?_ _));refine blk_put (cs := #[.slice Ao39 t19.length co39, .int .i64 0]) ?_ 1 _ rfl;(with_reducible repeat (first|refine blk_drewN ?_ _|refine blk_drew ?_|refine blk_alloc ?_ _));refine blk_put (cs := #[.slice none 0 0, .int .i64 0]) ?_ 0 _ rfl;(with_reducible repeat (first|refine blk_drewN ?_ _|refine blk_drew ?_|refine blk_alloc ?_ _));exact BK2.out) Try.underlying67 rfl (by kernel_rfl)) rfl ?_
         exact ⟨_, by first|rfl|(simp [errW_none, errW_some] <;> rfl)|(simp [*, errW_none, errW_some] <;> rfl), by (with_reducible repeat (first|apply Kd.R_alloc|apply Kd.R_drewN|apply Kd.R_drew));exact Kd.R_mono (Kd.R_far (p := ⟨gb2, 1, none⟩) (Kd.R_far (p := ⟨gb2, 0, none⟩) (Kd.R_types HO21.out BK2.out (by decide)) (fun _ hk => hk.2) (.slice Ao39 t19.length co39)) (fun _ hk => hk.2) (.int .i64 t22)) (fun _ hk => trivial), by repeat (first|(with_reducible first|exact HB.out|apply below_alloc|apply pw_below_drewN|apply below_drew1|refine below_set ?_ GE1.out|refine below_set ?_ GE2.out)|exact HB.out)⟩
        ·rw [if_neg c36] at H
         have c36b0 : decide (120 ≤ (l0.length : Int)) = false := decide_eq_false c36
         have c36b1 : decide (120 ≤ l0.length) = false := decide_eq_false (by omega)
         clear c36
         have H' := Aside0.mk H
         clear H
         go_wp2
         go_loopg [9] kj26 (fun kq v9 w' => ∃ (x9_3 : Int), v9 = .int .i64 x9_3 ∧ Aside0 (r10_Create.l0 kq l0 a1 a2 x9_3 a3_0 a3_1 a3_2 = some (r1, r2)) ∧ Aside0 (kq ≤ kj26) ∧ Aside0 (w'.heap[gb1]? = some (.cells #[.int .i64 a3_0, .int .i64 a3_1, .int .i64 a3_2] 27 (0, 0))) ∧ Aside0 (w'.heap[gb2]? = some (.cells #[(.slice none 0 0), .int .i64 0] 67 (0, 0))) ∧ Aside0 (Below w.heap.size w w'))
         case atStart => exact ⟨(0), (by first|rfl|(simp;done)|(simp [*];done)), H', ⟨Nat.le_refl _⟩, ⟨by (with_reducible repeat (first|refine blk_drewN ?_ _|refine blk_drew ?_|refine blk_alloc ?_ _));exact BK1.out⟩, ⟨by (with_reducible repeat (first|refine blk_drewN ?_ _|refine blk_drew ?_|refine blk_alloc ?_ _));exact BK2.out⟩, ⟨by repeat (first|(with_reducible first|exact HB.out|apply below_alloc|apply pw_below_drewN|apply below_drew1|refine below_set ?_ GE1.out|refine below_set ?_ GE2.out)|exact HB.out)⟩⟩
         case round =>
          clear H'
          try clear c1
          try clear c2
          try clear p2
          try clear c3
          try clear c4
          try clear c5
          try clear c8
          try clear c9
          try clear c10
          try clear c11
          try clear c14
          try clear c18
          try clear c21
          try clear c21b0
          try clear c25
          try clear c28
          try clear c28b0
          try clear c28b1
          try clear c30
          try clear c34
          try clear c36
          try clear c36b0
          try clear c36b1
          try clear c40
          try clear hcz12_0
          try clear hcz12_1
          try clear hcz12_2
          try clear hcz19_0
          try clear hcz19_1
          try clear hcz26_0
          try clear hcz26_1
          try clear hcz35_0
          try clear hcz35_1
          try clear hcz41_0
          try clear hcz41_1
          try clear hfz12_0
          try clear hfz12_1
          try clear hfz12_2
          try clear hfz19_0
          try clear hfz19_1
          try clear hfz26_0
          try clear hfz26_1
          try clear hfz35_0
          try clear hfz35_1
          try clear hfz41_0
          try clear hfz41_1
          try clear p2
          obtain ⟨x9_3, rfl, HA, HK3, BK1, BK2, HB⟩ := hrel
          cases gk with
          | zero => exact absurd HA.out (by simp [r10_Create.l0])
          | succ k3 =>
           have H := HA.out
           clear HA
           simp only [r10_Create.l0] at H
           by_cases c42 : x9_3 < (l0.length : Int)
           ·rw [if_pos c42] at H
            have c42b0 : decide (x9_3 < (l0.length : Int)) = true := decide_eq_true c42
            clear c42
            by_cases c43 : 0 ≤ x9_3
            ·rw [if_pos c43] at H
             have c43b0 : decide (0 ≤ x9_3) = true := decide_eq_true c43
             clear c43
             by_cases c44 : (Op.bytesLess (((rd_T31 l0 x9_3).f0).toList) a1.toList) = true
             ·rw [if_pos c44] at H
              have c44b0 : (Op.bytesLess (((rd_T31 l0 x9_3).f0).toList) a1.toList) = true := c44
              clear c44
              have H' := Aside0.mk H
              clear H
              have p23 : 0 ≤ (x9_3 : Int) := of_decide_eq_true (by first|(with_reducible assumption)|assumption)
              have q23 : x9_3 < (l0.length : Int) := of_decide_eq_true (by first|(with_reducible assumption)|assumption)
              obtain ⟨ad23, e23, hx23_0, hx23_1, hx23_2, hx23_3, hx23_4, hx23_5, hx23_6, hx23_7, hx23_8, hx23_9, hx23_10, hx23_11⟩ := at_T31 HR0.out x9_3 p23 q23
              cases e23
              replace hx23_0 := (HB.out.cell (World.block_lt_of_cell? w _ hx23_0)).trans hx23_0
              replace hx23_1 := (HB.out.cell (World.block_lt_of_cell? w _ hx23_1)).trans hx23_1
              replace hx23_2 := (HB.out.cell (World.block_lt_of_cell? w _ hx23_2)).trans hx23_2
              replace hx23_3 := (HB.out.cell (World.block_lt_of_cell? w _ hx23_3)).trans hx23_3
              replace hx23_4 := (HB.out.cell (World.block_lt_of_cell? w _ hx23_4)).trans hx23_4
              replace hx23_5 := (HB.out.cell (World.block_lt_of_cell? w _ hx23_5)).trans hx23_5
              replace hx23_6 := (HB.out.cell (World.block_lt_of_cell? w _ hx23_6)).trans hx23_6
              replace hx23_7 := (HB.out.cell (World.block_lt_of_cell? w _ hx23_7)).trans hx23_7
              replace hx23_8 := (HB.out.cell (World.block_lt_of_cell? w _ hx23_8)).trans hx23_8
              replace hx23_9 := (HB.out.cell (World.block_lt_of_cell? w _ hx23_9)).trans hx23_9
              replace hx23_10 := (HB.out.cell (World.block_lt_of_cell? w _ hx23_10)).trans hx23_10
              replace hx23_11 := (HB.out.cell (World.block_lt_of_cell? w _ hx23_11)).trans hx23_11
              replace p23 := eq_true p23
              replace q23 := eq_true q23
              go_wp2
              go_roundg k3
              case measure => have := HJ4.out; have := HJ26.out; have := HK3.out; omega
              case rel => exact ⟨(wrap64 (x9_3 + 1)), (by first|rfl|(simp;done)|(simp [*];done)), H', ⟨by have := HJ4.out;have := HJ26.out;have := HK3.out;omega⟩, ⟨by (with_reducible repeat (first|refine blk_drewN ?_ _|refine blk_drew ?_|refine blk_alloc ?_ _));exact BK1.out⟩, ⟨by (with_reducible repeat (first|refine blk_drewN ?_ _|refine blk_drew ?_|refine blk_alloc ?_ _));exact BK2.out⟩, ⟨by repeat (first|(with_reducible first|exact HB.out|apply below_alloc|apply pw_below_drewN|apply below_drew1|refine below_set ?_ GE1.out|refine below_set ?_ GE2.out)|exact HB.out)⟩⟩
             ·rw [if_neg c44] at H
              have c44b0 : (Op.bytesLess (((rd_T31 l0 x9_3).f0).toList) a1.toList) = false := by simpa using c44
              clear c44
              have c45b0 := eq_true (of_decide_eq_true (by first|(with_reducible assumption)|assumption) : 0 ≤ x9_3)
              by_cases c46 : x9_3 ≤ (l0.length : Int)
              ·rw [if_pos c46] at H
               have c46b0 := eq_true c46
               have c46b1 : decide (x9_3 ≤ (l0.length : Int)) = true := decide_eq_true c46
               clear c46
               obtain ⟨y24, hy24⟩ : ∃ y_ : List (S31), y_ = (l0.take (x9_3 : Int).toNat) := ⟨_, rfl⟩
               replace H : ((r10_copied.f y24).bind fun t28 => (if t28.length < 1256584717458 then ((some (t28 ++ [(⟨a1, a2, (⟨a3_0, a3_1, a3_2⟩ : S27), (⟨0, 0, 0⟩ : S27), (⟨0, 0, 0⟩ : S27), 1⟩ : S31)] : List (S31))).bind fun y31 => ((some (l0.drop (x9_3 : Int).toNat : List (S31))).bind fun y34 => (if y31.length + y34.length < 1256584717458 then (some ((y31 ++ y34), 0)) else (none)))) else (none))) = some (r1, r2) := by first|(rw [hy24];with_reducible exact H)|(have H2_ := (Option.bind_some _ _).symm.trans H;rw [hy24];with_reducible exact H2_)|(have H2_ := (Option.bind_some _ _).symm.trans H;with_reducible exact H2_)|with_reducible exact H|(rw [hy24];exact H)|exact H
               have Ny24 := Aside0.mk hy24
               clear hy24
               replace H := Option.bind_eq_some_iff.mp H
               obtain ⟨t28, A470, H⟩ := H
               replace H : (if t28.length < 1256584717458 then ((some (t28 ++ [(⟨a1, a2, (⟨a3_0, a3_1, a3_2⟩ : S27), (⟨0, 0, 0⟩ : S27), (⟨0, 0, 0⟩ : S27), 1⟩ : S31)] : List (S31))).bind fun y31 => ((some (l0.drop (x9_3 : Int).toNat : List (S31))).bind fun y34 => (if y31.length + y34.length < 1256584717458 then (some ((y31 ++ y34), 0)) else (none)))) else (none)) = some (r1, r2) := H
               have A47 := Aside0.mk A470
               clear A470
               by_cases c48 : t28.length < 1256584717458
               ·rw [if_pos c48] at H
                have LMc48 := Aside0.mk c48
                clear c48
                obtain ⟨y31, hy31⟩ : ∃ y_ : List (S31), y_ = (t28 ++ [(⟨a1, a2, (⟨a3_0, a3_1, a3_2⟩ : S27), (⟨0, 0, 0⟩ : S27), (⟨0, 0, 0⟩ : S27), 1⟩ : S31)]) := ⟨_, rfl⟩
                replace H : ((some (l0.drop (x9_3 : Int).toNat : List (S31))).bind fun y34 => (if y31.length + y34.length < 1256584717458 then (some ((y31 ++ y34), 0)) else (none))) = some (r1, r2) := by first|(rw [hy31];with_reducible exact H)|(have H2_ := (Option.bind_some _ _).symm.trans H;rw [hy31];with_reducible exact H2_)|(have H2_ := (Option.bind_some _ _).symm.trans H;with_reducible exact H2_)|with_reducible exact H|(rw [hy31];exact H)|exact H
                have Ny31 := Aside0.mk hy31
                clear hy31
                have c49b0 := eq_true (of_decide_eq_true (by first|(with_reducible assumption)|assumption) : 0 ≤ x9_3)
                have c50b0 := eq_true (of_decide_eq_true (by first|(with_reducible assumption)|assumption) : x9_3 ≤ (l0.length : Int))
                obtain ⟨y34, hy34⟩ : ∃ y_ : List (S31), y_ = (l0.drop (x9_3 : Int).toNat) := ⟨_, rfl⟩
                replace H : (if y31.length + y34.length < 1256584717458 then (some ((y31 ++ y34), 0)) else (none)) = some (r1, r2) := by first|(rw [hy34];with_reducible exact H)|(have H2_ := (Option.bind_some _ _).symm.trans H;rw [hy34];with_reducible exact H2_)|(have H2_ := (Option.bind_some _ _).symm.trans H;with_reducible exact H2_)|with_reducible exact H|(rw [hy34];exact H)|exact H
                have Ny34 := Aside0.mk hy34
                clear hy34
                by_cases c51 : y31.length + y34.length < 1256584717458
                ·rw [if_pos c51] at H
                 have LMc51 := Aside0.mk c51
                 clear c51
                 obtain ⟨y38, hy38⟩ : ∃ y_ : List (S31), y_ = (y31 ++ y34) := ⟨_, rfl⟩
                 replace H : (some (y38, 0)) = some (r1, r2) := by first|(rw [hy38];with_reducible exact H)|(have H2_ := (Option.bind_some _ _).symm.trans H;rw [hy38];with_reducible exact H2_)|(have H2_ := (Option.bind_some _ _).symm.trans H;with_reducible exact H2_)|with_reducible exact H|(rw [hy38];exact H)|exact H
                 have Ny38 := Aside0.mk hy38
                 clear hy38
                 simp only [Option.some.injEq, Prod.mk.injEq] at H
                 obtain ⟨rfl, rfl⟩ := H
                 have p23 : 0 ≤ (x9_3 : Int) := of_decide_eq_true (by first|(with_reducible assumption)|assumption)
                 have q23 : x9_3 < (l0.length : Int) := of_decide_eq_true (by first|(with_reducible assumption)|assumption)
                 obtain ⟨ad23, e23, hx23_0, hx23_1, hx23_2, hx23_3, hx23_4, hx23_5, hx23_6, hx23_7, hx23_8, hx23_9, hx23_10, hx23_11⟩ := at_T31 HR0.out x9_3 p23 q23
                 cases e23
                 replace hx23_0 := (HB.out.cell (World.block_lt_of_cell? w _ hx23_0)).trans hx23_0
                 replace hx23_1 := (HB.out.cell (World.block_lt_of_cell? w _ hx23_1)).trans hx23_1
                 replace hx23_2 := (HB.out.cell (World.block_lt_of_cell? w _ hx23_2)).trans hx23_2
                 replace hx23_3 := (HB.out.cell (World.block_lt_of_cell? w _ hx23_3)).trans hx23_3
                 replace hx23_4 := (HB.out.cell (World.block_lt_of_cell? w _ hx23_4)).trans hx23_4
                 replace hx23_5 := (HB.out.cell (World.block_lt_of_cell? w _ hx23_5)).trans hx23_5
                 replace hx23_6 := (HB.out.cell (World.block_lt_of_cell? w _ hx23_6)).trans hx23_6
                 replace hx23_7 := (HB.out.cell (World.block_lt_of_cell? w _ hx23_7)).trans hx23_7
                 replace hx23_8 := (HB.out.cell (World.block_lt_of_cell? w _ hx23_8)).trans hx23_8
                 replace hx23_9 := (HB.out.cell (World.block_lt_of_cell? w _ hx23_9)).trans hx23_9
                 replace hx23_10 := (HB.out.cell (World.block_lt_of_cell? w _ hx23_10)).trans hx23_10
                 replace hx23_11 := (HB.out.cell (World.block_lt_of_cell? w _ hx23_11)).trans hx23_11
                 replace p23 := eq_true p23
                 replace q23 := eq_true q23
                 have q52 : (x9_3 : Int) ≤ ((l0.length : Int) : Int) := of_decide_eq_true (by first|(with_reducible assumption)|assumption)
                 obtain ⟨i052, hi052, _, hsz52, _⟩ := info_parts info31
                 have hroom52 : l0.length ≤ c0 := HC0.out
                 have hC52 : Kd.C k31 _ (some ad23) l0.length l0 := HR0.out
                 have hcut52 := cut_to (P := Try.prog) 24 31 .i64 Try.underlying24 hi052 (some ad23) l0.length c0 x9_3 (of_decide_eq_true (by first|(with_reducible assumption)|assumption)) q52 hroom52
                 have hr52 := Kd.C_take (m := (x9_3 : Int).toNat) hC52 (by omega)
                 have hy52 : y24.length = (x9_3 : Int).toNat := (by rw [Ny24.out, List.length_take]; omega)
                 rw [← Ny24.out] at hr52
                 rw [← hy52] at hcut52
                 have HR27 := Aside0.mk hr52
                 have HC27 := Aside0.mk (show y24.length ≤ c0 from by omega)
                 clear hr52 hC52 hroom52 hi052 hsz52
                 have KY52 := Aside0.mk hy52
                 clear hy52
                 replace q52 := eq_true q52
                 go_wp2_with (first|((with_reducible refine gate_callee (f := 124) rfl ?_);refine goesL_ (some 60) rfl rfl Try.func124 (by kernel_rfl) rfl #[.slice (some ad23) y24.length c0] rfl (by (try simp only [List.map_toArray, List.map_cons, List.map_nil]);first|done|rfl|(simp only [List.length_drop, List.length_take];rfl)) ?_;(with_reducible refine (r10_copied.calls _ _ y24 t28 _ ?side1 ?side2 A47.out).mono ?_);(case side1 => repeat (first|exact (Kd.C_below HR27.out HB.out)|(with_reducible refine Kd.C_alloc ?_ _)|(with_reducible refine Kd.C_drewN ?_ _)|(with_reducible refine Kd.C_drew ?_)));(case side2 => exact HC27.out);rintro e w53 ⟨v29, rfl, ho0, hb⟩;refine ⟨_, rfl, ?_⟩;have n0_ := Aside0.mk (Kd.R_lower ho0 (below_size (by repeat (first|(with_reducible first|exact HB.out|apply below_alloc|apply pw_below_drewN|apply below_drew1|refine below_set ?_ GE1.out|refine below_set ?_ GE2.out)|exact HB.out))));have n1_ := Aside0.mk (blk_below (g := gb1) (o := .cells #[.int .i64 a3_0, .int .i64 a3_1, .int .i64 a3_2] 27 (0, 0)) (by (with_reducible repeat (first|refine blk_drewN ?_ _|refine blk_drew ?_|refine blk_alloc ?_ _));exact BK1.out) hb);have n2_ := Aside0.mk (blk_below (g := gb2) (o := .cells #[.slice none 0 0, .int .i64 0] 67 (0, 0)) (by (with_reducible repeat (first|refine blk_drewN ?_ _|refine blk_drew ?_|refine blk_alloc ?_ _));exact BK2.out) hb);have n3_ := Aside0.mk (below_step (by repeat (first|(with_reducible first|exact HB.out|apply below_alloc|apply pw_below_drewN|apply below_drew1|refine below_set ?_ GE1.out|refine below_set ?_ GE2.out)|exact HB.out)) hb);clear BK1;clear BK2;clear HB;have HO30 := n0_;have BK1 := n1_;have BK2 := n2_;have HB := n3_;clear n0_ n1_ n2_ n3_;(try clear hb);(try clear hb2);(try clear hk);(try clear hi);(try clear ho0);have hnb54 := NB1_2.out;have hnc54 := NB2_1.out;have hcz55_0 : w53.cell? ⟨gb1, 0, none⟩ = some (.int .i64 a3_0) := (blk_cell BK1.out 0).trans rfl;have hcz55_1 : w53.cell? ⟨gb1, 1, none⟩ = some (.int .i64 a3_1) := (blk_cell BK1.out 1).trans rfl;have hcz55_2 : w53.cell? ⟨gb1, 2, none⟩ = some (.int .i64 a3_2) := (blk_cell BK1.out 2).trans rfl;have hfz55_0 := blk_frozen BK1.out 0;have hfz55_1 := blk_frozen BK1.out 1;have hfz55_2 := blk_frozen BK1.out 2)|((with_reducible refine gate_builtin (b := .append) (xs := #[.tmp 61, .tmp 66]) rfl ?_);at_builtin;refine Kd.R_append k31 (w0 := w) w.heap.size rfl (.tmp 61) (.tmp 66) 24 31 (.agg #[(.string ⟨#[]⟩), (.string ⟨#[]⟩), (.int .i64 0), (.int .i64 0), (.int .i64 0), (.int .i64 0), (.int .i64 0), (.int .i64 0), (.int .i64 0), (.int .i64 0), (.int .i64 0), (.int .i64 0)]) 112 rfl Try.underlying24 info31 rfl (by decide) (by omega) v29 t28 (⟨a1, a2, (⟨a3_0, a3_1, a3_2⟩ : S27), (⟨0, 0, 0⟩ : S27), (⟨0, 0, 0⟩ : S27), 1⟩ : S31) [.string a1, .string a2, .int .i64 a3_0, .int .i64 a3_1, .int .i64 a3_2, .int .i64 0, .int .i64 0, .int .i64 0, .int .i64 0, .int .i64 0, .int .i64 0, .int .i64 1] (fun _ => True) (fun _ => False) rfl rfl ?aP (fun _ hk => hk.elim) ?aF ?aO ?aB ?aS ?aL ?_;(case aP => exact k31_mkM _ _ _ (⟨a1, a2, (⟨a3_0, a3_1, a3_2⟩ : S27), (⟨0, 0, 0⟩ : S27), (⟨0, 0, 0⟩ : S27), 1⟩ : S31));(case aB => exact (by repeat (first|(with_reducible first|exact HB.out|apply below_alloc|apply pw_below_drewN|apply below_drew1|refine below_set ?_ GE1.out|refine below_set ?_ GE2.out)|exact HB.out)));(case aF => exact (fun _ _ => trivial));(case aO => exact (by (with_reducible repeat (first|apply Kd.R_alloc|apply Kd.R_drewN|apply Kd.R_drew));exact HO30.out));(case aS => exact (below_size (by repeat (first|(with_reducible first|exact HB.out|apply below_alloc|apply pw_below_drewN|apply below_drew1|refine below_set ?_ GE1.out|refine below_set ?_ GE2.out)|exact HB.out))));(case aL => have := LMc48.out;omega);intro v32 w56 ho hb hg hat;rw [← Ny31.out] at ho;have n0_ := Aside0.mk (blk_grown (g := gb1) (o := .cells #[.int .i64 a3_0, .int .i64 a3_1, .int .i64 a3_2] 27 (0, 0)) (by (with_reducible repeat (first|refine blk_drewN ?_ _|refine blk_drew ?_|refine blk_alloc ?_ _));exact BK1.out) hg (Kd.R_ne HO30.out BK1.out (by decide)));have n1_ := Aside0.mk (blk_grown (g := gb2) (o := .cells #[.slice none 0 0, .int .i64 0] 67 (0, 0)) (by (with_reducible repeat (first|refine blk_drewN ?_ _|refine blk_drew ?_|refine blk_alloc ?_ _));exact BK2.out) hg (Kd.R_ne HO30.out BK2.out (by decide)));have n2_ := Aside0.mk (hb);have n3_ := Aside0.mk (ho);clear BK1;clear BK2;clear HB;clear HO30;have BK1 := n0_;have BK2 := n1_;have HB := n2_;have HO33 := n3_;clear n0_ n1_ n2_ n3_;clear ho hb hg hat;have q57 : (x9_3 : Int) ≤ ((l0.length : Int) : Int) := of_decide_eq_true (by first|(with_reducible assumption)|assumption);obtain ⟨i057, hi057, _, hsz57, _⟩ := info_parts info31;have hroom57 : l0.length ≤ c0 := HC0.out;have hC57 : Kd.C k31 _ (some ad23) l0.length l0 := HR0.out;have q057 : (0 : Int) ≤ (x9_3 : Int) := of_decide_eq_true (by first|(with_reducible assumption)|assumption);have hcut57 := cut_from (P := Try.prog) 24 31 .i64 Try.underlying24 hi057 12 hsz57 (some ad23) l0.length c0 x9_3 q057 q57;have hr57 := Kd.C_drop (m := (x9_3 : Int).toNat) (c := c0) hC57 (by omega) hroom57;obtain ⟨A57, hA57⟩ : ∃ A1, A1 = (if c0 = (x9_3 : Int).toNat then (some ad23) else ((some ad23) : Option Addr).map (·.add ((x9_3 : Int).toNat * 12))) := ⟨_, rfl⟩;obtain ⟨c57, hc57⟩ : ∃ c1, c1 = c0 - (x9_3 : Int).toNat := ⟨_, rfl⟩;have hy57 : y34.length = l0.length - (x9_3 : Int).toNat := (by rw [Ny34.out, List.length_drop] <;> omega);rw [show (l0).drop (x9_3 : Int).toNat = y34 from Ny34.out.symm] at hr57;replace hr57 : Kd.C k31 _ A57 y34.length y34 := (by rw [hA57];exact hr57);rw [← hy57, ← hA57, ← hc57] at hcut57;have HR37 := Aside0.mk hr57;have HC37 := Aside0.mk (show y34.length ≤ c57 from by rw [hy57, hc57];exact Nat.sub_le_sub_right hroom57 _);clear hr57 hC57 hroom57 hi057 hsz57 hc57;have KY57 := Aside0.mk hy57;have KA57 := Aside0.mk hA57;clear hy57 hA57;replace q57 := eq_true q57)|((with_reducible refine gate_builtin (b := .append) (xs := #[.tmp 68, .tmp 71]) rfl ?_);at_builtin;refine Kd.R_append_rows k31 (w0 := w) w.heap.size rfl (.tmp 68) (.tmp 71) 24 31 (.agg #[(.string ⟨#[]⟩), (.string ⟨#[]⟩), (.int .i64 0), (.int .i64 0), (.int .i64 0), (.int .i64 0), (.int .i64 0), (.int .i64 0), (.int .i64 0), (.int .i64 0), (.int .i64 0), (.int .i64 0)]) 112 rfl Try.underlying24 info31 rfl (by decide) (by omega) v32 y31 y34 _ _ _ (fun _ => True) (fun _ => False) rfl rfl ?aO ?aR (fun _ _ h => h) (fun _ h => h.elim) ?aF ?aB ?aS ?aL ?_;(case aR => repeat (first|exact (Kd.C_below HR37.out HB.out)|(with_reducible refine Kd.C_alloc ?_ _)|(with_reducible refine Kd.C_drewN ?_ _)|(with_reducible refine Kd.C_drew ?_)));(case aB => exact (by repeat (first|(with_reducible first|exact HB.out|apply below_alloc|apply pw_below_drewN|apply below_drew1|refine below_set ?_ GE1.out|refine below_set ?_ GE2.out)|exact HB.out)));(case aF => exact (fun _ _ => trivial));(case aO => exact (by (with_reducible repeat (first|apply Kd.R_alloc|apply Kd.R_drewN|apply Kd.R_drew));exact HO33.out));(case aS => exact (below_size (by repeat (first|(with_reducible first|exact HB.out|apply below_alloc|apply pw_below_drewN|apply below_drew1|refine below_set ?_ GE1.out|refine below_set ?_ GE2.out)|exact HB.out))));(case aL => have := LMc51.out;omega);intro v39 w58 ho hb hg hat;rw [← Ny38.out] at ho;have n0_ := Aside0.mk (blk_grown (g := gb1) (o := .cells #[.int .i64 a3_0, .int .i64 a3_1, .int .i64 a3_2] 27 (0, 0)) (by (with_reducible repeat (first|refine blk_drewN ?_ _|refine blk_drew ?_|refine blk_alloc ?_ _));exact BK1.out) hg (Kd.R_ne HO33.out BK1.out (by decide)));have n1_ := Aside0.mk (blk_grown (g := gb2) (o := .cells #[.slice none 0 0, .int .i64 0] 67 (0, 0)) (by (with_reducible repeat (first|refine blk_drewN ?_ _|refine blk_drew ?_|refine blk_alloc ?_ _));exact BK2.out) hg (Kd.R_ne HO33.out BK2.out (by decide)));have n2_ := Aside0.mk (hb);have n3_ := Aside0.mk (ho);clear BK1;clear BK2;clear HB;clear HO33;have BK1 := n0_;have BK2 := n1_;have HB := n2_;have HO40 := n3_;clear n0_ n1_ n2_ n3_;clear ho hb hg hat;obtain ⟨Ao59, co59, eo59⟩ := Kd.R_slice HO40.out;subst eo59;have hcz60_0 : w58.cell? ⟨gb2, 0, none⟩ = some (.slice none 0 0) := (blk_cell BK2.out 0).trans rfl;have hcz60_1 : w58.cell? ⟨gb2, 1, none⟩ = some (.int .i64 0) := (blk_cell BK2.out 1).trans rfl;have hfz60_0 := blk_frozen BK2.out 0;have hfz60_1 := blk_frozen BK2.out 1))
                 refine bodyPost_ret (results_cell_row rfl _ _ gb2 67 #[.slice Ao59 y38.length co59, .int .i64 0] (0, 0) _ rfl (by (with_reducible repeat (first|refine blk_drewN ?_ _|refine blk_drew ?_|refine blk_alloc ?_ _));refine blk_put (cs := #[.slice Ao59 y38.length co59, .int .i64 0]) ?_ 1 _ rfl;(with_reducible repeat (first|refine blk_drewN ?_ _|refine blk_drew ?_|refine blk_alloc ?_ _));refine blk_put (cs := #[.slice none 0 0, .int .i64 0]) ?_ 0 _ rfl;(with_reducible repeat (first|refine blk_drewN ?_ _|refine blk_drew ?_|refine blk_alloc ?_ _));exact BK2.out) Try.underlying67 rfl (by kernel_rfl)) rfl ?_
                 exact ⟨_, by first|rfl|(simp [errW_none, errW_some] <;> rfl)|(simp [*, errW_none, errW_some] <;> rfl), by (with_reducible repeat (first|apply Kd.R_alloc|apply Kd.R_drewN|apply Kd.R_drew));exact Kd.R_mono (Kd.R_far (p := ⟨gb2, 1, none⟩) (Kd.R_far (p := ⟨gb2, 0, none⟩) (Kd.R_types HO40.out BK2.out (by decide)) (fun _ hk => hk.2) (.slice Ao59 y38.length co59)) (fun _ hk => hk.2) (.int .i64 0)) (fun _ hk => trivial), by repeat (first|(with_reducible first|exact HB.out|apply below_alloc|apply pw_below_drewN|apply below_drew1|refine below_set ?_ GE1.out|refine below_set ?_ GE2.out)|exact HB.out)⟩
                ·rw [if_neg c51] at H
                 exact absurd H (by simp)
               ·rw [if_neg c48] at H
                exact absurd H (by simp)
              ·rw [if_neg c46] at H
               exact absurd H (by simp)
            ·rw [if_neg c43] at H
             exact absurd H (by simp)
           ·rw [if_neg c42] at H
            have c42b0 : decide (x9_3 < (l0.length : Int)) = false := decide_eq_false c42
            clear c42
            by_cases c61 : 0 ≤ x9_3
            ·rw [if_pos c61] at H
             have c61b0 := eq_true c61
             have c61b1 : decide (0 ≤ x9_3) = true := decide_eq_true c61
             clear c61
             by_cases c62 : x9_3 ≤ (l0.length : Int)
             ·rw [if_pos c62] at H
              have c62b0 := eq_true c62
              have c62b1 : decide (x9_3 ≤ (l0.length : Int)) = true := decide_eq_true c62
              clear c62
              obtain ⟨y41, hy41⟩ : ∃ y_ : List (S31), y_ = (l0.take (x9_3 : Int).toNat) := ⟨_, rfl⟩
              replace H : ((r10_copied.f y41).bind fun t45 => (if t45.length < 1256584717458 then ((some (t45 ++ [(⟨a1, a2, (⟨a3_0, a3_1, a3_2⟩ : S27), (⟨0, 0, 0⟩ : S27), (⟨0, 0, 0⟩ : S27), 1⟩ : S31)] : List (S31))).bind fun y48 => ((some (l0.drop (x9_3 : Int).toNat : List (S31))).bind fun y51 => (if y48.length + y51.length < 1256584717458 then (some ((y48 ++ y51), 0)) else (none)))) else (none))) = some (r1, r2) := by first|(rw [hy41];with_reducible exact H)|(have H2_ := (Option.bind_some _ _).symm.trans H;rw [hy41];with_reducible exact H2_)|(have H2_ := (Option.bind_some _ _).symm.trans H;with_reducible exact H2_)|with_reducible exact H|(rw [hy41];exact H)|exact H
              have Ny41 := Aside0.mk hy41
              clear hy41
              replace H := Option.bind_eq_some_iff.mp H
              obtain ⟨t45, A630, H⟩ := H
              replace H : (if t45.length < 1256584717458 then ((some (t45 ++ [(⟨a1, a2, (⟨a3_0, a3_1, a3_2⟩ : S27), (⟨0, 0, 0⟩ : S27), (⟨0, 0, 0⟩ : S27), 1⟩ : S31)] : List (S31))).bind fun y48 => ((some (l0.drop (x9_3 : Int).toNat : List (S31))).bind fun y51 => (if y48.length + y51.length < 1256584717458 then (some ((y48 ++ y51), 0)) else (none)))) else (none)) = some (r1, r2) := H
              have A63 := Aside0.mk A630
              clear A630
              by_cases c64 : t45.length < 1256584717458
              ·rw [if_pos c64] at H
               have LMc64 := Aside0.mk c64
               clear c64
               obtain ⟨y48, hy48⟩ : ∃ y_ : List (S31), y_ = (t45 ++ [(⟨a1, a2, (⟨a3_0, a3_1, a3_2⟩ : S27), (⟨0, 0, 0⟩ : S27), (⟨0, 0, 0⟩ : S27), 1⟩ : S31)]) := ⟨_, rfl⟩
               replace H : ((some (l0.drop (x9_3 : Int).toNat : List (S31))).bind fun y51 => (if y48.length + y51.length < 1256584717458 then (some ((y48 ++ y51), 0)) else (none))) = some (r1, r2) := by first|(rw [hy48];with_reducible exact H)|(have H2_ := (Option.bind_some _ _).symm.trans H;rw [hy48];with_reducible exact H2_)|(have H2_ := (Option.bind_some _ _).symm.trans H;with_reducible exact H2_)|with_reducible exact H|(rw [hy48];exact H)|exact H
               have Ny48 := Aside0.mk hy48
               clear hy48
               have c65b0 := eq_true (of_decide_eq_true (by first|(with_reducible assumption)|assumption) : 0 ≤ x9_3)
               have c66b0 := eq_true (of_decide_eq_true (by first|(with_reducible assumption)|assumption) : x9_3 ≤ (l0.length : Int))
               obtain ⟨y51, hy51⟩ : ∃ y_ : List (S31), y_ = (l0.drop (x9_3 : Int).toNat) := ⟨_, rfl⟩
               replace H : (if y48.length + y51.length < 1256584717458 then (some ((y48 ++ y51), 0)) else (none)) = some (r1, r2) := by first|(rw [hy51];with_reducible exact H)|(have H2_ := (Option.bind_some _ _).symm.trans H;rw [hy51];with_reducible exact H2_)|(have H2_ := (Option.bind_some _ _).symm.trans H;with_reducible exact H2_)|with_reducible exact H|(rw [hy51];exact H)|exact H
               have Ny51 := Aside0.mk hy51
               clear hy51
               by_cases c67 : y48.length + y51.length < 1256584717458
               ·rw [if_pos c67] at H
                have LMc67 := Aside0.mk c67
                clear c67
                obtain ⟨y55, hy55⟩ : ∃ y_ : List (S31), y_ = (y48 ++ y51) := ⟨_, rfl⟩
                replace H : (some (y55, 0)) = some (r1, r2) := by first|(rw [hy55];with_reducible exact H)|(have H2_ := (Option.bind_some _ _).symm.trans H;rw [hy55];with_reducible exact H2_)|(have H2_ := (Option.bind_some _ _).symm.trans H;with_reducible exact H2_)|with_reducible exact H|(rw [hy55];exact H)|exact H
                have Ny55 := Aside0.mk hy55
                clear hy55
                simp only [Option.some.injEq, Prod.mk.injEq] at H
                obtain ⟨rfl, rfl⟩ := H
                have q68 : (x9_3 : Int) ≤ ((l0.length : Int) : Int) := of_decide_eq_true (by first|(with_reducible assumption)|assumption)
                obtain ⟨i068, hi068, _, hsz68, _⟩ := info_parts info31
                have hroom68 : l0.length ≤ c0 := HC0.out
                have hC68 : Kd.C k31 _ A0 l0.length l0 := HR0.out
                have hcut68 := cut_to (P := Try.prog) 24 31 .i64 Try.underlying24 hi068 A0 l0.length c0 x9_3 (of_decide_eq_true (by first|(with_reducible assumption)|assumption)) q68 hroom68
                have hr68 := Kd.C_take (m := (x9_3 : Int).toNat) hC68 (by omega)
                have hy68 : y41.length = (x9_3 : Int).toNat := (by rw [Ny41.out, List.length_take]; omega)
                rw [← Ny41.out] at hr68
                rw [← hy68] at hcut68
                have HR44 := Aside0.mk hr68
                have HC44 := Aside0.mk (show y41.length ≤ c0 from by omega)
                clear hr68 hC68 hroom68 hi068 hsz68
                have KY68 := Aside0.mk hy68
                clear hy68
                replace q68 := eq_true q68
                go_wp2_with (first|((with_reducible refine gate_callee (f := 124) rfl ?_);refine goesL_ (some 60) rfl rfl Try.func124 (by kernel_rfl) rfl #[.slice A0 y41.length c0] rfl (by (try simp only [List.map_toArray, List.map_cons, List.map_nil]);first|done|rfl|(simp only [List.length_drop, List.length_take];rfl)) ?_;(with_reducible refine (r10_copied.calls _ _ y41 t45 _ ?side1 ?side2 A63.out).mono ?_);(case side1 => repeat (first|exact (Kd.C_below HR44.out HB.out)|(with_reducible refine Kd.C_alloc ?_ _)|(with_reducible refine Kd.C_drewN ?_ _)|(with_reducible refine Kd.C_drew ?_)));(case side2 => exact HC44.out);rintro e w69 ⟨v46, rfl, ho0, hb⟩;refine ⟨_, rfl, ?_⟩;have n0_ := Aside0.mk (Kd.R_lower ho0 (below_size (by repeat (first|(with_reducible first|exact HB.out|apply below_alloc|apply pw_below_drewN|apply below_drew1|refine below_set ?_ GE1.out|refine below_set ?_ GE2.out)|exact HB.out))));have n1_ := Aside0.mk (blk_below (g := gb1) (o := .cells #[.int .i64 a3_0, .int .i64 a3_1, .int .i64 a3_2] 27 (0, 0)) (by (with_reducible repeat (first|refine blk_drewN ?_ _|refine blk_drew ?_|refine blk_alloc ?_ _));exact BK1.out) hb);have n2_ := Aside0.mk (blk_below (g := gb2) (o := .cells #[.slice none 0 0, .int .i64 0] 67 (0, 0)) (by (with_reducible repeat (first|refine blk_drewN ?_ _|refine blk_drew ?_|refine blk_alloc ?_ _));exact BK2.out) hb);have n3_ := Aside0.mk (below_step (by repeat (first|(with_reducible first|exact HB.out|apply below_alloc|apply pw_below_drewN|apply below_drew1|refine below_set ?_ GE1.out|refine below_set ?_ GE2.out)|exact HB.out)) hb);clear BK1;clear BK2;clear HB;have HO47 := n0_;have BK1 := n1_;have BK2 := n2_;have HB := n3_;clear n0_ n1_ n2_ n3_;(try clear hb);(try clear hb2);(try clear hk);(try clear hi);(try clear ho0);have hnb70 := NB1_2.out;have hnc70 := NB2_1.out;have hcz71_0 : w69.cell? ⟨gb1, 0, none⟩ = some (.int .i64 a3_0) := (blk_cell BK1.out 0).trans rfl;have hcz71_1 : w69.cell? ⟨gb1, 1, none⟩ = some (.int .i64 a3_1) := (blk_cell BK1.out 1).trans rfl;have hcz71_2 : w69.cell? ⟨gb1, 2, none⟩ = some (.int .i64 a3_2) := (blk_cell BK1.out 2).trans rfl;have hfz71_0 := blk_frozen BK1.out 0;have hfz71_1 := blk_frozen BK1.out 1;have hfz71_2 := blk_frozen BK1.out 2)|((with_reducible refine gate_builtin (b := .append) (xs := #[.tmp 61, .tmp 66]) rfl ?_);at_builtin;refine Kd.R_append k31 (w0 := w) w.heap.size rfl (.tmp 61) (.tmp 66) 24 31 (.agg #[(.string ⟨#[]⟩), (.string ⟨#[]⟩), (.int .i64 0), (.int .i64 0), (.int .i64 0), (.int .i64 0), (.int .i64 0), (.int .i64 0), (.int .i64 0), (.int .i64 0), (.int .i64 0), (.int .i64 0)]) 112 rfl Try.underlying24 info31 rfl (by decide) (by omega) v46 t45 (⟨a1, a2, (⟨a3_0, a3_1, a3_2⟩ : S27), (⟨0, 0, 0⟩ : S27), (⟨0, 0, 0⟩ : S27), 1⟩ : S31) [.string a1, .string a2, .int .i64 a3_0, .int .i64 a3_1, .int .i64 a3_2, .int .i64 0, .int .i64 0, .int .i64 0, .int .i64 0, .int .i64 0, .int .i64 0, .int .i64 1] (fun _ => True) (fun _ => False) rfl rfl ?aP (fun _ hk => hk.elim) ?aF ?aO ?aB ?aS ?aL ?_;(case aP => exact k31_mkM _ _ _ (⟨a1, a2, (⟨a3_0, a3_1, a3_2⟩ : S27), (⟨0, 0, 0⟩ : S27), (⟨0, 0, 0⟩ : S27), 1⟩ : S31));(case aB => exact (by repeat (first|(with_reducible first|exact HB.out|apply below_alloc|apply pw_below_drewN|apply below_drew1|refine below_set ?_ GE1.out|refine below_set ?_ GE2.out)|exact HB.out)));(case aF => exact (fun _ _ => trivial));(case aO => exact (by (with_reducible repeat (first|apply Kd.R_alloc|apply Kd.R_drewN|apply Kd.R_drew));exact HO47.out));(case aS => exact (below_size (by repeat (first|(with_reducible first|exact HB.out|apply below_alloc|apply pw_below_drewN|apply below_drew1|refine below_set ?_ GE1.out|refine below_set ?_ GE2.out)|exact HB.out))));(case aL => have := LMc64.out;omega);intro v49 w72 ho hb hg hat;rw [← Ny48.out] at ho;have n0_ := Aside0.mk (blk_grown (g := gb1) (o := .cells #[.int .i64 a3_0, .int .i64 a3_1, .int .i64 a3_2] 27 (0, 0)) (by (with_reducible repeat (first|refine blk_drewN ?_ _|refine blk_drew ?_|refine blk_alloc ?_ _));exact BK1.out) hg (Kd.R_ne HO47.out BK1.out (by decide)));have n1_ := Aside0.mk (blk_grown (g := gb2) (o := .cells #[.slice none 0 0, .int .i64 0] 67 (0, 0)) (by (with_reducible repeat (first|refine blk_drewN ?_ _|refine blk_drew ?_|refine blk_alloc ?_ _));exact BK2.out) hg (Kd.R_ne HO47.out BK2.out (by decide)));have n2_ := Aside0.mk (hb);have n3_ := Aside0.mk (ho);clear BK1;clear BK2;clear HB;clear HO47;have BK1 := n0_;have BK2 := n1_;have HB := n2_;have HO50 := n3_;clear n0_ n1_ n2_ n3_;clear ho hb hg hat;have q73 : (x9_3 : Int) ≤ ((l0.length : Int) : Int) := of_decide_eq_true (by first|(with_reducible assumption)|assumption);obtain ⟨i073, hi073, _, hsz73, _⟩ := info_parts info31;have hroom73 : l0.length ≤ c0 := HC0.out;have hC73 : Kd.C k31 _ A0 l0.length l0 := HR0.out;have q073 : (0 : Int) ≤ (x9_3 : Int) := of_decide_eq_true (by first|(with_reducible assumption)|assumption);have hcut73 := cut_from (P := Try.prog) 24 31 .i64 Try.underlying24 hi073 12 hsz73 A0 l0.length c0 x9_3 q073 q73;have hr73 := Kd.C_drop (m := (x9_3 : Int).toNat) (c := c0) hC73 (by omega) hroom73;obtain ⟨A73, hA73⟩ : ∃ A1, A1 = (if c0 = (x9_3 : Int).toNat then A0 else (A0 : Option Addr).map (·.add ((x9_3 : Int).toNat * 12))) := ⟨_, rfl⟩;obtain ⟨c73, hc73⟩ : ∃ c1, c1 = c0 - (x9_3 : Int).toNat := ⟨_, rfl⟩;have hy73 : y51.length = l0.length - (x9_3 : Int).toNat := (by rw [Ny51.out, List.length_drop] <;> omega);rw [show (l0).drop (x9_3 : Int).toNat = y51 from Ny51.out.symm] at hr73;replace hr73 : Kd.C k31 _ A73 y51.length y51 := (by rw [hA73];exact hr73);rw [← hy73, ← hA73, ← hc73] at hcut73;have HR54 := Aside0.mk hr73;have HC54 := Aside0.mk (show y51.length ≤ c73 from by rw [hy73, hc73];exact Nat.sub_le_sub_right hroom73 _);clear hr73 hC73 hroom73 hi073 hsz73 hc73;have KY73 := Aside0.mk hy73;have KA73 := Aside0.mk hA73;clear hy73 hA73;replace q73 := eq_true q73)|((with_reducible refine gate_builtin (b := .append) (xs := #[.tmp 68, .tmp 71]) rfl ?_);at_builtin;refine Kd.R_append_rows k31 (w0 := w) w.heap.size rfl (.tmp 68) (.tmp 71) 24 31 (.agg #[(.string ⟨#[]⟩), (.string ⟨#[]⟩), (.int .i64 0), (.int .i64 0), (.int .i64 0), (.int .i64 0), (.int .i64 0), (.int .i64 0), (.int .i64 0), (.int .i64 0), (.int .i64 0), (.int .i64 0)]) 112 rfl Try.underlying24 info31 rfl (by decide) (by omega) v49 y48 y51 _ _ _ (fun _ => True) (fun _ => False) rfl rfl ?aO ?aR (fun _ _ h => h) (fun _ h => h.elim) ?aF ?aB ?aS ?aL ?_;(case aR => repeat (first|exact (Kd.C_below HR54.out HB.out)|(with_reducible refine Kd.C_alloc ?_ _)|(with_reducible refine Kd.C_drewN ?_ _)|(with_reducible refine Kd.C_drew ?_)));(case aB => exact (by repeat (first|(with_reducible first|exact HB.out|apply below_alloc|apply pw_below_drewN|apply below_drew1|refine below_set ?_ GE1.out|refine below_set ?_ GE2.out)|exact HB.out)));(case aF => exact (fun _ _ => trivial));(case aO => exact (by (with_reducible repeat (first|apply Kd.R_alloc|apply Kd.R_drewN|apply Kd.R_drew));exact HO50.out));(case aS => exact (below_size (by repeat (first|(with_reducible first|exact HB.out|apply below_alloc|apply pw_below_drewN|apply below_drew1|refine below_set ?_ GE1.out|refine below_set ?_ GE2.out)|exact HB.out))));(case aL => have := LMc67.out;omega);intro v56 w74 ho hb hg hat;rw [← Ny55.out] at ho;have n0_ := Aside0.mk (blk_grown (g := gb1) (o := .cells #[.int .i64 a3_0, .int .i64 a3_1, .int .i64 a3_2] 27 (0, 0)) (by (with_reducible repeat (first|refine blk_drewN ?_ _|refine blk_drew ?_|refine blk_alloc ?_ _));exact BK1.out) hg (Kd.R_ne HO50.out BK1.out (by decide)));have n1_ := Aside0.mk (blk_grown (g := gb2) (o := .cells #[.slice none 0 0, .int .i64 0] 67 (0, 0)) (by (with_reducible repeat (first|refine blk_drewN ?_ _|refine blk_drew ?_|refine blk_alloc ?_ _));exact BK2.out) hg (Kd.R_ne HO50.out BK2.out (by decide)));have n2_ := Aside0.mk (hb);have n3_ := Aside0.mk (ho);clear BK1;clear BK2;clear HB;clear HO50;have BK1 := n0_;have BK2 := n1_;have HB := n2_;have HO57 := n3_;clear n0_ n1_ n2_ n3_;clear ho hb hg hat;obtain ⟨Ao75, co75, eo75⟩ := Kd.R_slice HO57.out;subst eo75;have hcz76_0 : w74.cell? ⟨gb2, 0, none⟩ = some (.slice none 0 0) := (blk_cell BK2.out 0).trans rfl;have hcz76_1 : w74.cell? ⟨gb2, 1, none⟩ = some (.int .i64 0) := (blk_cell BK2.out 1).trans rfl;have hfz76_0 := blk_frozen BK2.out 0;have hfz76_1 := blk_frozen BK2.out 1))
                refine bodyPost_ret (results_cell_row rfl _ _ gb2 67 #[.slice Ao75 y55.length co75, .int .i64 0] (0, 0) _ rfl (by (with_reducible repeat (first|refine blk_drewN ?_ _|refine blk_drew ?_|refine blk_alloc ?_ _));refine blk_put (cs := #[.slice Ao75 y55.length co75, .int .i64 0]) ?_ 1 _ rfl;(with_reducible repeat (first|refine blk_drewN ?_ _|refine blk_drew ?_|refine blk_alloc ?_ _));refine blk_put (cs := #[.slice none 0 0, .int .i64 0]) ?_ 0 _ rfl;(with_reducible repeat (first|refine blk_drewN ?_ _|refine blk_drew ?_|refine blk_alloc ?_ _));exact BK2.out) Try.underlying67 rfl (by kernel_rfl)) rfl ?_
                exact ⟨_, by first|rfl|(simp [errW_none, errW_some] <;> rfl)|(simp [*, errW_none, errW_some] <;> rfl), by (with_reducible repeat (first|apply Kd.R_alloc|apply Kd.R_drewN|apply Kd.R_drew));exact Kd.R_mono (Kd.R_far (p := ⟨gb2, 1, none⟩) (Kd.R_far (p := ⟨gb2, 0, none⟩) (Kd.R_types HO57.out BK2.out (by decide)) (fun _ hk => hk.2) (.slice Ao75 y55.length co75)) (fun _ hk => hk.2) (.int .i64 0)) (fun _ hk => trivial), by repeat (first|(with_reducible first|exact HB.out|apply below_alloc|apply pw_below_drewN|apply below_drew1|refine below_set ?_ GE1.out|refine below_set ?_ GE2.out)|exact HB.out)⟩
               ·rw [if_neg c67] at H
                exact absurd H (by simp)
              ·rw [if_neg c64] at H
               exact absurd H (by simp)
             ·rw [if_neg c62] at H
              exact absurd H (by simp)
            ·rw [if_neg c61] at H
             exact absurd H (by simp)
end Go.Proofs.Ytcgefpklljclgaa.Print
