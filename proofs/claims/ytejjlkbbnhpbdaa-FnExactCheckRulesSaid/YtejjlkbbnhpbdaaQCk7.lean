/- The row of the law FnExactCheckRules: for every input the call returns true, and each argument reads behind it as it read before; no condition of ours. -/
import Derived.Test.YtejjlkbbnhpbdaaProg
import Derived.Below
import Derived.WalkKit
import Derived.OwnWalk
import Derived.Deep.LoopGhost
import Derived.RowKit3
import Derived.Shelf.Abstract
import Derived.Maps.RangeWalk
import Derived.Laws.CopyRow
import Derived.Laws.CopyOwn
import Derived.Laws.Rows
import Derived.OneCell
import Derived.RangeFuncBox
import Derived.IntWalk
import Derived.BigQuiet
import Derived.Deep.QuietTactic
import Derived.Test.YtejjlkbbnhpbdaaQCk6
namespace Go.Proofs.Ytejjlkbbnhpbdaa.P
open Go.Proofs.YtejjlkbbnhpbdaaX
open Go.RowKit Go.Proofs.YtejjlkbbnhpbdaaW.PrintWords Go.Proofs.YtejjlkbbnhpbdaaW.PrintLast Go.Proofs.YtejjlkbbnhpbdaaW.PrintMore
attribute [local go_sem] max2_int min2_int max_two min_two max_three min_three max_four min_four
set_option linter.unusedVariables false
set_option linter.unusedSimpArgs false
mutual
def spec_l2GoodExpr.j0 : Nat → List (S72) → Int → Bool → Int → Int → ByteArray → Int → Int → ByteArray → Int → Int → Option (Bool)
 | 0, _, _, _, _, _, _, _, _, _, _, _ => none
 | k + 1, x0, x1, x6, x157000, x157001, x157002, x157003, x157004, x157005, x157006, x157007 => if x157000 = 0 then (if x6 = true then (if x157002.toList = ([] : List UInt8) then ((spec_l1GoodVal.f k x157003 x157004 x157005).bind fun t157 => (some t157)) else (some false)) else (some false)) else (if x157000 = 1 then (if x6 = true then ((spec_l1GoodSym.f k x157002).bind fun t158 => (if t158 = true then ((spec_l2Zero.f x157003 x157004 x157005).bind fun t159 => (some t159)) else (some false))) else (some false)) else (if x157000 = 2 then ((spec_l2Ariths.f).bind fun t163 => ((spec_l2Is.f k (strOfNums (([x157001] : List Int))) t163).bind fun t166 => (if t166 = true then (if x157002.toList = ([] : List UInt8) then ((spec_l2Zero.f x157003 x157004 x157005).bind fun t167 => (if t167 = true then (if x157007 = (wrap64 (x1 - 1)) then (if x157007 < 0 then (spec_l2GoodExpr.j1 k x0 x1 true x157000 x157001 x157002 x157003 x157004 x157005 x157006 x157007) else (spec_l2GoodExpr.j1 k x0 x1 (decide (x157006 < 0)) x157000 x157001 x157002 x157003 x157004 x157005 x157006 x157007)) else (spec_l2GoodExpr.j1 k x0 x1 true x157000 x157001 x157002 x157003 x157004 x157005 x157006 x157007)) else (spec_l2GoodExpr.j1 k x0 x1 true x157000 x157001 x157002 x157003 x157004 x157005 x157006 x157007))) else (spec_l2GoodExpr.j1 k x0 x1 true x157000 x157001 x157002 x157003 x157004 x157005 x157006 x157007)) else (spec_l2GoodExpr.j1 k x0 x1 true x157000 x157001 x157002 x157003 x157004 x157005 x157006 x157007)))) else (some false)))
def spec_l2GoodExpr.j1 : Nat → List (S72) → Int → Bool → Int → Int → ByteArray → Int → Int → ByteArray → Int → Int → Option (Bool)
 | 0, _, _, _, _, _, _, _, _, _, _, _ => none
 | k + 1, x0, x1, x88, x157000, x157001, x157002, x157003, x157004, x157005, x157006, x157007 => if x88 = true then (some false) else ((spec_l2First.f k x0 x157007).bind fun t168 => (if x157006 = (wrap64 (t168 - 1)) then ((spec_l2Depth.f k x0 x1).bind fun t169 => (some (decide (t169 ≤ 20)))) else (some false)))
end
def spec_l2GoodExpr.f (k : Nat) (l0 : List (S72)) (a1 : Int) : Option (Bool) := if 0 ≤ a1 then (if a1 < (l0.length : Int) then (if ((rd_T72 l0 a1).f1) = 0 then (if ((rd_T72 l0 a1).f4) = 0 then (spec_l2GoodExpr.j0 k l0 a1 (((rd_T72 l0 a1).f5) == 0) ((rd_T72 l0 a1).f0) ((rd_T72 l0 a1).f1) ((rd_T72 l0 a1).f2) ((rd_T72 l0 a1).f3.f0) ((rd_T72 l0 a1).f3.f1) ((rd_T72 l0 a1).f3.f2) ((rd_T72 l0 a1).f4) ((rd_T72 l0 a1).f5)) else (spec_l2GoodExpr.j0 k l0 a1 false ((rd_T72 l0 a1).f0) ((rd_T72 l0 a1).f1) ((rd_T72 l0 a1).f2) ((rd_T72 l0 a1).f3.f0) ((rd_T72 l0 a1).f3.f1) ((rd_T72 l0 a1).f3.f2) ((rd_T72 l0 a1).f4) ((rd_T72 l0 a1).f5))) else (spec_l2GoodExpr.j0 k l0 a1 false ((rd_T72 l0 a1).f0) ((rd_T72 l0 a1).f1) ((rd_T72 l0 a1).f2) ((rd_T72 l0 a1).f3.f0) ((rd_T72 l0 a1).f3.f1) ((rd_T72 l0 a1).f3.f2) ((rd_T72 l0 a1).f4) ((rd_T72 l0 a1).f5))) else (none)) else (none)
theorem spec_l2GoodExpr.mono_l : ∀ k, (∀ y0 y1 y2 y3 y4 y5 y6 y7 y8 y9 y10, LeO (spec_l2GoodExpr.j0 k y0 y1 y2 y3 y4 y5 y6 y7 y8 y9 y10) (spec_l2GoodExpr.j0 (k + 1) y0 y1 y2 y3 y4 y5 y6 y7 y8 y9 y10)) ∧ (∀ y0 y1 y2 y3 y4 y5 y6 y7 y8 y9 y10, LeO (spec_l2GoodExpr.j1 k y0 y1 y2 y3 y4 y5 y6 y7 y8 y9 y10) (spec_l2GoodExpr.j1 (k + 1) y0 y1 y2 y3 y4 y5 y6 y7 y8 y9 y10))
 | 0 => ⟨fun _ _ _ _ _ _ _ _ _ _ _ r h => by simp [spec_l2GoodExpr.j0] at h, fun _ _ _ _ _ _ _ _ _ _ _ r h => by simp [spec_l2GoodExpr.j1] at h⟩
 | k + 1 => by
  obtain ⟨ih0, ih1⟩ := spec_l2GoodExpr.mono_l k; refine ⟨?_, ?_⟩
  ·intro y0 y1 y2 y3 y4 y5 y6 y7 y8 y9 y10; unfold spec_l2GoodExpr.j0
   repeat' with_reducible first | apply ih0 | apply ih1 | apply spec_l1GoodSym.mono | apply spec_l1GoodVal.mono | apply spec_l2Depth.mono | apply spec_l2First.mono | apply spec_l2Is.mono | apply LeO.refl | apply LeO.none | refine LeO.ite ?_ ?_ | refine LeO.bind ?_ (fun _ => ?_)
  ·intro y0 y1 y2 y3 y4 y5 y6 y7 y8 y9 y10; unfold spec_l2GoodExpr.j1
   repeat' with_reducible first | apply ih0 | apply ih1 | apply spec_l1GoodSym.mono | apply spec_l1GoodVal.mono | apply spec_l2Depth.mono | apply spec_l2First.mono | apply spec_l2Is.mono | apply LeO.refl | apply LeO.none | refine LeO.ite ?_ ?_ | refine LeO.bind ?_ (fun _ => ?_)
theorem spec_l2GoodExpr.mono : ∀ a0 a1 k, LeO (spec_l2GoodExpr.f k a0 a1) (spec_l2GoodExpr.f (k + 1) a0 a1) := by
 intro a0 a1 k; obtain ⟨ih0, ih1⟩ := spec_l2GoodExpr.mono_l k; unfold spec_l2GoodExpr.f
 repeat' with_reducible first | apply ih0 | apply ih1 | apply spec_l1GoodSym.mono | apply spec_l1GoodVal.mono | apply spec_l2Depth.mono | apply spec_l2First.mono | apply spec_l2Is.mono | apply LeO.refl | apply LeO.none | refine LeO.ite ?_ ?_ | refine LeO.bind ?_ (fun _ => ?_)
def spec_l2GoodExpr.T9 : Bool × List (List Nat × List Nat) := (true, [([], []), ([0], [0]), ([1], [1]), ([2], [2]), ([], []), ([3, 4, 4], [3, 4]), ([5], [5]), ([6, 5], [6]), ([7], [7]), ([8, 7], [7, 8]), ([9, 7], [7, 9]), ([7, 10], [7, 10]), ([11, 7], [11]), ([12], [12]), ([13, 12], [12, 13]), ([14, 12, 12], [12, 14]), ([15, 12], [12, 15]), ([12, 16], [12, 16]), ([17, 15], [17]), ([18], [18]), ([19, 18], [18, 19]), ([18], [18]), ([21, 18], [18, 21]), ([20, 22, 18], [18, 20, 22]), ([18, 23], [18, 23]), ([24, 18], [24]), ([25], [25]), ([26, 25], [25, 26]), ([27, 25], [25, 27]), ([25, 28], [25, 28]), ([29, 25], [29]), ([30], [30]), ([31, 30], [30, 31]), ([32, 30], [30, 32]), ([30, 33], [30, 33])])
def spec_l2GoodExpr.B9 : List Nat := [0, 1, 3, 7, 0, 31, 63, 127, 255, 511, 1023, 2047, 4095, 8191, 16383, 32767, 65535, 131071, 262143, 524287, 1048575, 524287, 2621439, 8388607, 16777215, 33554431, 67108863, 134217727, 268435455, 536870911, 1073741823, 2147483647, 4294967295, 8589934591, 17179869183]
theorem spec_l2GoodExpr.tab9 : rtab .any (opsOf Try.f25 9) = spec_l2GoodExpr.T9 := by kernel_rfl
theorem spec_l2GoodExpr.bits9 : waitsOk spec_l2GoodExpr.T9.2 spec_l2GoodExpr.B9 = true := by kernel_rfl
def spec_l2GoodExpr.T11 : Bool × List (List Nat × List Nat) := (true, [([], []), ([0], [0]), ([], []), ([], []), ([3], [3]), ([2, 4], [2, 4]), ([5], [5]), ([1, 6], [1, 6]), ([7, 5], [7]), ([8], [8]), ([8], [8]), ([9, 10, 8, 8], [8, 9, 10]), ([11, 8], [8, 11]), ([8, 12], [8, 12]), ([13, 11, 0, 1, 2, 3, 4, 5, 6, 7, 8, 9, 10, 11, 12, 13], [13])])
def spec_l2GoodExpr.B11 : List Nat := [0, 1, 0, 0, 8, 28, 60, 127, 255, 511, 511, 2047, 4095, 8191, 16383]
theorem spec_l2GoodExpr.tab11 : rtab .any (opsOf Try.f25 11) = spec_l2GoodExpr.T11 := by kernel_rfl
theorem spec_l2GoodExpr.bits11 : waitsOk spec_l2GoodExpr.T11.2 spec_l2GoodExpr.B11 = true := by kernel_rfl
abbrev ba2f_0 : Array Bool := #[false, false, false, false, false, false, false, false, false, false, false, false, false, false, false, false, false, false, false, false, false, false, false, false, false, false, false, false, false, false, false, false, false, false, false]
abbrev ba2f_1 : Array Bool := #[true, false, false, false, false, false, false, false, false, false, false, false, false, false, false, false, false, false, false, false, false, false, false, false, false, false, false, false, false, false, false, false, false, false, false]
abbrev ba2f_2 : Array Bool := #[true, true, false, false, false, false, false, false, false, false, false, false, false, false, false, false, false, false, false, false, false, false, false, false, false, false, false, false, false, false, false, false, false, false, false]
abbrev ba2f_3 : Array Bool := #[true, true, true, true, true, false, false, false, false, false, false, false, false, false, false, false, false, false, false, false, false, false, false, false, false, false, false, false, false, false, false, false, false, false, false]
abbrev ba2f_4 : Array Bool := #[true, true, true, false, false, false, false, false, false, false, false, false, false, false, false, false, false, false, false, false, false, false, false, false, false, false, false, false, false, false, false, false, false, false, false]
abbrev ba2f_5 : Array Bool := #[true, true, false, false, true, false, false, false, false, false, false, false, false, false, false, false, false, false, false, false, false, false, false, false, false, false, false, false, false, false, false, false, false, false, false]
abbrev ba2f_6 : Array Bool := #[true, true, true, true, false, false, false, false, false, false, false, false, false, false, false, false, false, false, false, false, false, false, false, false, false, false, false, false, false, false, false, false, false, false, false]
abbrev ba2f_7 : Array Bool := #[true, true, true, false, true, false, false, false, false, false, false, false, false, false, false, false, false, false, false, false, false, false, false, false, false, false, false, false, false, false, false, false, false, false, false]
abbrev ba2f_8 : Array Bool := #[true, true, true, true, true, true, false, false, false, false, false, false, false, false, false, false, false, false, false, false, false, false, false, false, false, false, false, false, false, false, false, false, false, false, false]
abbrev ba2f_9 : Array Bool := #[true, true, true, true, true, true, true, false, false, false, false, false, false, false, false, false, false, false, false, false, false, false, false, false, false, false, false, false, false, false, false, false, false, false, false]
abbrev ba2f_10 : Array Bool := #[true, true, true, true, true, true, true, true, false, false, false, false, false, false, false, false, false, false, false, false, false, false, false, false, false, false, false, false, false, false, false, false, false, false, false]
abbrev ba2f_11 : Array Bool := #[true, true, true, true, true, true, true, true, true, false, false, false, false, false, false, false, false, false, false, false, false, false, false, false, false, false, false, false, false, false, false, false, false, false, false]
abbrev ba2f_12 : Array Bool := #[true, true, true, true, true, true, true, true, true, true, false, false, false, false, false, false, false, false, false, false, false, false, false, false, false, false, false, false, false, false, false, false, false, false, false]
abbrev ba2f_13 : Array Bool := #[true, true, true, true, true, true, true, true, true, true, true, false, false, false, false, false, false, false, false, false, false, false, false, false, false, false, false, false, false, false, false, false, false, false, false]
abbrev ba2f_14 : Array Bool := #[true, true, true, true, true, true, true, true, true, true, true, true, false, false, false, false, false, false, false, false, false, false, false, false, false, false, false, false, false, false, false, false, false, false, false]
abbrev ba2f_15 : Array Bool := #[true, true, true, true, true, true, true, true, true, true, true, true, true, false, false, false, false, false, false, false, false, false, false, false, false, false, false, false, false, false, false, false, false, false, false]
abbrev ba2f_16 : Array Bool := #[true, true, true, true, true, true, true, true, true, true, true, true, true, true, false, false, false, false, false, false, false, false, false, false, false, false, false, false, false, false, false, false, false, false, false]
abbrev ba2f_17 : Array Bool := #[true, true, true, true, true, true, true, true, true, true, true, true, true, true, true, false, false, false, false, false, false, false, false, false, false, false, false, false, false, false, false, false, false, false, false]
abbrev ba2f_18 : Array Bool := #[true, true, true, true, true, true, true, true, true, true, true, true, true, true, true, true, false, false, false, false, false, false, false, false, false, false, false, false, false, false, false, false, false, false, false]
abbrev ba2f_19 : Array Bool := #[true, true, true, true, true, true, true, true, true, true, true, true, true, true, true, true, true, false, false, false, false, false, false, false, false, false, false, false, false, false, false, false, false, false, false]
abbrev ba2f_20 : Array Bool := #[true, true, true, true, true, true, true, true, true, true, true, true, true, true, true, true, true, true, false, false, false, false, false, false, false, false, false, false, false, false, false, false, false, false, false]
abbrev ba2f_21 : Array Bool := #[true, true, true, true, true, true, true, true, true, true, true, true, true, true, true, true, true, true, true, false, false, false, false, false, false, false, false, false, false, false, false, false, false, false, false]
abbrev ba2f_22 : Array Bool := #[true, true, true, true, true, true, true, true, true, true, true, true, true, true, true, true, true, true, true, true, false, false, false, false, false, false, false, false, false, false, false, false, false, false, false]
abbrev ba2f_23 : Array Bool := #[true, true, true, true, true, true, true, true, true, true, true, true, true, true, true, true, true, true, true, true, false, true, false, false, false, false, false, false, false, false, false, false, false, false, false]
abbrev ba2f_24 : Array Bool := #[true, true, true, true, true, true, true, true, true, true, true, true, true, true, true, true, true, true, true, true, false, true, true, false, false, false, false, false, false, false, false, false, false, false, false]
abbrev ba2f_25 : Array Bool := #[true, true, true, true, true, true, true, true, true, true, true, true, true, true, true, true, true, true, true, true, true, true, true, false, false, false, false, false, false, false, false, false, false, false, false]
abbrev ba2f_26 : Array Bool := #[true, true, true, true, true, true, true, true, true, true, true, true, true, true, true, true, true, true, true, true, true, true, true, true, false, false, false, false, false, false, false, false, false, false, false]
abbrev ba2f_27 : Array Bool := #[true, true, true, true, true, true, true, true, true, true, true, true, true, true, true, true, true, true, true, true, true, true, true, true, true, false, false, false, false, false, false, false, false, false, false]
abbrev ba2f_28 : Array Bool := #[true, true, true, true, true, true, true, true, true, true, true, true, true, true, true, true, true, true, true, true, true, true, true, true, true, true, false, false, false, false, false, false, false, false, false]
abbrev ba2f_29 : Array Bool := #[true, true, true, true, true, true, true, true, true, true, true, true, true, true, true, true, true, true, true, true, true, true, true, true, true, true, true, false, false, false, false, false, false, false, false]
abbrev ba2f_30 : Array Bool := #[true, true, true, true, true, true, true, true, true, true, true, true, true, true, true, true, true, true, true, true, true, true, true, true, true, true, true, true, false, false, false, false, false, false, false]
abbrev ba2f_31 : Array Bool := #[true, true, true, true, true, true, true, true, true, true, true, true, true, true, true, true, true, true, true, true, true, true, true, true, true, true, true, true, true, false, false, false, false, false, false]
abbrev ba2f_32 : Array Bool := #[true, true, true, true, true, true, true, true, true, true, true, true, true, true, true, true, true, true, true, true, true, true, true, true, true, true, true, true, true, true, false, false, false, false, false]
abbrev ba2f_33 : Array Bool := #[true, true, true, true, true, true, true, true, true, true, true, true, true, true, true, true, true, true, true, true, true, true, true, true, true, true, true, true, true, true, true, false, false, false, false]
abbrev ba2f_34 : Array Bool := #[true, true, true, true, true, true, true, true, true, true, true, true, true, true, true, true, true, true, true, true, true, true, true, true, true, true, true, true, true, true, true, true, false, false, false]
abbrev ba2f_35 : Array Bool := #[true, true, true, true, true, true, true, true, true, true, true, true, true, true, true, true, true, true, true, true, true, true, true, true, true, true, true, true, true, true, true, true, true, false, false]
abbrev ba2f_36 : Array Bool := #[true, true, true, true, true, true, true, true, true, true, true, true, true, true, true, true, true, true, true, true, true, true, true, true, true, true, true, true, true, true, true, true, true, true, false]
abbrev ba2f_37 : Array Bool := #[true, true, true, true, true, true, true, true, true, true, true, true, true, true, true, true, true, true, true, true, true, true, true, true, true, true, true, true, true, true, true, true, true, true, true]
abbrev ba2f_38 : Array Bool := #[true, true, true, true, true, true, true, true, true, true, true, true, true, true, true, true, true, true, true, true, true, false, false, false, false, false, false, false, false, false, false, false, false, false, false]
abbrev ba2f_39 : Array Bool := #[true, true, true, true, true, true, true, true, true, true, true, true, true, true, true, true, true, true, true, true, true, true, false, false, false, false, false, false, false, false, false, false, false, false, false]
abbrev ba2f_40 : Array Bool := #[false, false, false, false, false, false, false, false, false, false, false, false, false, false, false]
abbrev ba2f_41 : Array Bool := #[true, false, false, false, false, false, false, false, false, false, false, false, false, false, false]
abbrev ba2f_42 : Array Bool := #[true, false, true, false, false, false, false, false, false, false, false, false, false, false, false]
abbrev ba2f_43 : Array Bool := #[true, false, true, true, false, false, false, false, false, false, false, false, false, false, false]
abbrev ba2f_44 : Array Bool := #[true, true, true, true, false, false, false, false, false, false, false, false, false, false, false]
abbrev ba2f_45 : Array Bool := #[true, true, true, true, true, false, false, false, false, false, false, false, false, false, false]
abbrev ba2f_46 : Array Bool := #[true, true, true, true, true, true, false, false, false, false, false, false, false, false, false]
abbrev ba2f_47 : Array Bool := #[true, true, true, true, true, true, true, false, false, false, false, false, false, false, false]
abbrev ba2f_48 : Array Bool := #[true, true, true, true, true, true, true, true, false, false, false, false, false, false, false]
abbrev ba2f_49 : Array Bool := #[true, true, true, true, true, true, true, true, true, false, false, false, false, false, false]
abbrev ba2f_50 : Array Bool := #[true, true, true, true, true, true, true, true, true, true, false, false, false, false, false]
abbrev ba2f_51 : Array Bool := #[true, true, true, true, true, true, true, true, true, true, true, false, false, false, false]
abbrev ba2f_52 : Array Bool := #[true, true, true, true, true, true, true, true, true, true, true, true, false, false, false]
abbrev ba2f_53 : Array Bool := #[true, true, true, true, true, true, true, true, true, true, true, true, true, false, false]
abbrev ba2f_54 : Array Bool := #[true, true, true, true, true, true, true, true, true, true, true, true, true, true, false]
abbrev ba2f_55 : Array Bool := #[true, true, true, true, true, true, true, true, true, true, true, true, true, true, true]
set_option maxHeartbeats 8000000 in
set_option maxRecDepth 100000 in
theorem spec_l2GoodExpr.calls (k : Nat) (A0 : Option Addr) (c0 : Nat) (l0 : List (S72)) (a1 : Int) (r : Bool) (w : World) (hr0 : Kd.C k72 w A0 l0.length l0) (hc0 : l0.length ≤ c0) (h : spec_l2GoodExpr.f k l0 a1 = some r) :
  Calls Try.prog 25 #[.slice A0 l0.length c0, .int .i64 a1] w fun e w' => e = .returned (.bool r) ∧ Below w.heap.size w w' := by
 have hu72 := Try.underlying72; have hu66 := Try.underlying66; have HR0 := a_ hr0; have HC0 := a_ hc0; clear hr0 hc0; have HB := a_ (Below.refl w.heap.size w); have H : (if 0 ≤ a1 then (if a1 < (l0.length : Int) then (if ((rd_T72 l0 a1).f1) = 0 then (if ((rd_T72 l0 a1).f4) = 0 then (spec_l2GoodExpr.j0 k l0 a1 (((rd_T72 l0 a1).f5) == 0) ((rd_T72 l0 a1).f0) ((rd_T72 l0 a1).f1) ((rd_T72 l0 a1).f2) ((rd_T72 l0 a1).f3.f0) ((rd_T72 l0 a1).f3.f1) ((rd_T72 l0 a1).f3.f2) ((rd_T72 l0 a1).f4) ((rd_T72 l0 a1).f5)) else (spec_l2GoodExpr.j0 k l0 a1 false ((rd_T72 l0 a1).f0) ((rd_T72 l0 a1).f1) ((rd_T72 l0 a1).f2) ((rd_T72 l0 a1).f3.f0) ((rd_T72 l0 a1).f3.f1) ((rd_T72 l0 a1).f3.f2) ((rd_T72 l0 a1).f4) ((rd_T72 l0 a1).f5))) else (spec_l2GoodExpr.j0 k l0 a1 false ((rd_T72 l0 a1).f0) ((rd_T72 l0 a1).f1) ((rd_T72 l0 a1).f2) ((rd_T72 l0 a1).f3.f0) ((rd_T72 l0 a1).f3.f1) ((rd_T72 l0 a1).f3.f2) ((rd_T72 l0 a1).f4) ((rd_T72 l0 a1).f5))) else (none)) else (none)) = some r := h
 clear h; by_cases c3 : 0 ≤ a1
 case neg => rw [if_neg c3] at H; cases H
 rw [if_pos c3] at H; have c3b0 := decide_eq_true c3; clear c3; by_cases c4 : a1 < (l0.length : Int)
 case neg => rw [if_neg c4] at H; cases H
 rw [if_pos c4] at H; have c4b0 := decide_eq_true c4; clear c4; have HC5 := a_ H; clear H; have p155 : 0 ≤ (a1 : Int) := md_
 have q155 : a1 < (l0.length : Int) := md_
 obtain ⟨ad155, e155, hx155_0, hx155_1, hx155_2, hx155_3, hx155_4, hx155_5, hx155_6, hx155_7⟩ := at_T72 HR0.out a1 p155 q155; cases e155; replace p155 := eq_true p155; replace q155 := eq_true q155; go_enter Try.func25, Try.ntmps25; go_upto_region 2 with (first | ((with_reducible refine gate_dst (N := 5) rfl ?_); refine bx_ 5 #[.int .i64 0, .int .u8 0, .string (⟨#[]⟩ : ByteArray), .int .i64 0, .int .i64 0, .string (⟨#[]⟩ : ByteArray), .int .i64 0, .int .i64 0] 72 ?_; intro gb156 hg w6 hbox hb; have BK156 := a_ (hbox); have GE156 := mg_ HB hg; replace HB := ms_ HB hb; clear hb hbox hg; obtain ⟨z7_0, z7_1, z7_2, z7_3, z7_4, z7_5, z7_6, z7_7, zf7_0, zf7_1, zf7_2, zf7_3, zf7_4, zf7_5, zf7_6, zf7_7⟩ := cz8 BK156)); (try simp only [Act.put, ps_]); go_cut [6] (fun v6 wc => ∃ (kq : Nat) (x6_4 : Bool), v6 = .bool x6_4 ∧ Aside0 (spec_l2GoodExpr.j0 kq l0 a1 x6_4 ((rd_T72 l0 a1).f0) ((rd_T72 l0 a1).f1) ((rd_T72 l0 a1).f2) ((rd_T72 l0 a1).f3.f0) ((rd_T72 l0 a1).f3.f1) ((rd_T72 l0 a1).f3.f2) ((rd_T72 l0 a1).f4) ((rd_T72 l0 a1).f5) = some r) ∧ Aside0 (kq ≤ k) ∧ Aside0 (wc.heap[gb156]? = some (.cells #[.int .i64 ((rd_T72 l0 a1).f0), .int .u8 ((rd_T72 l0 a1).f1), .string ((rd_T72 l0 a1).f2), .int .i64 ((rd_T72 l0 a1).f3.f0), .int .i64 ((rd_T72 l0 a1).f3.f1), .string ((rd_T72 l0 a1).f3.f2), .int .i64 ((rd_T72 l0 a1).f4), .int .i64 ((rd_T72 l0 a1).f5)] 72 (0, 0))) ∧ Aside0 (Below w.heap.size w wc))
 case first =>
  have H := HC5.out; clear HC5; by_cases c8 : ((rd_T72 l0 a1).f1) = 0
  ·rw [if_pos c8] at H; have c8b0 := beq_iff_eq.mpr c8; have c8b1 := bne_eq_false_iff_eq.mpr c8; clear c8; (first | rw [c8b0] | (simp only [i64_w, i32_w]; rw [c8b0]) | skip); by_cases c9 : ((rd_T72 l0 a1).f4) = 0
   ·rw [if_pos c9] at H; have c9b0 := beq_iff_eq.mpr c9; have c9b1 := bne_eq_false_iff_eq.mpr c9; clear c9; have H' := a_ H; clear H; obtain ⟨z10_0, z10_1, z10_2, z10_3, z10_4, z10_5, z10_6, z10_7, zf10_0, zf10_1, zf10_2, zf10_3, zf10_4, zf10_5, zf10_6, zf10_7⟩ := cz8 BK156; go_wp2; go_meet
    case rel => exact ⟨_, ((((rd_T72 l0 a1).f5) == 0)), mq_, H', ⟨by first | omega | exact Nat.le_refl _⟩, ⟨by (with_reducible repeat (first | refine blk_drewN ?_ _ | refine blk_drew ?_ | refine blk_alloc ?_ _)); refine blk_put (cs := #[.int .i64 ((rd_T72 l0 a1).f0), .int .u8 ((rd_T72 l0 a1).f1), .string ((rd_T72 l0 a1).f2), .int .i64 ((rd_T72 l0 a1).f3.f0), .int .i64 ((rd_T72 l0 a1).f3.f1), .string ((rd_T72 l0 a1).f3.f2), .int .i64 ((rd_T72 l0 a1).f4), .int .i64 0]) ?_ 7 _ rfl; (with_reducible repeat (first | refine blk_drewN ?_ _ | refine blk_drew ?_ | refine blk_alloc ?_ _)); refine blk_put (cs := #[.int .i64 ((rd_T72 l0 a1).f0), .int .u8 ((rd_T72 l0 a1).f1), .string ((rd_T72 l0 a1).f2), .int .i64 ((rd_T72 l0 a1).f3.f0), .int .i64 ((rd_T72 l0 a1).f3.f1), .string ((rd_T72 l0 a1).f3.f2), .int .i64 0, .int .i64 0]) ?_ 6 _ rfl; (with_reducible repeat (first | refine blk_drewN ?_ _ | refine blk_drew ?_ | refine blk_alloc ?_ _)); refine blk_put (cs := #[.int .i64 ((rd_T72 l0 a1).f0), .int .u8 ((rd_T72 l0 a1).f1), .string ((rd_T72 l0 a1).f2), .int .i64 ((rd_T72 l0 a1).f3.f0), .int .i64 ((rd_T72 l0 a1).f3.f1), .string (⟨#[]⟩ : ByteArray), .int .i64 0, .int .i64 0]) ?_ 5 _ rfl; (with_reducible repeat (first | refine blk_drewN ?_ _ | refine blk_drew ?_ | refine blk_alloc ?_ _)); refine blk_put (cs := #[.int .i64 ((rd_T72 l0 a1).f0), .int .u8 ((rd_T72 l0 a1).f1), .string ((rd_T72 l0 a1).f2), .int .i64 ((rd_T72 l0 a1).f3.f0), .int .i64 0, .string (⟨#[]⟩ : ByteArray), .int .i64 0, .int .i64 0]) ?_ 4 _ rfl; (with_reducible repeat (first | refine blk_drewN ?_ _ | refine blk_drew ?_ | refine blk_alloc ?_ _)); refine blk_put (cs := #[.int .i64 ((rd_T72 l0 a1).f0), .int .u8 ((rd_T72 l0 a1).f1), .string ((rd_T72 l0 a1).f2), .int .i64 0, .int .i64 0, .string (⟨#[]⟩ : ByteArray), .int .i64 0, .int .i64 0]) ?_ 3 _ rfl; (with_reducible repeat (first | refine blk_drewN ?_ _ | refine blk_drew ?_ | refine blk_alloc ?_ _)); refine blk_put (cs := #[.int .i64 ((rd_T72 l0 a1).f0), .int .u8 ((rd_T72 l0 a1).f1), .string (⟨#[]⟩ : ByteArray), .int .i64 0, .int .i64 0, .string (⟨#[]⟩ : ByteArray), .int .i64 0, .int .i64 0]) ?_ 2 _ rfl; (with_reducible repeat (first | refine blk_drewN ?_ _ | refine blk_drew ?_ | refine blk_alloc ?_ _)); refine blk_put (cs := #[.int .i64 ((rd_T72 l0 a1).f0), .int .u8 0, .string (⟨#[]⟩ : ByteArray), .int .i64 0, .int .i64 0, .string (⟨#[]⟩ : ByteArray), .int .i64 0, .int .i64 0]) ?_ 1 _ rfl; (with_reducible repeat (first | refine blk_drewN ?_ _ | refine blk_drew ?_ | refine blk_alloc ?_ _)); refine blk_put (cs := #[.int .i64 0, .int .u8 0, .string (⟨#[]⟩ : ByteArray), .int .i64 0, .int .i64 0, .string (⟨#[]⟩ : ByteArray), .int .i64 0, .int .i64 0]) ?_ 0 _ rfl; (with_reducible repeat (first | refine blk_drewN ?_ _ | refine blk_drew ?_ | refine blk_alloc ?_ _)); exact BK156.out⟩, ⟨mb_ HB⟩⟩
   ·rw [if_neg c9] at H; have c9b0 := beq_eq_false_iff_ne.mpr c9; have c9b1 := bne_iff_ne.mpr c9; have H' := a_ H; clear H; obtain ⟨z11_0, z11_1, z11_2, z11_3, z11_4, z11_5, z11_6, z11_7, zf11_0, zf11_1, zf11_2, zf11_3, zf11_4, zf11_5, zf11_6, zf11_7⟩ := cz8 BK156; go_wp2; go_meet
    case rel => exact ⟨_, (false), mq_, H', ⟨by first | omega | exact Nat.le_refl _⟩, ⟨by (with_reducible repeat (first | refine blk_drewN ?_ _ | refine blk_drew ?_ | refine blk_alloc ?_ _)); refine blk_put (cs := #[.int .i64 ((rd_T72 l0 a1).f0), .int .u8 ((rd_T72 l0 a1).f1), .string ((rd_T72 l0 a1).f2), .int .i64 ((rd_T72 l0 a1).f3.f0), .int .i64 ((rd_T72 l0 a1).f3.f1), .string ((rd_T72 l0 a1).f3.f2), .int .i64 ((rd_T72 l0 a1).f4), .int .i64 0]) ?_ 7 _ rfl; (with_reducible repeat (first | refine blk_drewN ?_ _ | refine blk_drew ?_ | refine blk_alloc ?_ _)); refine blk_put (cs := #[.int .i64 ((rd_T72 l0 a1).f0), .int .u8 ((rd_T72 l0 a1).f1), .string ((rd_T72 l0 a1).f2), .int .i64 ((rd_T72 l0 a1).f3.f0), .int .i64 ((rd_T72 l0 a1).f3.f1), .string ((rd_T72 l0 a1).f3.f2), .int .i64 0, .int .i64 0]) ?_ 6 _ rfl; (with_reducible repeat (first | refine blk_drewN ?_ _ | refine blk_drew ?_ | refine blk_alloc ?_ _)); refine blk_put (cs := #[.int .i64 ((rd_T72 l0 a1).f0), .int .u8 ((rd_T72 l0 a1).f1), .string ((rd_T72 l0 a1).f2), .int .i64 ((rd_T72 l0 a1).f3.f0), .int .i64 ((rd_T72 l0 a1).f3.f1), .string (⟨#[]⟩ : ByteArray), .int .i64 0, .int .i64 0]) ?_ 5 _ rfl; (with_reducible repeat (first | refine blk_drewN ?_ _ | refine blk_drew ?_ | refine blk_alloc ?_ _)); refine blk_put (cs := #[.int .i64 ((rd_T72 l0 a1).f0), .int .u8 ((rd_T72 l0 a1).f1), .string ((rd_T72 l0 a1).f2), .int .i64 ((rd_T72 l0 a1).f3.f0), .int .i64 0, .string (⟨#[]⟩ : ByteArray), .int .i64 0, .int .i64 0]) ?_ 4 _ rfl; (with_reducible repeat (first | refine blk_drewN ?_ _ | refine blk_drew ?_ | refine blk_alloc ?_ _)); refine blk_put (cs := #[.int .i64 ((rd_T72 l0 a1).f0), .int .u8 ((rd_T72 l0 a1).f1), .string ((rd_T72 l0 a1).f2), .int .i64 0, .int .i64 0, .string (⟨#[]⟩ : ByteArray), .int .i64 0, .int .i64 0]) ?_ 3 _ rfl; (with_reducible repeat (first | refine blk_drewN ?_ _ | refine blk_drew ?_ | refine blk_alloc ?_ _)); refine blk_put (cs := #[.int .i64 ((rd_T72 l0 a1).f0), .int .u8 ((rd_T72 l0 a1).f1), .string (⟨#[]⟩ : ByteArray), .int .i64 0, .int .i64 0, .string (⟨#[]⟩ : ByteArray), .int .i64 0, .int .i64 0]) ?_ 2 _ rfl; (with_reducible repeat (first | refine blk_drewN ?_ _ | refine blk_drew ?_ | refine blk_alloc ?_ _)); refine blk_put (cs := #[.int .i64 ((rd_T72 l0 a1).f0), .int .u8 0, .string (⟨#[]⟩ : ByteArray), .int .i64 0, .int .i64 0, .string (⟨#[]⟩ : ByteArray), .int .i64 0, .int .i64 0]) ?_ 1 _ rfl; (with_reducible repeat (first | refine blk_drewN ?_ _ | refine blk_drew ?_ | refine blk_alloc ?_ _)); refine blk_put (cs := #[.int .i64 0, .int .u8 0, .string (⟨#[]⟩ : ByteArray), .int .i64 0, .int .i64 0, .string (⟨#[]⟩ : ByteArray), .int .i64 0, .int .i64 0]) ?_ 0 _ rfl; (with_reducible repeat (first | refine blk_drewN ?_ _ | refine blk_drew ?_ | refine blk_alloc ?_ _)); exact BK156.out⟩, ⟨mb_ HB⟩⟩
  ·rw [if_neg c8] at H; have c8b0 := beq_eq_false_iff_ne.mpr c8; have c8b1 := bne_iff_ne.mpr c8; (first | rw [c8b0] | (simp only [i64_w, i32_w]; rw [c8b0]) | skip); have H' := a_ H; clear H; obtain ⟨z12_0, z12_1, z12_2, z12_3, z12_4, z12_5, z12_6, z12_7, zf12_0, zf12_1, zf12_2, zf12_3, zf12_4, zf12_5, zf12_6, zf12_7⟩ := cz8 BK156; go_wp2; go_meet
   case rel => exact ⟨_, (false), mq_, H', ⟨by first | omega | exact Nat.le_refl _⟩, ⟨by (with_reducible repeat (first | refine blk_drewN ?_ _ | refine blk_drew ?_ | refine blk_alloc ?_ _)); refine blk_put (cs := #[.int .i64 ((rd_T72 l0 a1).f0), .int .u8 ((rd_T72 l0 a1).f1), .string ((rd_T72 l0 a1).f2), .int .i64 ((rd_T72 l0 a1).f3.f0), .int .i64 ((rd_T72 l0 a1).f3.f1), .string ((rd_T72 l0 a1).f3.f2), .int .i64 ((rd_T72 l0 a1).f4), .int .i64 0]) ?_ 7 _ rfl; (with_reducible repeat (first | refine blk_drewN ?_ _ | refine blk_drew ?_ | refine blk_alloc ?_ _)); refine blk_put (cs := #[.int .i64 ((rd_T72 l0 a1).f0), .int .u8 ((rd_T72 l0 a1).f1), .string ((rd_T72 l0 a1).f2), .int .i64 ((rd_T72 l0 a1).f3.f0), .int .i64 ((rd_T72 l0 a1).f3.f1), .string ((rd_T72 l0 a1).f3.f2), .int .i64 0, .int .i64 0]) ?_ 6 _ rfl; (with_reducible repeat (first | refine blk_drewN ?_ _ | refine blk_drew ?_ | refine blk_alloc ?_ _)); refine blk_put (cs := #[.int .i64 ((rd_T72 l0 a1).f0), .int .u8 ((rd_T72 l0 a1).f1), .string ((rd_T72 l0 a1).f2), .int .i64 ((rd_T72 l0 a1).f3.f0), .int .i64 ((rd_T72 l0 a1).f3.f1), .string (⟨#[]⟩ : ByteArray), .int .i64 0, .int .i64 0]) ?_ 5 _ rfl; (with_reducible repeat (first | refine blk_drewN ?_ _ | refine blk_drew ?_ | refine blk_alloc ?_ _)); refine blk_put (cs := #[.int .i64 ((rd_T72 l0 a1).f0), .int .u8 ((rd_T72 l0 a1).f1), .string ((rd_T72 l0 a1).f2), .int .i64 ((rd_T72 l0 a1).f3.f0), .int .i64 0, .string (⟨#[]⟩ : ByteArray), .int .i64 0, .int .i64 0]) ?_ 4 _ rfl; (with_reducible repeat (first | refine blk_drewN ?_ _ | refine blk_drew ?_ | refine blk_alloc ?_ _)); refine blk_put (cs := #[.int .i64 ((rd_T72 l0 a1).f0), .int .u8 ((rd_T72 l0 a1).f1), .string ((rd_T72 l0 a1).f2), .int .i64 0, .int .i64 0, .string (⟨#[]⟩ : ByteArray), .int .i64 0, .int .i64 0]) ?_ 3 _ rfl; (with_reducible repeat (first | refine blk_drewN ?_ _ | refine blk_drew ?_ | refine blk_alloc ?_ _)); refine blk_put (cs := #[.int .i64 ((rd_T72 l0 a1).f0), .int .u8 ((rd_T72 l0 a1).f1), .string (⟨#[]⟩ : ByteArray), .int .i64 0, .int .i64 0, .string (⟨#[]⟩ : ByteArray), .int .i64 0, .int .i64 0]) ?_ 2 _ rfl; (with_reducible repeat (first | refine blk_drewN ?_ _ | refine blk_drew ?_ | refine blk_alloc ?_ _)); refine blk_put (cs := #[.int .i64 ((rd_T72 l0 a1).f0), .int .u8 0, .string (⟨#[]⟩ : ByteArray), .int .i64 0, .int .i64 0, .string (⟨#[]⟩ : ByteArray), .int .i64 0, .int .i64 0]) ?_ 1 _ rfl; (with_reducible repeat (first | refine blk_drewN ?_ _ | refine blk_drew ?_ | refine blk_alloc ?_ _)); refine blk_put (cs := #[.int .i64 0, .int .u8 0, .string (⟨#[]⟩ : ByteArray), .int .i64 0, .int .i64 0, .string (⟨#[]⟩ : ByteArray), .int .i64 0, .int .i64 0]) ?_ 0 _ rfl; (with_reducible repeat (first | refine blk_drewN ?_ _ | refine blk_drew ?_ | refine blk_alloc ?_ _)); exact BK156.out⟩, ⟨mb_ HB⟩⟩
 clear HC5; (try clear c3b0); (try clear c4b0); (try clear z7_0 z7_1 z7_2 z7_3 z7_4 z7_5 z7_6 z7_7 zf7_0 zf7_1 zf7_2 zf7_3 zf7_4 zf7_5 zf7_6 zf7_7); (try clear hx155_0); (try clear hx155_1); (try clear hx155_2); (try clear hx155_3); (try clear hx155_4); (try clear hx155_5); (try clear hx155_6); (try clear hx155_7); (try clear p155); (try clear q155); obtain ⟨kq, x6_4, rfl, HA, HJ4, BK156, HB⟩ := hcut; obtain _ | kj4 := kq
 ·exact absurd HA.out (by simp [spec_l2GoodExpr.j0])
 have H := HA.out; clear HA; simp only [spec_l2GoodExpr.j0] at H; by_cases c13 : ((rd_T72 l0 a1).f0) = 0
 ·rw [if_pos c13] at H; have c13b0 := beq_iff_eq.mpr c13; have c13b1 := bne_eq_false_iff_eq.mpr c13; clear c13; by_cases c14 : x6_4 = true
  ·subst c14; rw [if_pos rfl] at H; by_cases c15 : ((rd_T72 l0 a1).f2).toList = ([] : List UInt8)
   ·rw [if_pos c15] at H; have c15b0 := beq_iff_eq.mpr c15; have c15b1 := bne_eq_false_iff_eq.mpr c15; clear c15; replace H := Option.bind_eq_some_iff.mp H; obtain ⟨t157, A160, H⟩ := H; have A16 := a_ A160; clear A160; obtain rfl := Option.some.inj H; obtain ⟨z17_0, z17_1, z17_2, z17_3, z17_4, z17_5, z17_6, z17_7, zf17_0, zf17_1, zf17_2, zf17_3, zf17_4, zf17_5, zf17_6, zf17_7⟩ := cz8 BK156; go_wp2_with (first | (go_at_call 44; (with_reducible refine (spec_l1GoodVal.calls kj4 ((rd_T72 l0 a1).f3.f0) ((rd_T72 l0 a1).f3.f1) ((rd_T72 l0 a1).f3.f2) t157 _ A16.out).mono ?_); rintro e w18 ⟨rfl, hb⟩; replace BK156 := mk_ BK156 hb; replace HB := ms_ HB hb; (try clear hb); (try clear hb2); (try clear hk); (try clear hi))); go_ret; exact ⟨me_, mb_ HB⟩
   ·rw [if_neg c15] at H; have c15b0 := beq_eq_false_iff_ne.mpr c15; have c15b1 := bne_iff_ne.mpr c15; obtain rfl := Option.some.inj H; obtain ⟨z19_0, z19_1, z19_2, z19_3, z19_4, z19_5, z19_6, z19_7, zf19_0, zf19_1, zf19_2, zf19_3, zf19_4, zf19_5, zf19_6, zf19_7⟩ := cz8 BK156; go_wp2; go_ret; exact ⟨me_, mb_ HB⟩
  ·replace c14 := Bool.eq_false_iff.mpr c14; subst c14; rw [if_neg (show ¬ (false = true) by decide)] at H; obtain rfl := Option.some.inj H; obtain ⟨z20_0, z20_1, z20_2, z20_3, z20_4, z20_5, z20_6, z20_7, zf20_0, zf20_1, zf20_2, zf20_3, zf20_4, zf20_5, zf20_6, zf20_7⟩ := cz8 BK156; go_wp2; go_ret; exact ⟨me_, mb_ HB⟩
 ·rw [if_neg c13] at H; have c13b0 := beq_eq_false_iff_ne.mpr c13; have c13b1 := bne_iff_ne.mpr c13; by_cases c21 : ((rd_T72 l0 a1).f0) = 1
  ·rw [if_pos c21] at H; have c21b0 := beq_iff_eq.mpr c21; have c21b1 := bne_eq_false_iff_eq.mpr c21; clear c21; by_cases c22 : x6_4 = true
   ·subst c22; rw [if_pos rfl] at H; replace H := Option.bind_eq_some_iff.mp H; obtain ⟨t158, A230, H⟩ := H; have A23 := a_ A230; clear A230; by_cases c24 : t158 = true
    ·subst c24; rw [if_pos rfl] at H; replace H := Option.bind_eq_some_iff.mp H; obtain ⟨t159, A250, H⟩ := H; have A25 := a_ A250; clear A250; obtain rfl := Option.some.inj H; obtain ⟨z26_0, z26_1, z26_2, z26_3, z26_4, z26_5, z26_6, z26_7, zf26_0, zf26_1, zf26_2, zf26_3, zf26_4, zf26_5, zf26_6, zf26_7⟩ := cz8 BK156; go_wp2_with (first | (go_at_call 23; (with_reducible refine (spec_l1GoodSym.calls kj4 ((rd_T72 l0 a1).f2) true _ A23.out).mono ?_); rintro e w' ⟨rfl, ⟨nd, rfl⟩⟩) | (go_at_call 45; (with_reducible refine (spec_l2Zero.calls ((rd_T72 l0 a1).f3.f0) ((rd_T72 l0 a1).f3.f1) ((rd_T72 l0 a1).f3.f2) t159 _ A25.out).mono ?_); rintro e w27 ⟨rfl, hb⟩; replace BK156 := mk_ BK156 hb; replace HB := ms_ HB hb; (try clear hb); (try clear hb2); (try clear hk); (try clear hi))); go_ret; exact ⟨me_, mb_ HB⟩
    ·replace c24 := Bool.eq_false_iff.mpr c24; subst c24; rw [if_neg (show ¬ (false = true) by decide)] at H; obtain rfl := Option.some.inj H; obtain ⟨z28_0, z28_1, z28_2, z28_3, z28_4, z28_5, z28_6, z28_7, zf28_0, zf28_1, zf28_2, zf28_3, zf28_4, zf28_5, zf28_6, zf28_7⟩ := cz8 BK156; go_wp2_with (first | (go_at_call 23; (with_reducible refine (spec_l1GoodSym.calls kj4 ((rd_T72 l0 a1).f2) false _ A23.out).mono ?_); rintro e w' ⟨rfl, ⟨nd, rfl⟩⟩)); go_ret; exact ⟨me_, mb_ HB⟩
   ·replace c22 := Bool.eq_false_iff.mpr c22; subst c22; rw [if_neg (show ¬ (false = true) by decide)] at H; obtain rfl := Option.some.inj H; obtain ⟨z29_0, z29_1, z29_2, z29_3, z29_4, z29_5, z29_6, z29_7, zf29_0, zf29_1, zf29_2, zf29_3, zf29_4, zf29_5, zf29_6, zf29_7⟩ := cz8 BK156; go_wp2; go_ret; exact ⟨me_, mb_ HB⟩
  ·rw [if_neg c21] at H; have c21b0 := beq_eq_false_iff_ne.mpr c21; have c21b1 := bne_iff_ne.mpr c21; by_cases c30 : ((rd_T72 l0 a1).f0) = 2
   ·rw [if_pos c30] at H; have c30b0 := beq_iff_eq.mpr c30; have c30b1 := bne_eq_false_iff_eq.mpr c30; clear c30; have HC31 := a_ H; clear H; obtain ⟨z32_0, z32_1, z32_2, z32_3, z32_4, z32_5, z32_6, z32_7, zf32_0, zf32_1, zf32_2, zf32_3, zf32_4, zf32_5, zf32_6, zf32_7⟩ := cz8 BK156; go_upto_region 9 with (fail); go_cut [88] (fun v88 wc => ∃ (kq : Nat) (x88_30 : Bool), v88 = .bool x88_30 ∧ Aside0 (spec_l2GoodExpr.j1 kq l0 a1 x88_30 ((rd_T72 l0 a1).f0) ((rd_T72 l0 a1).f1) ((rd_T72 l0 a1).f2) ((rd_T72 l0 a1).f3.f0) ((rd_T72 l0 a1).f3.f1) ((rd_T72 l0 a1).f3.f2) ((rd_T72 l0 a1).f4) ((rd_T72 l0 a1).f5) = some r) ∧ Aside0 (kq ≤ kj4) ∧ Aside0 (wc.heap[gb156]? = some (.cells #[.int .i64 ((rd_T72 l0 a1).f0), .int .u8 ((rd_T72 l0 a1).f1), .string ((rd_T72 l0 a1).f2), .int .i64 ((rd_T72 l0 a1).f3.f0), .int .i64 ((rd_T72 l0 a1).f3.f1), .string ((rd_T72 l0 a1).f3.f2), .int .i64 ((rd_T72 l0 a1).f4), .int .i64 ((rd_T72 l0 a1).f5)] 72 (0, 0))) ∧ Aside0 (Below w.heap.size w wc))
    case first =>
     have H := HC31.out; clear HC31; obtain ⟨y160, hy160⟩ : ∃ y_ : List Int, y_ = (([((rd_T72 l0 a1).f1)] : List Int)) := ⟨_, rfl⟩; rw [← hy160] at H; have Ny160 := a_ hy160; clear hy160; replace H := Option.bind_eq_some_iff.mp H; obtain ⟨t163, A330, H⟩ := H; have A33 := a_ A330; clear A330; replace H := Option.bind_eq_some_iff.mp H; obtain ⟨t166, A340, H⟩ := H; have A34 := a_ A340; clear A340; by_cases c35 : t166 = true
     ·subst c35; rw [if_pos rfl] at H; by_cases c36 : ((rd_T72 l0 a1).f2).toList = ([] : List UInt8)
      ·rw [if_pos c36] at H; have c36b0 := beq_iff_eq.mpr c36; have c36b1 := bne_eq_false_iff_eq.mpr c36; clear c36; (first | rw [c36b0] | (simp only [i64_w, i32_w]; rw [c36b0]) | skip); replace H := Option.bind_eq_some_iff.mp H; obtain ⟨t167, A370, H⟩ := H; have A37 := a_ A370; clear A370; by_cases c38 : t167 = true
       ·subst c38; rw [if_pos rfl] at H; by_cases c39 : ((rd_T72 l0 a1).f5) = (wrap64 (a1 - 1))
        ·rw [if_pos c39] at H; have c39b0 := beq_iff_eq.mpr c39; have c39b1 := bne_eq_false_iff_eq.mpr c39; clear c39; by_cases c40 : ((rd_T72 l0 a1).f5) < 0
         ·rw [if_pos c40] at H; have c40b0 := decide_eq_true c40; clear c40; have H' := a_ H; clear H; try go_wp2
          replace BK156 := a_ (blk_drew BK156.out); replace HB := a_ (below_drew1 HB.out); refine start_ (n := 35) (S := fun w' => w'.cell? ⟨gb156, 0, none⟩ = some (.int .i64 ((rd_T72 l0 a1).f0)) ∧ w'.cell? ⟨gb156, 1, none⟩ = some (.int .u8 ((rd_T72 l0 a1).f1)) ∧ w'.cell? ⟨gb156, 2, none⟩ = some (.string ((rd_T72 l0 a1).f2)) ∧ w'.cell? ⟨gb156, 3, none⟩ = some (.int .i64 ((rd_T72 l0 a1).f3.f0)) ∧ w'.cell? ⟨gb156, 4, none⟩ = some (.int .i64 ((rd_T72 l0 a1).f3.f1)) ∧ w'.cell? ⟨gb156, 5, none⟩ = some (.string ((rd_T72 l0 a1).f3.f2)) ∧ w'.cell? ⟨gb156, 6, none⟩ = some (.int .i64 ((rd_T72 l0 a1).f4)) ∧ w'.cell? ⟨gb156, 7, none⟩ = some (.int .i64 ((rd_T72 l0 a1).f5))) (ds := []) ba2f_0 (by kernel_rfl) rfl rfl ⟨(blk_cell BK156.out 0).trans rfl, (blk_cell BK156.out 1).trans rfl, (blk_cell BK156.out 2).trans rfl, (blk_cell BK156.out 3).trans rfl, (blk_cell BK156.out 4).trans rfl, (blk_cell BK156.out 5).trans rfl, (blk_cell BK156.out 6).trans rfl, (blk_cell BK156.out 7).trans rfl⟩ (fun hHeld => ?_); refine with_tabW spec_l2GoodExpr.tab9 spec_l2GoodExpr.bits9 (fun HT_ HW_ => ?_); generalize wc.drew = w41 at BK156 HB hHeld ⊢; refine pu_ 0 54 ba2f_1 (any_of HT_.out (by kernel_rfl)) ?_; refine take_ (i := 1) (N := some 55) (v := ?_) (a' := ?_) ba2f_2 rfl rfl (take_ofW HT_.out HW_.out (by kernel_rfl)) (fun _ _ _ h => h) (Or.inl ⟨by rfl, ?_⟩) hHeld ?_ ?_; rotate_left
          ·rintro w' ⟨s0, s1, s2, s3, s4, s5, s6, s7⟩; go_simp; with_reducible rfl
          rotate_left
          ·simp only [Act.put, ps_]; rfl
          refine join_ (σ := Value × Value) 30 ba2f_3 (fun s_ => [(56, s_.1), (57, .string (strOfNums y160)), (58, s_.2)]) (fun s_ w' => (w'.cell? ⟨gb156, 0, none⟩ = some (.int .i64 ((rd_T72 l0 a1).f0)) ∧ w'.cell? ⟨gb156, 1, none⟩ = some (.int .u8 ((rd_T72 l0 a1).f1)) ∧ w'.cell? ⟨gb156, 2, none⟩ = some (.string ((rd_T72 l0 a1).f2)) ∧ w'.cell? ⟨gb156, 3, none⟩ = some (.int .i64 ((rd_T72 l0 a1).f3.f0)) ∧ w'.cell? ⟨gb156, 4, none⟩ = some (.int .i64 ((rd_T72 l0 a1).f3.f1)) ∧ w'.cell? ⟨gb156, 5, none⟩ = some (.string ((rd_T72 l0 a1).f3.f2)) ∧ w'.cell? ⟨gb156, 6, none⟩ = some (.int .i64 ((rd_T72 l0 a1).f4)) ∧ w'.cell? ⟨gb156, 7, none⟩ = some (.int .i64 ((rd_T72 l0 a1).f5))) ∧ (Kd.R (Kd.int .u8) 5 w' w.heap.size (fun _ => True) s_.1 y160) ∧ (Kd.R Kd.string 9 w' w.heap.size (fun _ => True) s_.2 t163) ∧ (w'.heap[gb156]? = some (.cells #[.int .i64 ((rd_T72 l0 a1).f0), .int .u8 ((rd_T72 l0 a1).f1), .string ((rd_T72 l0 a1).f2), .int .i64 ((rd_T72 l0 a1).f3.f0), .int .i64 ((rd_T72 l0 a1).f3.f1), .string ((rd_T72 l0 a1).f3.f2), .int .i64 ((rd_T72 l0 a1).f4), .int .i64 ((rd_T72 l0 a1).f5)] 72 (0, 0))) ∧ (Below w.heap.size w w')) ?_ ?_; rotate_left
          ·intro hCont; refine two_ (i := 2) (j := 4) (Ni := some 56) (Nj := some 58) ba2f_4 ba2f_5 rfl rfl rfl rfl (two_of HT_.out (by kernel_rfl)) (by decide) (by decide) (fun K hK => ?_) (fun K hK => ?_)
           ·skip; refine Kd.R_lit_step (Kd.int .u8) _ 5 ?hg (N := 56) ?hd (xs := ([((rd_T72 l0 a1).f1)] : List Int)) (inner := [.int .u8 ((rd_T72 l0 a1).f1)]) (ok := fun _ => True) (okp := fun _ => True) ?hr ?hp (fun _ hk => hk) trivial (Below.refl _ _) (Nat.le_refl _) (by simp) ?_; (case hd => rfl); (case hg => rfl); (case hr => first | (go_simp; done) | (go_simp; rfl)); (case hp => exact (Reps.one (show Kd.M (Kd.int .u8) _ _ _ ((rd_T72 l0 a1).f1) [.int .u8 ((rd_T72 l0 a1).f1)] from rfl) (Reps.none _ _))); intro v161 w42 ho43 hb hg_ hnew_; clear hg_ hnew_; (first | rw [← Ny160.out] at ho43 | (simp only [Int.reduceToNat] at ho43; rw [← Ny160.out] at ho43)); have HO162 := a_ (Kd.R_lower ho43 (below_size (mb_ HB))); replace BK156 := mk_ BK156 hb; replace HB := ms_ HB hb; clear hb ho43; refine hK.out _ _ (bc8 BK156) fun hHeld => ?_
            clear hK K; refine nm_ 56 ?_; refine two_ (i := 3) (j := 4) (Ni := some 57) (Nj := some 58) ba2f_6 ba2f_7 rfl rfl rfl rfl (two_of HT_.out (by kernel_rfl)) (by decide) (by decide) (fun K hK => ?_) (fun K hK => ?_)
            ·skip; have hcv44 := own_string (P := Try.prog) Try.underlying98 Try.underlying5 Try.underlying9 (Kd.own_of_R HO162.out); refine value_ (w1 := ?_) (v := ?_) (by rfl) rfl ?_ ?_; rotate_left 2
             ·go_simp; constructor
              ·rfl
              ·rfl
             clear hcv44; refine hK.out _ _ (bc8 BK156) fun hHeld => ?_
             clear hK K; refine nm_ 57 ?_; refine one_ (i := 4) (N := some 58) ba2f_3 rfl rfl (one_of HT_.out (by kernel_rfl)) (by decide) (fun K hK => ?_); refine goes_ Try.func46 (by kernel_rfl) rfl #[] (by rfl) rfl rfl mw_ ?_; with_reducible refine (spec_l2Ariths.calls  t163 _ A33.out).mono ?_
             rintro e w45 ⟨v164, rfl, ho0, hb⟩; refine ⟨_, rfl, ?_⟩; have HO165 := a_ (Kd.R_lower ho0 (below_size (mb_ HB))); replace HO162 := a_ (Kd.R_below (mo_ HO162.out) hb); replace BK156 := mk_ BK156 hb; replace HB := ms_ HB hb; (try clear hb); (try clear hb2); (try clear hk); (try clear hi); (try clear ho0); refine hK.out _ _ (bc8 BK156) fun hHeld => ?_
             clear hK K; refine nm_ 58 ?_; exact norm_ (by simp only [putAll, Act.put, ps_]) (hCont (v161, v164) _ ⟨hHeld, (mo_ HO162.out), (mo_ HO165.out), (mc_ BK156), (mb_ HB)⟩)
            ·skip; refine goes_ Try.func46 (by kernel_rfl) rfl #[] (by rfl) rfl rfl mw_ ?_; with_reducible refine (spec_l2Ariths.calls  t163 _ A33.out).mono ?_
             rintro e w44 ⟨v164, rfl, ho0, hb⟩; refine ⟨_, rfl, ?_⟩; have HO165 := a_ (Kd.R_lower ho0 (below_size (mb_ HB))); replace HO162 := a_ (Kd.R_below (mo_ HO162.out) hb); replace BK156 := mk_ BK156 hb; replace HB := ms_ HB hb; (try clear hb); (try clear hb2); (try clear hk); (try clear hi); (try clear ho0); refine hK.out _ _ (bc8 BK156) fun hHeld => ?_
             clear hK K; refine nm_ 58 ?_; refine one_ (i := 3) (N := some 57) ba2f_3 rfl rfl (one_of HT_.out (by kernel_rfl)) (by decide) (fun K hK => ?_); have hcv45 := own_string (P := Try.prog) Try.underlying98 Try.underlying5 Try.underlying9 (Kd.own_of_R HO162.out); refine value_ (w1 := ?_) (v := ?_) (by rfl) rfl ?_ ?_; rotate_left 2
             ·go_simp; constructor
              ·rfl
              ·rfl
             clear hcv45; refine hK.out _ _ (bc8 BK156) fun hHeld => ?_
             clear hK K; refine nm_ 57 ?_; exact norm_ (by simp only [putAll, Act.put, ps_]) (hCont (v161, v164) _ ⟨hHeld, (mo_ HO162.out), (mo_ HO165.out), (mc_ BK156), (mb_ HB)⟩)
           ·skip; refine goes_ Try.func46 (by kernel_rfl) rfl #[] (by rfl) rfl rfl mw_ ?_; with_reducible refine (spec_l2Ariths.calls  t163 _ A33.out).mono ?_
            rintro e w42 ⟨v164, rfl, ho0, hb⟩; refine ⟨_, rfl, ?_⟩; have HO165 := a_ (Kd.R_lower ho0 (below_size (mb_ HB))); replace BK156 := mk_ BK156 hb; replace HB := ms_ HB hb; (try clear hb); (try clear hb2); (try clear hk); (try clear hi); (try clear ho0); refine hK.out _ _ (bc8 BK156) fun hHeld => ?_
            clear hK K; refine nm_ 58 ?_; refine one_ (i := 2) (N := some 56) ba2f_7 rfl rfl (one_of HT_.out (by kernel_rfl)) (by decide) (fun K hK => ?_); refine Kd.R_lit_step (Kd.int .u8) _ 5 ?hg (N := 56) ?hd (xs := ([((rd_T72 l0 a1).f1)] : List Int)) (inner := [.int .u8 ((rd_T72 l0 a1).f1)]) (ok := fun _ => True) (okp := fun _ => True) ?hr ?hp (fun _ hk => hk) trivial (Below.refl _ _) (Nat.le_refl _) (by simp) ?_; (case hd => rfl); (case hg => rfl); (case hr => first | (go_simp; done) | (go_simp; rfl)); (case hp => exact (Reps.one (show Kd.M (Kd.int .u8) _ _ _ ((rd_T72 l0 a1).f1) [.int .u8 ((rd_T72 l0 a1).f1)] from rfl) (Reps.none _ _))); intro v161 w43 ho44 hb hg_ hnew_; clear hg_ hnew_; (first | rw [← Ny160.out] at ho44 | (simp only [Int.reduceToNat] at ho44; rw [← Ny160.out] at ho44)); have HO162 := a_ (Kd.R_lower ho44 (below_size (mb_ HB))); replace HO165 := a_ (Kd.R_below (mo_ HO165.out) hb); replace BK156 := mk_ BK156 hb; replace HB := ms_ HB hb; clear hb ho44; refine hK.out _ _ (bc8 BK156) fun hHeld => ?_
            clear hK K; refine nm_ 56 ?_; refine one_ (i := 3) (N := some 57) ba2f_3 rfl rfl (one_of HT_.out (by kernel_rfl)) (by decide) (fun K hK => ?_); have hcv45 := own_string (P := Try.prog) Try.underlying98 Try.underlying5 Try.underlying9 (Kd.own_of_R HO162.out); refine value_ (w1 := ?_) (v := ?_) (by rfl) rfl ?_ ?_; rotate_left 2
            ·go_simp; constructor
             ·rfl
             ·rfl
            clear hcv45; refine hK.out _ _ (bc8 BK156) fun hHeld => ?_
            clear hK K; refine nm_ 57 ?_; exact norm_ (by simp only [putAll, Act.put, ps_]) (hCont (v161, v164) _ ⟨hHeld, (mo_ HO162.out), (mo_ HO165.out), (mc_ BK156), (mb_ HB)⟩)
          rintro ⟨v161, v164⟩ w46 ⟨hS_, h0_, h1_, h2_, h3_⟩; have n0_ : Aside0 (Kd.R (Kd.int .u8) 5 w46 w.heap.size (fun _ => True) v161 y160) := ⟨h0_⟩
          have n1_ : Aside0 (Kd.R Kd.string 9 w46 w.heap.size (fun _ => True) v164 t163) := ⟨h1_⟩
          have n2_ : Aside0 (w46.heap[gb156]? = some (.cells #[.int .i64 ((rd_T72 l0 a1).f0), .int .u8 ((rd_T72 l0 a1).f1), .string ((rd_T72 l0 a1).f2), .int .i64 ((rd_T72 l0 a1).f3.f0), .int .i64 ((rd_T72 l0 a1).f3.f1), .string ((rd_T72 l0 a1).f3.f2), .int .i64 ((rd_T72 l0 a1).f4), .int .i64 ((rd_T72 l0 a1).f5)] 72 (0, 0))) := ⟨h2_⟩
          have n3_ : Aside0 (Below w.heap.size w w46) := ⟨h3_⟩
          clear BK156; clear HB; clear h0_ h1_ h2_ h3_; have HO162 := n0_; have HO165 := n1_; have BK156 := n2_; have HB := n3_; clear n0_ n1_ n2_ n3_; have hHeld : w46.cell? ⟨gb156, 0, none⟩ = some (.int .i64 ((rd_T72 l0 a1).f0)) ∧ w46.cell? ⟨gb156, 1, none⟩ = some (.int .u8 ((rd_T72 l0 a1).f1)) ∧ w46.cell? ⟨gb156, 2, none⟩ = some (.string ((rd_T72 l0 a1).f2)) ∧ w46.cell? ⟨gb156, 3, none⟩ = some (.int .i64 ((rd_T72 l0 a1).f3.f0)) ∧ w46.cell? ⟨gb156, 4, none⟩ = some (.int .i64 ((rd_T72 l0 a1).f3.f1)) ∧ w46.cell? ⟨gb156, 5, none⟩ = some (.string ((rd_T72 l0 a1).f3.f2)) ∧ w46.cell? ⟨gb156, 6, none⟩ = some (.int .i64 ((rd_T72 l0 a1).f4)) ∧ w46.cell? ⟨gb156, 7, none⟩ = some (.int .i64 ((rd_T72 l0 a1).f5)) := hS_
          obtain ⟨Ao47, co47, eo47⟩ := Kd.R_slice HO165.out; (first | subst eo47 | (injection eo47 with f1_ f2_ f3_; have f4_ := f1_.symm; have f5_ := f3_.symm; clear f1_ f2_ f3_; subst f4_; subst f5_)); refine norm_ (a' := ?_) ?_ ?_; rotate_left
          ·simp only [putAll, Act.put, ps_]; rfl
          refine one_ (i := 5) (N := some 59) ba2f_8 rfl rfl (one_of HT_.out (by kernel_rfl)) (by decide) (fun K hK => ?_); refine goes_ Try.func27 (by kernel_rfl) rfl #[.string (strOfNums y160), .slice Ao47 t163.length co47] (by rfl) rfl rfl mw_ ?_; with_reducible refine (spec_l2Is.calls kj4 (strOfNums y160) _ _ t163 true _ ?side1 ?side2 A34.out).mono ?_
          (case side1 => repeat (first | exact (Kd.R_reads' HO165.out).2.2 | (with_reducible refine Kd.C_alloc ?_ _) | (with_reducible refine Kd.C_drewN ?_ _) | (with_reducible refine Kd.C_drew ?_)))
          (case side2 => exact (Kd.R_reads' HO165.out).2.1)
          rintro e w' ⟨rfl, ⟨nd, rfl⟩⟩; refine ⟨_, rfl, ?_⟩; refine hK.out _ _ (bc8 BK156) fun hHeld => ?_
          clear hK K; refine nm_ 59 ?_; refine pu_ 6 60 ba2f_9 (any_of HT_.out (by kernel_rfl)) ?_; refine pu_ 7 61 ba2f_10 (any_of HT_.out (by kernel_rfl)) ?_; refine pu_ 8 62 ba2f_11 (any_of HT_.out (by kernel_rfl)) ?_; refine take_ (i := 9) (N := some 63) (v := ?_) (a' := ?_) ba2f_12 rfl rfl (take_ofW HT_.out HW_.out (by kernel_rfl)) (fun _ _ _ h => h) (Or.inl ⟨by rfl, ?_⟩) hHeld ?_ ?_; rotate_left
          ·rintro w' ⟨s0, s1, s2, s3, s4, s5, s6, s7⟩; go_simp; with_reducible rfl
          rotate_left
          ·simp only [Act.put, ps_]; rfl
          refine pu_ 10 64 ba2f_13 (any_of HT_.out (by kernel_rfl)) ?_; refine pu_ 11 65 ba2f_14 (any_of HT_.out (by kernel_rfl)) ?_; refine pu_ 12 66 ba2f_15 (any_of HT_.out (by kernel_rfl)) ?_; refine pu_ 13 67 ba2f_16 (any_of HT_.out (by kernel_rfl)) ?_; refine take_ (i := 14) (N := some 68) (v := ?_) (a' := ?_) ba2f_17 rfl rfl (take_ofW HT_.out HW_.out (by kernel_rfl)) (fun _ _ _ h => h) (Or.inl ⟨by rfl, ?_⟩) hHeld ?_ ?_; rotate_left
          ·rintro w' ⟨s0, s1, s2, s3, s4, s5, s6, s7⟩; go_simp; with_reducible rfl
          rotate_left
          ·simp only [Act.put, ps_]; rfl
          refine one_ (i := 15) (N := some 69) ba2f_18 rfl rfl (one_of HT_.out (by kernel_rfl)) (by decide) (fun K hK => ?_); refine goes_ Try.func45 (by kernel_rfl) rfl #[.agg #[.int .i64 ((rd_T72 l0 a1).f3.f0), .int .i64 ((rd_T72 l0 a1).f3.f1), .string ((rd_T72 l0 a1).f3.f2)]] (by rfl) rfl rfl mw_ ?_; with_reducible refine (spec_l2Zero.calls ((rd_T72 l0 a1).f3.f0) ((rd_T72 l0 a1).f3.f1) ((rd_T72 l0 a1).f3.f2) true _ A37.out).mono ?_
          rintro e w48 ⟨rfl, hb⟩; refine ⟨_, rfl, ?_⟩; replace HO162 := a_ (Kd.R_below (mo_ HO162.out) hb); replace HO165 := a_ (Kd.R_below (mo_ HO165.out) hb); replace BK156 := mk_ BK156 hb; replace HB := ms_ HB hb; (try clear hb); (try clear hb2); (try clear hk); (try clear hi); refine hK.out _ _ (bc8 BK156) fun hHeld => ?_
          clear hK K; refine nm_ 69 ?_; refine pu_ 16 70 ba2f_19 (any_of HT_.out (by kernel_rfl)) ?_; refine pu_ 17 71 ba2f_20 (any_of HT_.out (by kernel_rfl)) ?_; refine pu_ 18 72 ba2f_21 (any_of HT_.out (by kernel_rfl)) ?_; refine pu_ 19 73 ba2f_22 (any_of HT_.out (by kernel_rfl)) ?_; refine pu_ 21 75 ba2f_23 (any_of HT_.out (by kernel_rfl)) ?_; refine pu_ 22 76 ba2f_24 (any_of HT_.out (by kernel_rfl)) ?_; refine take_ (i := 20) (N := some 74) (v := ?_) (a' := ?_) ba2f_25 rfl rfl (take_ofW HT_.out HW_.out (by kernel_rfl)) (fun _ _ _ h => h) (Or.inl ⟨by rfl, ?_⟩) hHeld ?_ ?_; rotate_left
          ·rintro w' ⟨s0, s1, s2, s3, s4, s5, s6, s7⟩; go_simp; with_reducible rfl
          rotate_left
          ·simp only [Act.put, ps_]; rfl
          refine pu_ 23 77 ba2f_26 (any_of HT_.out (by kernel_rfl)) ?_; refine pu_ 24 78 ba2f_27 (any_of HT_.out (by kernel_rfl)) ?_; refine pu_ 25 79 ba2f_28 (any_of HT_.out (by kernel_rfl)) ?_; refine pu_ 26 80 ba2f_29 (any_of HT_.out (by kernel_rfl)) ?_; refine take_ (i := 27) (N := some 81) (v := ?_) (a' := ?_) ba2f_30 rfl rfl (take_ofW HT_.out HW_.out (by kernel_rfl)) (fun _ _ _ h => h) (Or.inl ⟨by rfl, ?_⟩) hHeld ?_ ?_; rotate_left
          ·rintro w' ⟨s0, s1, s2, s3, s4, s5, s6, s7⟩; go_simp; with_reducible rfl
          rotate_left
          ·simp only [Act.put, ps_]; rfl
          refine pu_ 28 82 ba2f_31 (any_of HT_.out (by kernel_rfl)) ?_; refine pu_ 29 83 ba2f_32 (any_of HT_.out (by kernel_rfl)) ?_; refine pu_ 30 84 ba2f_33 (any_of HT_.out (by kernel_rfl)) ?_; refine pv_ 31 85 ba2f_34 (any_of HT_.out (by kernel_rfl)) ?_; refine pv_ 32 86 ba2f_35 (any_of HT_.out (by kernel_rfl)) ?_; refine pv_ 33 87 ba2f_36 (any_of HT_.out (by kernel_rfl)) ?_; refine pu_ 34 88 ba2f_37 (any_of HT_.out (by kernel_rfl)) ?_; refine done_ (done_of HT_.out (by kernel_rfl)) ?_; try go_wp2
          go_meet
          case rel => exact ⟨_, (true), mq_, H', ⟨by have := HJ4.out; first | omega | exact Nat.le_refl _⟩, ⟨mc_ BK156⟩, ⟨mb_ HB⟩⟩
         ·rw [if_neg c40] at H; have c40b0 := decide_eq_false c40; clear c40; have H' := a_ H; clear H; try go_wp2
          replace BK156 := a_ (blk_drew BK156.out); replace HB := a_ (below_drew1 HB.out); refine start_ (n := 35) (S := fun w' => w'.cell? ⟨gb156, 0, none⟩ = some (.int .i64 ((rd_T72 l0 a1).f0)) ∧ w'.cell? ⟨gb156, 1, none⟩ = some (.int .u8 ((rd_T72 l0 a1).f1)) ∧ w'.cell? ⟨gb156, 2, none⟩ = some (.string ((rd_T72 l0 a1).f2)) ∧ w'.cell? ⟨gb156, 3, none⟩ = some (.int .i64 ((rd_T72 l0 a1).f3.f0)) ∧ w'.cell? ⟨gb156, 4, none⟩ = some (.int .i64 ((rd_T72 l0 a1).f3.f1)) ∧ w'.cell? ⟨gb156, 5, none⟩ = some (.string ((rd_T72 l0 a1).f3.f2)) ∧ w'.cell? ⟨gb156, 6, none⟩ = some (.int .i64 ((rd_T72 l0 a1).f4)) ∧ w'.cell? ⟨gb156, 7, none⟩ = some (.int .i64 ((rd_T72 l0 a1).f5))) (ds := []) ba2f_0 (by kernel_rfl) rfl rfl ⟨(blk_cell BK156.out 0).trans rfl, (blk_cell BK156.out 1).trans rfl, (blk_cell BK156.out 2).trans rfl, (blk_cell BK156.out 3).trans rfl, (blk_cell BK156.out 4).trans rfl, (blk_cell BK156.out 5).trans rfl, (blk_cell BK156.out 6).trans rfl, (blk_cell BK156.out 7).trans rfl⟩ (fun hHeld => ?_); refine with_tabW spec_l2GoodExpr.tab9 spec_l2GoodExpr.bits9 (fun HT_ HW_ => ?_); generalize wc.drew = w49 at BK156 HB hHeld ⊢; refine pu_ 0 54 ba2f_1 (any_of HT_.out (by kernel_rfl)) ?_; refine take_ (i := 1) (N := some 55) (v := ?_) (a' := ?_) ba2f_2 rfl rfl (take_ofW HT_.out HW_.out (by kernel_rfl)) (fun _ _ _ h => h) (Or.inl ⟨by rfl, ?_⟩) hHeld ?_ ?_; rotate_left
          ·rintro w' ⟨s0, s1, s2, s3, s4, s5, s6, s7⟩; go_simp; with_reducible rfl
          rotate_left
          ·simp only [Act.put, ps_]; rfl
          refine join_ (σ := Value × Value) 30 ba2f_3 (fun s_ => [(56, s_.1), (57, .string (strOfNums y160)), (58, s_.2)]) (fun s_ w' => (w'.cell? ⟨gb156, 0, none⟩ = some (.int .i64 ((rd_T72 l0 a1).f0)) ∧ w'.cell? ⟨gb156, 1, none⟩ = some (.int .u8 ((rd_T72 l0 a1).f1)) ∧ w'.cell? ⟨gb156, 2, none⟩ = some (.string ((rd_T72 l0 a1).f2)) ∧ w'.cell? ⟨gb156, 3, none⟩ = some (.int .i64 ((rd_T72 l0 a1).f3.f0)) ∧ w'.cell? ⟨gb156, 4, none⟩ = some (.int .i64 ((rd_T72 l0 a1).f3.f1)) ∧ w'.cell? ⟨gb156, 5, none⟩ = some (.string ((rd_T72 l0 a1).f3.f2)) ∧ w'.cell? ⟨gb156, 6, none⟩ = some (.int .i64 ((rd_T72 l0 a1).f4)) ∧ w'.cell? ⟨gb156, 7, none⟩ = some (.int .i64 ((rd_T72 l0 a1).f5))) ∧ (Kd.R (Kd.int .u8) 5 w' w.heap.size (fun _ => True) s_.1 y160) ∧ (Kd.R Kd.string 9 w' w.heap.size (fun _ => True) s_.2 t163) ∧ (w'.heap[gb156]? = some (.cells #[.int .i64 ((rd_T72 l0 a1).f0), .int .u8 ((rd_T72 l0 a1).f1), .string ((rd_T72 l0 a1).f2), .int .i64 ((rd_T72 l0 a1).f3.f0), .int .i64 ((rd_T72 l0 a1).f3.f1), .string ((rd_T72 l0 a1).f3.f2), .int .i64 ((rd_T72 l0 a1).f4), .int .i64 ((rd_T72 l0 a1).f5)] 72 (0, 0))) ∧ (Below w.heap.size w w')) ?_ ?_; rotate_left
          ·intro hCont; refine two_ (i := 2) (j := 4) (Ni := some 56) (Nj := some 58) ba2f_4 ba2f_5 rfl rfl rfl rfl (two_of HT_.out (by kernel_rfl)) (by decide) (by decide) (fun K hK => ?_) (fun K hK => ?_)
           ·skip; refine Kd.R_lit_step (Kd.int .u8) _ 5 ?hg (N := 56) ?hd (xs := ([((rd_T72 l0 a1).f1)] : List Int)) (inner := [.int .u8 ((rd_T72 l0 a1).f1)]) (ok := fun _ => True) (okp := fun _ => True) ?hr ?hp (fun _ hk => hk) trivial (Below.refl _ _) (Nat.le_refl _) (by simp) ?_; (case hd => rfl); (case hg => rfl); (case hr => first | (go_simp; done) | (go_simp; rfl)); (case hp => exact (Reps.one (show Kd.M (Kd.int .u8) _ _ _ ((rd_T72 l0 a1).f1) [.int .u8 ((rd_T72 l0 a1).f1)] from rfl) (Reps.none _ _))); intro v161 w50 ho51 hb hg_ hnew_; clear hg_ hnew_; (first | rw [← Ny160.out] at ho51 | (simp only [Int.reduceToNat] at ho51; rw [← Ny160.out] at ho51)); have HO162 := a_ (Kd.R_lower ho51 (below_size (mb_ HB))); replace BK156 := mk_ BK156 hb; replace HB := ms_ HB hb; clear hb ho51; refine hK.out _ _ (bc8 BK156) fun hHeld => ?_
            clear hK K; refine nm_ 56 ?_; refine two_ (i := 3) (j := 4) (Ni := some 57) (Nj := some 58) ba2f_6 ba2f_7 rfl rfl rfl rfl (two_of HT_.out (by kernel_rfl)) (by decide) (by decide) (fun K hK => ?_) (fun K hK => ?_)
            ·skip; have hcv52 := own_string (P := Try.prog) Try.underlying98 Try.underlying5 Try.underlying9 (Kd.own_of_R HO162.out); refine value_ (w1 := ?_) (v := ?_) (by rfl) rfl ?_ ?_; rotate_left 2
             ·go_simp; constructor
              ·rfl
              ·rfl
             clear hcv52; refine hK.out _ _ (bc8 BK156) fun hHeld => ?_
             clear hK K; refine nm_ 57 ?_; refine one_ (i := 4) (N := some 58) ba2f_3 rfl rfl (one_of HT_.out (by kernel_rfl)) (by decide) (fun K hK => ?_); refine goes_ Try.func46 (by kernel_rfl) rfl #[] (by rfl) rfl rfl mw_ ?_; with_reducible refine (spec_l2Ariths.calls  t163 _ A33.out).mono ?_
             rintro e w53 ⟨v164, rfl, ho0, hb⟩; refine ⟨_, rfl, ?_⟩; have HO165 := a_ (Kd.R_lower ho0 (below_size (mb_ HB))); replace HO162 := a_ (Kd.R_below (mo_ HO162.out) hb); replace BK156 := mk_ BK156 hb; replace HB := ms_ HB hb; (try clear hb); (try clear hb2); (try clear hk); (try clear hi); (try clear ho0); refine hK.out _ _ (bc8 BK156) fun hHeld => ?_
             clear hK K; refine nm_ 58 ?_; exact norm_ (by simp only [putAll, Act.put, ps_]) (hCont (v161, v164) _ ⟨hHeld, (mo_ HO162.out), (mo_ HO165.out), (mc_ BK156), (mb_ HB)⟩)
            ·skip; refine goes_ Try.func46 (by kernel_rfl) rfl #[] (by rfl) rfl rfl mw_ ?_; with_reducible refine (spec_l2Ariths.calls  t163 _ A33.out).mono ?_
             rintro e w52 ⟨v164, rfl, ho0, hb⟩; refine ⟨_, rfl, ?_⟩; have HO165 := a_ (Kd.R_lower ho0 (below_size (mb_ HB))); replace HO162 := a_ (Kd.R_below (mo_ HO162.out) hb); replace BK156 := mk_ BK156 hb; replace HB := ms_ HB hb; (try clear hb); (try clear hb2); (try clear hk); (try clear hi); (try clear ho0); refine hK.out _ _ (bc8 BK156) fun hHeld => ?_
             clear hK K; refine nm_ 58 ?_; refine one_ (i := 3) (N := some 57) ba2f_3 rfl rfl (one_of HT_.out (by kernel_rfl)) (by decide) (fun K hK => ?_); have hcv53 := own_string (P := Try.prog) Try.underlying98 Try.underlying5 Try.underlying9 (Kd.own_of_R HO162.out); refine value_ (w1 := ?_) (v := ?_) (by rfl) rfl ?_ ?_; rotate_left 2
             ·go_simp; constructor
              ·rfl
              ·rfl
             clear hcv53; refine hK.out _ _ (bc8 BK156) fun hHeld => ?_
             clear hK K; refine nm_ 57 ?_; exact norm_ (by simp only [putAll, Act.put, ps_]) (hCont (v161, v164) _ ⟨hHeld, (mo_ HO162.out), (mo_ HO165.out), (mc_ BK156), (mb_ HB)⟩)
           ·skip; refine goes_ Try.func46 (by kernel_rfl) rfl #[] (by rfl) rfl rfl mw_ ?_; with_reducible refine (spec_l2Ariths.calls  t163 _ A33.out).mono ?_
            rintro e w50 ⟨v164, rfl, ho0, hb⟩; refine ⟨_, rfl, ?_⟩; have HO165 := a_ (Kd.R_lower ho0 (below_size (mb_ HB))); replace BK156 := mk_ BK156 hb; replace HB := ms_ HB hb; (try clear hb); (try clear hb2); (try clear hk); (try clear hi); (try clear ho0); refine hK.out _ _ (bc8 BK156) fun hHeld => ?_
            clear hK K; refine nm_ 58 ?_; refine one_ (i := 2) (N := some 56) ba2f_7 rfl rfl (one_of HT_.out (by kernel_rfl)) (by decide) (fun K hK => ?_); refine Kd.R_lit_step (Kd.int .u8) _ 5 ?hg (N := 56) ?hd (xs := ([((rd_T72 l0 a1).f1)] : List Int)) (inner := [.int .u8 ((rd_T72 l0 a1).f1)]) (ok := fun _ => True) (okp := fun _ => True) ?hr ?hp (fun _ hk => hk) trivial (Below.refl _ _) (Nat.le_refl _) (by simp) ?_; (case hd => rfl); (case hg => rfl); (case hr => first | (go_simp; done) | (go_simp; rfl)); (case hp => exact (Reps.one (show Kd.M (Kd.int .u8) _ _ _ ((rd_T72 l0 a1).f1) [.int .u8 ((rd_T72 l0 a1).f1)] from rfl) (Reps.none _ _))); intro v161 w51 ho52 hb hg_ hnew_; clear hg_ hnew_; (first | rw [← Ny160.out] at ho52 | (simp only [Int.reduceToNat] at ho52; rw [← Ny160.out] at ho52)); have HO162 := a_ (Kd.R_lower ho52 (below_size (mb_ HB))); replace HO165 := a_ (Kd.R_below (mo_ HO165.out) hb); replace BK156 := mk_ BK156 hb; replace HB := ms_ HB hb; clear hb ho52; refine hK.out _ _ (bc8 BK156) fun hHeld => ?_
            clear hK K; refine nm_ 56 ?_; refine one_ (i := 3) (N := some 57) ba2f_3 rfl rfl (one_of HT_.out (by kernel_rfl)) (by decide) (fun K hK => ?_); have hcv53 := own_string (P := Try.prog) Try.underlying98 Try.underlying5 Try.underlying9 (Kd.own_of_R HO162.out); refine value_ (w1 := ?_) (v := ?_) (by rfl) rfl ?_ ?_; rotate_left 2
            ·go_simp; constructor
             ·rfl
             ·rfl
            clear hcv53; refine hK.out _ _ (bc8 BK156) fun hHeld => ?_
            clear hK K; refine nm_ 57 ?_; exact norm_ (by simp only [putAll, Act.put, ps_]) (hCont (v161, v164) _ ⟨hHeld, (mo_ HO162.out), (mo_ HO165.out), (mc_ BK156), (mb_ HB)⟩)
          rintro ⟨v161, v164⟩ w54 ⟨hS_, h0_, h1_, h2_, h3_⟩; have n0_ : Aside0 (Kd.R (Kd.int .u8) 5 w54 w.heap.size (fun _ => True) v161 y160) := ⟨h0_⟩
          have n1_ : Aside0 (Kd.R Kd.string 9 w54 w.heap.size (fun _ => True) v164 t163) := ⟨h1_⟩
          have n2_ : Aside0 (w54.heap[gb156]? = some (.cells #[.int .i64 ((rd_T72 l0 a1).f0), .int .u8 ((rd_T72 l0 a1).f1), .string ((rd_T72 l0 a1).f2), .int .i64 ((rd_T72 l0 a1).f3.f0), .int .i64 ((rd_T72 l0 a1).f3.f1), .string ((rd_T72 l0 a1).f3.f2), .int .i64 ((rd_T72 l0 a1).f4), .int .i64 ((rd_T72 l0 a1).f5)] 72 (0, 0))) := ⟨h2_⟩
          have n3_ : Aside0 (Below w.heap.size w w54) := ⟨h3_⟩
          clear BK156; clear HB; clear h0_ h1_ h2_ h3_; have HO162 := n0_; have HO165 := n1_; have BK156 := n2_; have HB := n3_; clear n0_ n1_ n2_ n3_; have hHeld : w54.cell? ⟨gb156, 0, none⟩ = some (.int .i64 ((rd_T72 l0 a1).f0)) ∧ w54.cell? ⟨gb156, 1, none⟩ = some (.int .u8 ((rd_T72 l0 a1).f1)) ∧ w54.cell? ⟨gb156, 2, none⟩ = some (.string ((rd_T72 l0 a1).f2)) ∧ w54.cell? ⟨gb156, 3, none⟩ = some (.int .i64 ((rd_T72 l0 a1).f3.f0)) ∧ w54.cell? ⟨gb156, 4, none⟩ = some (.int .i64 ((rd_T72 l0 a1).f3.f1)) ∧ w54.cell? ⟨gb156, 5, none⟩ = some (.string ((rd_T72 l0 a1).f3.f2)) ∧ w54.cell? ⟨gb156, 6, none⟩ = some (.int .i64 ((rd_T72 l0 a1).f4)) ∧ w54.cell? ⟨gb156, 7, none⟩ = some (.int .i64 ((rd_T72 l0 a1).f5)) := hS_
          obtain ⟨Ao55, co55, eo55⟩ := Kd.R_slice HO165.out; (first | subst eo55 | (injection eo55 with f1_ f2_ f3_; have f4_ := f1_.symm; have f5_ := f3_.symm; clear f1_ f2_ f3_; subst f4_; subst f5_)); refine norm_ (a' := ?_) ?_ ?_; rotate_left
          ·simp only [putAll, Act.put, ps_]; rfl
          refine one_ (i := 5) (N := some 59) ba2f_8 rfl rfl (one_of HT_.out (by kernel_rfl)) (by decide) (fun K hK => ?_); refine goes_ Try.func27 (by kernel_rfl) rfl #[.string (strOfNums y160), .slice Ao55 t163.length co55] (by rfl) rfl rfl mw_ ?_; with_reducible refine (spec_l2Is.calls kj4 (strOfNums y160) _ _ t163 true _ ?side1 ?side2 A34.out).mono ?_
          (case side1 => repeat (first | exact (Kd.R_reads' HO165.out).2.2 | (with_reducible refine Kd.C_alloc ?_ _) | (with_reducible refine Kd.C_drewN ?_ _) | (with_reducible refine Kd.C_drew ?_)))
          (case side2 => exact (Kd.R_reads' HO165.out).2.1)
          rintro e w' ⟨rfl, ⟨nd, rfl⟩⟩; refine ⟨_, rfl, ?_⟩; refine hK.out _ _ (bc8 BK156) fun hHeld => ?_
          clear hK K; refine nm_ 59 ?_; refine pu_ 6 60 ba2f_9 (any_of HT_.out (by kernel_rfl)) ?_; refine pu_ 7 61 ba2f_10 (any_of HT_.out (by kernel_rfl)) ?_; refine pu_ 8 62 ba2f_11 (any_of HT_.out (by kernel_rfl)) ?_; refine take_ (i := 9) (N := some 63) (v := ?_) (a' := ?_) ba2f_12 rfl rfl (take_ofW HT_.out HW_.out (by kernel_rfl)) (fun _ _ _ h => h) (Or.inl ⟨by rfl, ?_⟩) hHeld ?_ ?_; rotate_left
          ·rintro w' ⟨s0, s1, s2, s3, s4, s5, s6, s7⟩; go_simp; with_reducible rfl
          rotate_left
          ·simp only [Act.put, ps_]; rfl
          refine pu_ 10 64 ba2f_13 (any_of HT_.out (by kernel_rfl)) ?_; refine pu_ 11 65 ba2f_14 (any_of HT_.out (by kernel_rfl)) ?_; refine pu_ 12 66 ba2f_15 (any_of HT_.out (by kernel_rfl)) ?_; refine pu_ 13 67 ba2f_16 (any_of HT_.out (by kernel_rfl)) ?_; refine take_ (i := 14) (N := some 68) (v := ?_) (a' := ?_) ba2f_17 rfl rfl (take_ofW HT_.out HW_.out (by kernel_rfl)) (fun _ _ _ h => h) (Or.inl ⟨by rfl, ?_⟩) hHeld ?_ ?_; rotate_left
          ·rintro w' ⟨s0, s1, s2, s3, s4, s5, s6, s7⟩; go_simp; with_reducible rfl
          rotate_left
          ·simp only [Act.put, ps_]; rfl
          refine one_ (i := 15) (N := some 69) ba2f_18 rfl rfl (one_of HT_.out (by kernel_rfl)) (by decide) (fun K hK => ?_); refine goes_ Try.func45 (by kernel_rfl) rfl #[.agg #[.int .i64 ((rd_T72 l0 a1).f3.f0), .int .i64 ((rd_T72 l0 a1).f3.f1), .string ((rd_T72 l0 a1).f3.f2)]] (by rfl) rfl rfl mw_ ?_; with_reducible refine (spec_l2Zero.calls ((rd_T72 l0 a1).f3.f0) ((rd_T72 l0 a1).f3.f1) ((rd_T72 l0 a1).f3.f2) true _ A37.out).mono ?_
          rintro e w56 ⟨rfl, hb⟩; refine ⟨_, rfl, ?_⟩; replace HO162 := a_ (Kd.R_below (mo_ HO162.out) hb); replace HO165 := a_ (Kd.R_below (mo_ HO165.out) hb); replace BK156 := mk_ BK156 hb; replace HB := ms_ HB hb; (try clear hb); (try clear hb2); (try clear hk); (try clear hi); refine hK.out _ _ (bc8 BK156) fun hHeld => ?_
          clear hK K; refine nm_ 69 ?_; refine pu_ 16 70 ba2f_19 (any_of HT_.out (by kernel_rfl)) ?_; refine pu_ 17 71 ba2f_20 (any_of HT_.out (by kernel_rfl)) ?_; refine pu_ 18 72 ba2f_21 (any_of HT_.out (by kernel_rfl)) ?_; refine pu_ 19 73 ba2f_22 (any_of HT_.out (by kernel_rfl)) ?_; refine pu_ 21 75 ba2f_23 (any_of HT_.out (by kernel_rfl)) ?_; refine pu_ 22 76 ba2f_24 (any_of HT_.out (by kernel_rfl)) ?_; refine take_ (i := 20) (N := some 74) (v := ?_) (a' := ?_) ba2f_25 rfl rfl (take_ofW HT_.out HW_.out (by kernel_rfl)) (fun _ _ _ h => h) (Or.inl ⟨by rfl, ?_⟩) hHeld ?_ ?_; rotate_left
          ·rintro w' ⟨s0, s1, s2, s3, s4, s5, s6, s7⟩; go_simp; with_reducible rfl
          rotate_left
          ·simp only [Act.put, ps_]; rfl
          refine pu_ 23 77 ba2f_26 (any_of HT_.out (by kernel_rfl)) ?_; refine pu_ 24 78 ba2f_27 (any_of HT_.out (by kernel_rfl)) ?_; refine pu_ 25 79 ba2f_28 (any_of HT_.out (by kernel_rfl)) ?_; refine pu_ 26 80 ba2f_29 (any_of HT_.out (by kernel_rfl)) ?_; refine take_ (i := 27) (N := some 81) (v := ?_) (a' := ?_) ba2f_30 rfl rfl (take_ofW HT_.out HW_.out (by kernel_rfl)) (fun _ _ _ h => h) (Or.inl ⟨by rfl, ?_⟩) hHeld ?_ ?_; rotate_left
          ·rintro w' ⟨s0, s1, s2, s3, s4, s5, s6, s7⟩; go_simp; with_reducible rfl
          rotate_left
          ·simp only [Act.put, ps_]; rfl
          refine pu_ 28 82 ba2f_31 (any_of HT_.out (by kernel_rfl)) ?_; refine pu_ 29 83 ba2f_32 (any_of HT_.out (by kernel_rfl)) ?_; refine pu_ 30 84 ba2f_33 (any_of HT_.out (by kernel_rfl)) ?_; refine pu_ 31 85 ba2f_34 (any_of HT_.out (by kernel_rfl)) ?_; refine take_ (i := 32) (N := some 86) (v := ?_) (a' := ?_) ba2f_35 rfl rfl (take_ofW HT_.out HW_.out (by kernel_rfl)) (fun _ _ _ h => h) (Or.inl ⟨by rfl, ?_⟩) hHeld ?_ ?_; rotate_left
          ·rintro w' ⟨s0, s1, s2, s3, s4, s5, s6, s7⟩; go_simp; with_reducible rfl
          rotate_left
          ·simp only [Act.put, ps_]; rfl
          refine pu_ 33 87 ba2f_36 (any_of HT_.out (by kernel_rfl)) ?_; refine pu_ 34 88 ba2f_37 (any_of HT_.out (by kernel_rfl)) ?_; refine done_ (done_of HT_.out (by kernel_rfl)) ?_; try go_wp2
          go_meet
          case rel => exact ⟨_, (decide (((rd_T72 l0 a1).f4) < 0)), mq_, H', ⟨by have := HJ4.out; first | omega | exact Nat.le_refl _⟩, ⟨mc_ BK156⟩, ⟨mb_ HB⟩⟩
        ·rw [if_neg c39] at H; have c39b0 := beq_eq_false_iff_ne.mpr c39; have c39b1 := bne_iff_ne.mpr c39; have H' := a_ H; clear H; try go_wp2
         replace BK156 := a_ (blk_drew BK156.out); replace HB := a_ (below_drew1 HB.out); refine start_ (n := 35) (S := fun w' => w'.cell? ⟨gb156, 0, none⟩ = some (.int .i64 ((rd_T72 l0 a1).f0)) ∧ w'.cell? ⟨gb156, 1, none⟩ = some (.int .u8 ((rd_T72 l0 a1).f1)) ∧ w'.cell? ⟨gb156, 2, none⟩ = some (.string ((rd_T72 l0 a1).f2)) ∧ w'.cell? ⟨gb156, 3, none⟩ = some (.int .i64 ((rd_T72 l0 a1).f3.f0)) ∧ w'.cell? ⟨gb156, 4, none⟩ = some (.int .i64 ((rd_T72 l0 a1).f3.f1)) ∧ w'.cell? ⟨gb156, 5, none⟩ = some (.string ((rd_T72 l0 a1).f3.f2)) ∧ w'.cell? ⟨gb156, 6, none⟩ = some (.int .i64 ((rd_T72 l0 a1).f4)) ∧ w'.cell? ⟨gb156, 7, none⟩ = some (.int .i64 ((rd_T72 l0 a1).f5))) (ds := []) ba2f_0 (by kernel_rfl) rfl rfl ⟨(blk_cell BK156.out 0).trans rfl, (blk_cell BK156.out 1).trans rfl, (blk_cell BK156.out 2).trans rfl, (blk_cell BK156.out 3).trans rfl, (blk_cell BK156.out 4).trans rfl, (blk_cell BK156.out 5).trans rfl, (blk_cell BK156.out 6).trans rfl, (blk_cell BK156.out 7).trans rfl⟩ (fun hHeld => ?_); refine with_tabW spec_l2GoodExpr.tab9 spec_l2GoodExpr.bits9 (fun HT_ HW_ => ?_); generalize wc.drew = w57 at BK156 HB hHeld ⊢; refine pu_ 0 54 ba2f_1 (any_of HT_.out (by kernel_rfl)) ?_; refine take_ (i := 1) (N := some 55) (v := ?_) (a' := ?_) ba2f_2 rfl rfl (take_ofW HT_.out HW_.out (by kernel_rfl)) (fun _ _ _ h => h) (Or.inl ⟨by rfl, ?_⟩) hHeld ?_ ?_; rotate_left
         ·rintro w' ⟨s0, s1, s2, s3, s4, s5, s6, s7⟩; go_simp; with_reducible rfl
         rotate_left
         ·simp only [Act.put, ps_]; rfl
         refine join_ (σ := Value × Value) 30 ba2f_3 (fun s_ => [(56, s_.1), (57, .string (strOfNums y160)), (58, s_.2)]) (fun s_ w' => (w'.cell? ⟨gb156, 0, none⟩ = some (.int .i64 ((rd_T72 l0 a1).f0)) ∧ w'.cell? ⟨gb156, 1, none⟩ = some (.int .u8 ((rd_T72 l0 a1).f1)) ∧ w'.cell? ⟨gb156, 2, none⟩ = some (.string ((rd_T72 l0 a1).f2)) ∧ w'.cell? ⟨gb156, 3, none⟩ = some (.int .i64 ((rd_T72 l0 a1).f3.f0)) ∧ w'.cell? ⟨gb156, 4, none⟩ = some (.int .i64 ((rd_T72 l0 a1).f3.f1)) ∧ w'.cell? ⟨gb156, 5, none⟩ = some (.string ((rd_T72 l0 a1).f3.f2)) ∧ w'.cell? ⟨gb156, 6, none⟩ = some (.int .i64 ((rd_T72 l0 a1).f4)) ∧ w'.cell? ⟨gb156, 7, none⟩ = some (.int .i64 ((rd_T72 l0 a1).f5))) ∧ (Kd.R (Kd.int .u8) 5 w' w.heap.size (fun _ => True) s_.1 y160) ∧ (Kd.R Kd.string 9 w' w.heap.size (fun _ => True) s_.2 t163) ∧ (w'.heap[gb156]? = some (.cells #[.int .i64 ((rd_T72 l0 a1).f0), .int .u8 ((rd_T72 l0 a1).f1), .string ((rd_T72 l0 a1).f2), .int .i64 ((rd_T72 l0 a1).f3.f0), .int .i64 ((rd_T72 l0 a1).f3.f1), .string ((rd_T72 l0 a1).f3.f2), .int .i64 ((rd_T72 l0 a1).f4), .int .i64 ((rd_T72 l0 a1).f5)] 72 (0, 0))) ∧ (Below w.heap.size w w')) ?_ ?_; rotate_left
         ·intro hCont; refine two_ (i := 2) (j := 4) (Ni := some 56) (Nj := some 58) ba2f_4 ba2f_5 rfl rfl rfl rfl (two_of HT_.out (by kernel_rfl)) (by decide) (by decide) (fun K hK => ?_) (fun K hK => ?_)
          ·skip; refine Kd.R_lit_step (Kd.int .u8) _ 5 ?hg (N := 56) ?hd (xs := ([((rd_T72 l0 a1).f1)] : List Int)) (inner := [.int .u8 ((rd_T72 l0 a1).f1)]) (ok := fun _ => True) (okp := fun _ => True) ?hr ?hp (fun _ hk => hk) trivial (Below.refl _ _) (Nat.le_refl _) (by simp) ?_; (case hd => rfl); (case hg => rfl); (case hr => first | (go_simp; done) | (go_simp; rfl)); (case hp => exact (Reps.one (show Kd.M (Kd.int .u8) _ _ _ ((rd_T72 l0 a1).f1) [.int .u8 ((rd_T72 l0 a1).f1)] from rfl) (Reps.none _ _))); intro v161 w58 ho59 hb hg_ hnew_; clear hg_ hnew_; (first | rw [← Ny160.out] at ho59 | (simp only [Int.reduceToNat] at ho59; rw [← Ny160.out] at ho59)); have HO162 := a_ (Kd.R_lower ho59 (below_size (mb_ HB))); replace BK156 := mk_ BK156 hb; replace HB := ms_ HB hb; clear hb ho59; refine hK.out _ _ (bc8 BK156) fun hHeld => ?_
           clear hK K; refine nm_ 56 ?_; refine two_ (i := 3) (j := 4) (Ni := some 57) (Nj := some 58) ba2f_6 ba2f_7 rfl rfl rfl rfl (two_of HT_.out (by kernel_rfl)) (by decide) (by decide) (fun K hK => ?_) (fun K hK => ?_)
           ·skip; have hcv60 := own_string (P := Try.prog) Try.underlying98 Try.underlying5 Try.underlying9 (Kd.own_of_R HO162.out); refine value_ (w1 := ?_) (v := ?_) (by rfl) rfl ?_ ?_; rotate_left 2
            ·go_simp; constructor
             ·rfl
             ·rfl
            clear hcv60; refine hK.out _ _ (bc8 BK156) fun hHeld => ?_
            clear hK K; refine nm_ 57 ?_; refine one_ (i := 4) (N := some 58) ba2f_3 rfl rfl (one_of HT_.out (by kernel_rfl)) (by decide) (fun K hK => ?_); refine goes_ Try.func46 (by kernel_rfl) rfl #[] (by rfl) rfl rfl mw_ ?_; with_reducible refine (spec_l2Ariths.calls  t163 _ A33.out).mono ?_
            rintro e w61 ⟨v164, rfl, ho0, hb⟩; refine ⟨_, rfl, ?_⟩; have HO165 := a_ (Kd.R_lower ho0 (below_size (mb_ HB))); replace HO162 := a_ (Kd.R_below (mo_ HO162.out) hb); replace BK156 := mk_ BK156 hb; replace HB := ms_ HB hb; (try clear hb); (try clear hb2); (try clear hk); (try clear hi); (try clear ho0); refine hK.out _ _ (bc8 BK156) fun hHeld => ?_
            clear hK K; refine nm_ 58 ?_; exact norm_ (by simp only [putAll, Act.put, ps_]) (hCont (v161, v164) _ ⟨hHeld, (mo_ HO162.out), (mo_ HO165.out), (mc_ BK156), (mb_ HB)⟩)
           ·skip; refine goes_ Try.func46 (by kernel_rfl) rfl #[] (by rfl) rfl rfl mw_ ?_; with_reducible refine (spec_l2Ariths.calls  t163 _ A33.out).mono ?_
            rintro e w60 ⟨v164, rfl, ho0, hb⟩; refine ⟨_, rfl, ?_⟩; have HO165 := a_ (Kd.R_lower ho0 (below_size (mb_ HB))); replace HO162 := a_ (Kd.R_below (mo_ HO162.out) hb); replace BK156 := mk_ BK156 hb; replace HB := ms_ HB hb; (try clear hb); (try clear hb2); (try clear hk); (try clear hi); (try clear ho0); refine hK.out _ _ (bc8 BK156) fun hHeld => ?_
            clear hK K; refine nm_ 58 ?_; refine one_ (i := 3) (N := some 57) ba2f_3 rfl rfl (one_of HT_.out (by kernel_rfl)) (by decide) (fun K hK => ?_); have hcv61 := own_string (P := Try.prog) Try.underlying98 Try.underlying5 Try.underlying9 (Kd.own_of_R HO162.out); refine value_ (w1 := ?_) (v := ?_) (by rfl) rfl ?_ ?_; rotate_left 2
            ·go_simp; constructor
             ·rfl
             ·rfl
            clear hcv61; refine hK.out _ _ (bc8 BK156) fun hHeld => ?_
            clear hK K; refine nm_ 57 ?_; exact norm_ (by simp only [putAll, Act.put, ps_]) (hCont (v161, v164) _ ⟨hHeld, (mo_ HO162.out), (mo_ HO165.out), (mc_ BK156), (mb_ HB)⟩)
          ·skip; refine goes_ Try.func46 (by kernel_rfl) rfl #[] (by rfl) rfl rfl mw_ ?_; with_reducible refine (spec_l2Ariths.calls  t163 _ A33.out).mono ?_
           rintro e w58 ⟨v164, rfl, ho0, hb⟩; refine ⟨_, rfl, ?_⟩; have HO165 := a_ (Kd.R_lower ho0 (below_size (mb_ HB))); replace BK156 := mk_ BK156 hb; replace HB := ms_ HB hb; (try clear hb); (try clear hb2); (try clear hk); (try clear hi); (try clear ho0); refine hK.out _ _ (bc8 BK156) fun hHeld => ?_
           clear hK K; refine nm_ 58 ?_; refine one_ (i := 2) (N := some 56) ba2f_7 rfl rfl (one_of HT_.out (by kernel_rfl)) (by decide) (fun K hK => ?_); refine Kd.R_lit_step (Kd.int .u8) _ 5 ?hg (N := 56) ?hd (xs := ([((rd_T72 l0 a1).f1)] : List Int)) (inner := [.int .u8 ((rd_T72 l0 a1).f1)]) (ok := fun _ => True) (okp := fun _ => True) ?hr ?hp (fun _ hk => hk) trivial (Below.refl _ _) (Nat.le_refl _) (by simp) ?_; (case hd => rfl); (case hg => rfl); (case hr => first | (go_simp; done) | (go_simp; rfl)); (case hp => exact (Reps.one (show Kd.M (Kd.int .u8) _ _ _ ((rd_T72 l0 a1).f1) [.int .u8 ((rd_T72 l0 a1).f1)] from rfl) (Reps.none _ _))); intro v161 w59 ho60 hb hg_ hnew_; clear hg_ hnew_; (first | rw [← Ny160.out] at ho60 | (simp only [Int.reduceToNat] at ho60; rw [← Ny160.out] at ho60)); have HO162 := a_ (Kd.R_lower ho60 (below_size (mb_ HB))); replace HO165 := a_ (Kd.R_below (mo_ HO165.out) hb); replace BK156 := mk_ BK156 hb; replace HB := ms_ HB hb; clear hb ho60; refine hK.out _ _ (bc8 BK156) fun hHeld => ?_
           clear hK K; refine nm_ 56 ?_; refine one_ (i := 3) (N := some 57) ba2f_3 rfl rfl (one_of HT_.out (by kernel_rfl)) (by decide) (fun K hK => ?_); have hcv61 := own_string (P := Try.prog) Try.underlying98 Try.underlying5 Try.underlying9 (Kd.own_of_R HO162.out); refine value_ (w1 := ?_) (v := ?_) (by rfl) rfl ?_ ?_; rotate_left 2
           ·go_simp; constructor
            ·rfl
            ·rfl
           clear hcv61; refine hK.out _ _ (bc8 BK156) fun hHeld => ?_
           clear hK K; refine nm_ 57 ?_; exact norm_ (by simp only [putAll, Act.put, ps_]) (hCont (v161, v164) _ ⟨hHeld, (mo_ HO162.out), (mo_ HO165.out), (mc_ BK156), (mb_ HB)⟩)
         rintro ⟨v161, v164⟩ w62 ⟨hS_, h0_, h1_, h2_, h3_⟩; have n0_ : Aside0 (Kd.R (Kd.int .u8) 5 w62 w.heap.size (fun _ => True) v161 y160) := ⟨h0_⟩
         have n1_ : Aside0 (Kd.R Kd.string 9 w62 w.heap.size (fun _ => True) v164 t163) := ⟨h1_⟩
         have n2_ : Aside0 (w62.heap[gb156]? = some (.cells #[.int .i64 ((rd_T72 l0 a1).f0), .int .u8 ((rd_T72 l0 a1).f1), .string ((rd_T72 l0 a1).f2), .int .i64 ((rd_T72 l0 a1).f3.f0), .int .i64 ((rd_T72 l0 a1).f3.f1), .string ((rd_T72 l0 a1).f3.f2), .int .i64 ((rd_T72 l0 a1).f4), .int .i64 ((rd_T72 l0 a1).f5)] 72 (0, 0))) := ⟨h2_⟩
         have n3_ : Aside0 (Below w.heap.size w w62) := ⟨h3_⟩
         clear BK156; clear HB; clear h0_ h1_ h2_ h3_; have HO162 := n0_; have HO165 := n1_; have BK156 := n2_; have HB := n3_; clear n0_ n1_ n2_ n3_; have hHeld : w62.cell? ⟨gb156, 0, none⟩ = some (.int .i64 ((rd_T72 l0 a1).f0)) ∧ w62.cell? ⟨gb156, 1, none⟩ = some (.int .u8 ((rd_T72 l0 a1).f1)) ∧ w62.cell? ⟨gb156, 2, none⟩ = some (.string ((rd_T72 l0 a1).f2)) ∧ w62.cell? ⟨gb156, 3, none⟩ = some (.int .i64 ((rd_T72 l0 a1).f3.f0)) ∧ w62.cell? ⟨gb156, 4, none⟩ = some (.int .i64 ((rd_T72 l0 a1).f3.f1)) ∧ w62.cell? ⟨gb156, 5, none⟩ = some (.string ((rd_T72 l0 a1).f3.f2)) ∧ w62.cell? ⟨gb156, 6, none⟩ = some (.int .i64 ((rd_T72 l0 a1).f4)) ∧ w62.cell? ⟨gb156, 7, none⟩ = some (.int .i64 ((rd_T72 l0 a1).f5)) := hS_
         obtain ⟨Ao63, co63, eo63⟩ := Kd.R_slice HO165.out; (first | subst eo63 | (injection eo63 with f1_ f2_ f3_; have f4_ := f1_.symm; have f5_ := f3_.symm; clear f1_ f2_ f3_; subst f4_; subst f5_)); refine norm_ (a' := ?_) ?_ ?_; rotate_left
         ·simp only [putAll, Act.put, ps_]; rfl
         refine one_ (i := 5) (N := some 59) ba2f_8 rfl rfl (one_of HT_.out (by kernel_rfl)) (by decide) (fun K hK => ?_); refine goes_ Try.func27 (by kernel_rfl) rfl #[.string (strOfNums y160), .slice Ao63 t163.length co63] (by rfl) rfl rfl mw_ ?_; with_reducible refine (spec_l2Is.calls kj4 (strOfNums y160) _ _ t163 true _ ?side1 ?side2 A34.out).mono ?_
         (case side1 => repeat (first | exact (Kd.R_reads' HO165.out).2.2 | (with_reducible refine Kd.C_alloc ?_ _) | (with_reducible refine Kd.C_drewN ?_ _) | (with_reducible refine Kd.C_drew ?_)))
         (case side2 => exact (Kd.R_reads' HO165.out).2.1)
         rintro e w' ⟨rfl, ⟨nd, rfl⟩⟩; refine ⟨_, rfl, ?_⟩; refine hK.out _ _ (bc8 BK156) fun hHeld => ?_
         clear hK K; refine nm_ 59 ?_; refine pu_ 6 60 ba2f_9 (any_of HT_.out (by kernel_rfl)) ?_; refine pu_ 7 61 ba2f_10 (any_of HT_.out (by kernel_rfl)) ?_; refine pu_ 8 62 ba2f_11 (any_of HT_.out (by kernel_rfl)) ?_; refine take_ (i := 9) (N := some 63) (v := ?_) (a' := ?_) ba2f_12 rfl rfl (take_ofW HT_.out HW_.out (by kernel_rfl)) (fun _ _ _ h => h) (Or.inl ⟨by rfl, ?_⟩) hHeld ?_ ?_; rotate_left
         ·rintro w' ⟨s0, s1, s2, s3, s4, s5, s6, s7⟩; go_simp; with_reducible rfl
         rotate_left
         ·simp only [Act.put, ps_]; rfl
         refine pu_ 10 64 ba2f_13 (any_of HT_.out (by kernel_rfl)) ?_; refine pu_ 11 65 ba2f_14 (any_of HT_.out (by kernel_rfl)) ?_; refine pu_ 12 66 ba2f_15 (any_of HT_.out (by kernel_rfl)) ?_; refine pu_ 13 67 ba2f_16 (any_of HT_.out (by kernel_rfl)) ?_; refine take_ (i := 14) (N := some 68) (v := ?_) (a' := ?_) ba2f_17 rfl rfl (take_ofW HT_.out HW_.out (by kernel_rfl)) (fun _ _ _ h => h) (Or.inl ⟨by rfl, ?_⟩) hHeld ?_ ?_; rotate_left
         ·rintro w' ⟨s0, s1, s2, s3, s4, s5, s6, s7⟩; go_simp; with_reducible rfl
         rotate_left
         ·simp only [Act.put, ps_]; rfl
         refine one_ (i := 15) (N := some 69) ba2f_18 rfl rfl (one_of HT_.out (by kernel_rfl)) (by decide) (fun K hK => ?_); refine goes_ Try.func45 (by kernel_rfl) rfl #[.agg #[.int .i64 ((rd_T72 l0 a1).f3.f0), .int .i64 ((rd_T72 l0 a1).f3.f1), .string ((rd_T72 l0 a1).f3.f2)]] (by rfl) rfl rfl mw_ ?_; with_reducible refine (spec_l2Zero.calls ((rd_T72 l0 a1).f3.f0) ((rd_T72 l0 a1).f3.f1) ((rd_T72 l0 a1).f3.f2) true _ A37.out).mono ?_
         rintro e w64 ⟨rfl, hb⟩; refine ⟨_, rfl, ?_⟩; replace HO162 := a_ (Kd.R_below (mo_ HO162.out) hb); replace HO165 := a_ (Kd.R_below (mo_ HO165.out) hb); replace BK156 := mk_ BK156 hb; replace HB := ms_ HB hb; (try clear hb); (try clear hb2); (try clear hk); (try clear hi); refine hK.out _ _ (bc8 BK156) fun hHeld => ?_
         clear hK K; refine nm_ 69 ?_; refine pu_ 16 70 ba2f_19 (any_of HT_.out (by kernel_rfl)) ?_; refine pu_ 17 71 ba2f_20 (any_of HT_.out (by kernel_rfl)) ?_; refine pu_ 18 72 ba2f_21 (any_of HT_.out (by kernel_rfl)) ?_; refine pu_ 19 73 ba2f_22 (any_of HT_.out (by kernel_rfl)) ?_; refine pu_ 21 75 ba2f_23 (any_of HT_.out (by kernel_rfl)) ?_; refine pu_ 22 76 ba2f_24 (any_of HT_.out (by kernel_rfl)) ?_; refine take_ (i := 20) (N := some 74) (v := ?_) (a' := ?_) ba2f_25 rfl rfl (take_ofW HT_.out HW_.out (by kernel_rfl)) (fun _ _ _ h => h) (Or.inl ⟨by rfl, ?_⟩) hHeld ?_ ?_; rotate_left
         ·rintro w' ⟨s0, s1, s2, s3, s4, s5, s6, s7⟩; go_simp; with_reducible rfl
         rotate_left
         ·simp only [Act.put, ps_]; rfl
         refine pu_ 23 77 ba2f_26 (any_of HT_.out (by kernel_rfl)) ?_; refine pu_ 24 78 ba2f_27 (any_of HT_.out (by kernel_rfl)) ?_; refine pu_ 25 79 ba2f_28 (any_of HT_.out (by kernel_rfl)) ?_; refine pv_ 26 80 ba2f_29 (any_of HT_.out (by kernel_rfl)) ?_; refine pv_ 27 81 ba2f_30 (any_of HT_.out (by kernel_rfl)) ?_; refine pv_ 28 82 ba2f_31 (any_of HT_.out (by kernel_rfl)) ?_; refine pu_ 29 83 ba2f_32 (any_of HT_.out (by kernel_rfl)) ?_; refine pu_ 30 84 ba2f_33 (any_of HT_.out (by kernel_rfl)) ?_; refine pv_ 31 85 ba2f_34 (any_of HT_.out (by kernel_rfl)) ?_; refine pv_ 32 86 ba2f_35 (any_of HT_.out (by kernel_rfl)) ?_; refine pv_ 33 87 ba2f_36 (any_of HT_.out (by kernel_rfl)) ?_; refine pu_ 34 88 ba2f_37 (any_of HT_.out (by kernel_rfl)) ?_
         refine done_ (done_of HT_.out (by kernel_rfl)) ?_; try go_wp2
         go_meet
         case rel => exact ⟨_, (true), mq_, H', ⟨by have := HJ4.out; first | omega | exact Nat.le_refl _⟩, ⟨mc_ BK156⟩, ⟨mb_ HB⟩⟩
       ·replace c38 := Bool.eq_false_iff.mpr c38; subst c38; rw [if_neg (show ¬ (false = true) by decide)] at H; have H' := a_ H; clear H; try go_wp2
        replace BK156 := a_ (blk_drew BK156.out); replace HB := a_ (below_drew1 HB.out); refine start_ (n := 35) (S := fun w' => w'.cell? ⟨gb156, 0, none⟩ = some (.int .i64 ((rd_T72 l0 a1).f0)) ∧ w'.cell? ⟨gb156, 1, none⟩ = some (.int .u8 ((rd_T72 l0 a1).f1)) ∧ w'.cell? ⟨gb156, 2, none⟩ = some (.string ((rd_T72 l0 a1).f2)) ∧ w'.cell? ⟨gb156, 3, none⟩ = some (.int .i64 ((rd_T72 l0 a1).f3.f0)) ∧ w'.cell? ⟨gb156, 4, none⟩ = some (.int .i64 ((rd_T72 l0 a1).f3.f1)) ∧ w'.cell? ⟨gb156, 5, none⟩ = some (.string ((rd_T72 l0 a1).f3.f2)) ∧ w'.cell? ⟨gb156, 6, none⟩ = some (.int .i64 ((rd_T72 l0 a1).f4)) ∧ w'.cell? ⟨gb156, 7, none⟩ = some (.int .i64 ((rd_T72 l0 a1).f5))) (ds := []) ba2f_0 (by kernel_rfl) rfl rfl ⟨(blk_cell BK156.out 0).trans rfl, (blk_cell BK156.out 1).trans rfl, (blk_cell BK156.out 2).trans rfl, (blk_cell BK156.out 3).trans rfl, (blk_cell BK156.out 4).trans rfl, (blk_cell BK156.out 5).trans rfl, (blk_cell BK156.out 6).trans rfl, (blk_cell BK156.out 7).trans rfl⟩ (fun hHeld => ?_); refine with_tabW spec_l2GoodExpr.tab9 spec_l2GoodExpr.bits9 (fun HT_ HW_ => ?_); generalize wc.drew = w65 at BK156 HB hHeld ⊢; refine pu_ 0 54 ba2f_1 (any_of HT_.out (by kernel_rfl)) ?_; refine take_ (i := 1) (N := some 55) (v := ?_) (a' := ?_) ba2f_2 rfl rfl (take_ofW HT_.out HW_.out (by kernel_rfl)) (fun _ _ _ h => h) (Or.inl ⟨by rfl, ?_⟩) hHeld ?_ ?_; rotate_left
        ·rintro w' ⟨s0, s1, s2, s3, s4, s5, s6, s7⟩; go_simp; with_reducible rfl
        rotate_left
        ·simp only [Act.put, ps_]; rfl
        refine join_ (σ := Value × Value) 30 ba2f_3 (fun s_ => [(56, s_.1), (57, .string (strOfNums y160)), (58, s_.2)]) (fun s_ w' => (w'.cell? ⟨gb156, 0, none⟩ = some (.int .i64 ((rd_T72 l0 a1).f0)) ∧ w'.cell? ⟨gb156, 1, none⟩ = some (.int .u8 ((rd_T72 l0 a1).f1)) ∧ w'.cell? ⟨gb156, 2, none⟩ = some (.string ((rd_T72 l0 a1).f2)) ∧ w'.cell? ⟨gb156, 3, none⟩ = some (.int .i64 ((rd_T72 l0 a1).f3.f0)) ∧ w'.cell? ⟨gb156, 4, none⟩ = some (.int .i64 ((rd_T72 l0 a1).f3.f1)) ∧ w'.cell? ⟨gb156, 5, none⟩ = some (.string ((rd_T72 l0 a1).f3.f2)) ∧ w'.cell? ⟨gb156, 6, none⟩ = some (.int .i64 ((rd_T72 l0 a1).f4)) ∧ w'.cell? ⟨gb156, 7, none⟩ = some (.int .i64 ((rd_T72 l0 a1).f5))) ∧ (Kd.R (Kd.int .u8) 5 w' w.heap.size (fun _ => True) s_.1 y160) ∧ (Kd.R Kd.string 9 w' w.heap.size (fun _ => True) s_.2 t163) ∧ (w'.heap[gb156]? = some (.cells #[.int .i64 ((rd_T72 l0 a1).f0), .int .u8 ((rd_T72 l0 a1).f1), .string ((rd_T72 l0 a1).f2), .int .i64 ((rd_T72 l0 a1).f3.f0), .int .i64 ((rd_T72 l0 a1).f3.f1), .string ((rd_T72 l0 a1).f3.f2), .int .i64 ((rd_T72 l0 a1).f4), .int .i64 ((rd_T72 l0 a1).f5)] 72 (0, 0))) ∧ (Below w.heap.size w w')) ?_ ?_; rotate_left
        ·intro hCont; refine two_ (i := 2) (j := 4) (Ni := some 56) (Nj := some 58) ba2f_4 ba2f_5 rfl rfl rfl rfl (two_of HT_.out (by kernel_rfl)) (by decide) (by decide) (fun K hK => ?_) (fun K hK => ?_)
         ·skip; refine Kd.R_lit_step (Kd.int .u8) _ 5 ?hg (N := 56) ?hd (xs := ([((rd_T72 l0 a1).f1)] : List Int)) (inner := [.int .u8 ((rd_T72 l0 a1).f1)]) (ok := fun _ => True) (okp := fun _ => True) ?hr ?hp (fun _ hk => hk) trivial (Below.refl _ _) (Nat.le_refl _) (by simp) ?_; (case hd => rfl); (case hg => rfl); (case hr => first | (go_simp; done) | (go_simp; rfl)); (case hp => exact (Reps.one (show Kd.M (Kd.int .u8) _ _ _ ((rd_T72 l0 a1).f1) [.int .u8 ((rd_T72 l0 a1).f1)] from rfl) (Reps.none _ _))); intro v161 w66 ho67 hb hg_ hnew_; clear hg_ hnew_; (first | rw [← Ny160.out] at ho67 | (simp only [Int.reduceToNat] at ho67; rw [← Ny160.out] at ho67)); have HO162 := a_ (Kd.R_lower ho67 (below_size (mb_ HB))); replace BK156 := mk_ BK156 hb; replace HB := ms_ HB hb; clear hb ho67; refine hK.out _ _ (bc8 BK156) fun hHeld => ?_
          clear hK K; refine nm_ 56 ?_; refine two_ (i := 3) (j := 4) (Ni := some 57) (Nj := some 58) ba2f_6 ba2f_7 rfl rfl rfl rfl (two_of HT_.out (by kernel_rfl)) (by decide) (by decide) (fun K hK => ?_) (fun K hK => ?_)
          ·skip; have hcv68 := own_string (P := Try.prog) Try.underlying98 Try.underlying5 Try.underlying9 (Kd.own_of_R HO162.out); refine value_ (w1 := ?_) (v := ?_) (by rfl) rfl ?_ ?_; rotate_left 2
           ·go_simp; constructor
            ·rfl
            ·rfl
           clear hcv68; refine hK.out _ _ (bc8 BK156) fun hHeld => ?_
           clear hK K; refine nm_ 57 ?_; refine one_ (i := 4) (N := some 58) ba2f_3 rfl rfl (one_of HT_.out (by kernel_rfl)) (by decide) (fun K hK => ?_); refine goes_ Try.func46 (by kernel_rfl) rfl #[] (by rfl) rfl rfl mw_ ?_; with_reducible refine (spec_l2Ariths.calls  t163 _ A33.out).mono ?_
           rintro e w69 ⟨v164, rfl, ho0, hb⟩; refine ⟨_, rfl, ?_⟩; have HO165 := a_ (Kd.R_lower ho0 (below_size (mb_ HB))); replace HO162 := a_ (Kd.R_below (mo_ HO162.out) hb); replace BK156 := mk_ BK156 hb; replace HB := ms_ HB hb; (try clear hb); (try clear hb2); (try clear hk); (try clear hi); (try clear ho0); refine hK.out _ _ (bc8 BK156) fun hHeld => ?_
           clear hK K; refine nm_ 58 ?_; exact norm_ (by simp only [putAll, Act.put, ps_]) (hCont (v161, v164) _ ⟨hHeld, (mo_ HO162.out), (mo_ HO165.out), (mc_ BK156), (mb_ HB)⟩)
          ·skip; refine goes_ Try.func46 (by kernel_rfl) rfl #[] (by rfl) rfl rfl mw_ ?_; with_reducible refine (spec_l2Ariths.calls  t163 _ A33.out).mono ?_
           rintro e w68 ⟨v164, rfl, ho0, hb⟩; refine ⟨_, rfl, ?_⟩; have HO165 := a_ (Kd.R_lower ho0 (below_size (mb_ HB))); replace HO162 := a_ (Kd.R_below (mo_ HO162.out) hb); replace BK156 := mk_ BK156 hb; replace HB := ms_ HB hb; (try clear hb); (try clear hb2); (try clear hk); (try clear hi); (try clear ho0); refine hK.out _ _ (bc8 BK156) fun hHeld => ?_
           clear hK K; refine nm_ 58 ?_; refine one_ (i := 3) (N := some 57) ba2f_3 rfl rfl (one_of HT_.out (by kernel_rfl)) (by decide) (fun K hK => ?_); have hcv69 := own_string (P := Try.prog) Try.underlying98 Try.underlying5 Try.underlying9 (Kd.own_of_R HO162.out); refine value_ (w1 := ?_) (v := ?_) (by rfl) rfl ?_ ?_; rotate_left 2
           ·go_simp; constructor
            ·rfl
            ·rfl
           clear hcv69; refine hK.out _ _ (bc8 BK156) fun hHeld => ?_
           clear hK K; refine nm_ 57 ?_; exact norm_ (by simp only [putAll, Act.put, ps_]) (hCont (v161, v164) _ ⟨hHeld, (mo_ HO162.out), (mo_ HO165.out), (mc_ BK156), (mb_ HB)⟩)
         ·skip; refine goes_ Try.func46 (by kernel_rfl) rfl #[] (by rfl) rfl rfl mw_ ?_; with_reducible refine (spec_l2Ariths.calls  t163 _ A33.out).mono ?_
          rintro e w66 ⟨v164, rfl, ho0, hb⟩; refine ⟨_, rfl, ?_⟩; have HO165 := a_ (Kd.R_lower ho0 (below_size (mb_ HB))); replace BK156 := mk_ BK156 hb; replace HB := ms_ HB hb; (try clear hb); (try clear hb2); (try clear hk); (try clear hi); (try clear ho0); refine hK.out _ _ (bc8 BK156) fun hHeld => ?_
          clear hK K; refine nm_ 58 ?_; refine one_ (i := 2) (N := some 56) ba2f_7 rfl rfl (one_of HT_.out (by kernel_rfl)) (by decide) (fun K hK => ?_); refine Kd.R_lit_step (Kd.int .u8) _ 5 ?hg (N := 56) ?hd (xs := ([((rd_T72 l0 a1).f1)] : List Int)) (inner := [.int .u8 ((rd_T72 l0 a1).f1)]) (ok := fun _ => True) (okp := fun _ => True) ?hr ?hp (fun _ hk => hk) trivial (Below.refl _ _) (Nat.le_refl _) (by simp) ?_; (case hd => rfl); (case hg => rfl); (case hr => first | (go_simp; done) | (go_simp; rfl)); (case hp => exact (Reps.one (show Kd.M (Kd.int .u8) _ _ _ ((rd_T72 l0 a1).f1) [.int .u8 ((rd_T72 l0 a1).f1)] from rfl) (Reps.none _ _))); intro v161 w67 ho68 hb hg_ hnew_; clear hg_ hnew_; (first | rw [← Ny160.out] at ho68 | (simp only [Int.reduceToNat] at ho68; rw [← Ny160.out] at ho68)); have HO162 := a_ (Kd.R_lower ho68 (below_size (mb_ HB))); replace HO165 := a_ (Kd.R_below (mo_ HO165.out) hb); replace BK156 := mk_ BK156 hb; replace HB := ms_ HB hb; clear hb ho68; refine hK.out _ _ (bc8 BK156) fun hHeld => ?_
          clear hK K; refine nm_ 56 ?_; refine one_ (i := 3) (N := some 57) ba2f_3 rfl rfl (one_of HT_.out (by kernel_rfl)) (by decide) (fun K hK => ?_); have hcv69 := own_string (P := Try.prog) Try.underlying98 Try.underlying5 Try.underlying9 (Kd.own_of_R HO162.out); refine value_ (w1 := ?_) (v := ?_) (by rfl) rfl ?_ ?_; rotate_left 2
          ·go_simp; constructor
           ·rfl
           ·rfl
          clear hcv69; refine hK.out _ _ (bc8 BK156) fun hHeld => ?_
          clear hK K; refine nm_ 57 ?_; exact norm_ (by simp only [putAll, Act.put, ps_]) (hCont (v161, v164) _ ⟨hHeld, (mo_ HO162.out), (mo_ HO165.out), (mc_ BK156), (mb_ HB)⟩)
        rintro ⟨v161, v164⟩ w70 ⟨hS_, h0_, h1_, h2_, h3_⟩; have n0_ : Aside0 (Kd.R (Kd.int .u8) 5 w70 w.heap.size (fun _ => True) v161 y160) := ⟨h0_⟩
        have n1_ : Aside0 (Kd.R Kd.string 9 w70 w.heap.size (fun _ => True) v164 t163) := ⟨h1_⟩
        have n2_ : Aside0 (w70.heap[gb156]? = some (.cells #[.int .i64 ((rd_T72 l0 a1).f0), .int .u8 ((rd_T72 l0 a1).f1), .string ((rd_T72 l0 a1).f2), .int .i64 ((rd_T72 l0 a1).f3.f0), .int .i64 ((rd_T72 l0 a1).f3.f1), .string ((rd_T72 l0 a1).f3.f2), .int .i64 ((rd_T72 l0 a1).f4), .int .i64 ((rd_T72 l0 a1).f5)] 72 (0, 0))) := ⟨h2_⟩
        have n3_ : Aside0 (Below w.heap.size w w70) := ⟨h3_⟩
        clear BK156; clear HB; clear h0_ h1_ h2_ h3_; have HO162 := n0_; have HO165 := n1_; have BK156 := n2_; have HB := n3_; clear n0_ n1_ n2_ n3_; have hHeld : w70.cell? ⟨gb156, 0, none⟩ = some (.int .i64 ((rd_T72 l0 a1).f0)) ∧ w70.cell? ⟨gb156, 1, none⟩ = some (.int .u8 ((rd_T72 l0 a1).f1)) ∧ w70.cell? ⟨gb156, 2, none⟩ = some (.string ((rd_T72 l0 a1).f2)) ∧ w70.cell? ⟨gb156, 3, none⟩ = some (.int .i64 ((rd_T72 l0 a1).f3.f0)) ∧ w70.cell? ⟨gb156, 4, none⟩ = some (.int .i64 ((rd_T72 l0 a1).f3.f1)) ∧ w70.cell? ⟨gb156, 5, none⟩ = some (.string ((rd_T72 l0 a1).f3.f2)) ∧ w70.cell? ⟨gb156, 6, none⟩ = some (.int .i64 ((rd_T72 l0 a1).f4)) ∧ w70.cell? ⟨gb156, 7, none⟩ = some (.int .i64 ((rd_T72 l0 a1).f5)) := hS_
        obtain ⟨Ao71, co71, eo71⟩ := Kd.R_slice HO165.out; (first | subst eo71 | (injection eo71 with f1_ f2_ f3_; have f4_ := f1_.symm; have f5_ := f3_.symm; clear f1_ f2_ f3_; subst f4_; subst f5_)); refine norm_ (a' := ?_) ?_ ?_; rotate_left
        ·simp only [putAll, Act.put, ps_]; rfl
        refine one_ (i := 5) (N := some 59) ba2f_8 rfl rfl (one_of HT_.out (by kernel_rfl)) (by decide) (fun K hK => ?_); refine goes_ Try.func27 (by kernel_rfl) rfl #[.string (strOfNums y160), .slice Ao71 t163.length co71] (by rfl) rfl rfl mw_ ?_; with_reducible refine (spec_l2Is.calls kj4 (strOfNums y160) _ _ t163 true _ ?side1 ?side2 A34.out).mono ?_
        (case side1 => repeat (first | exact (Kd.R_reads' HO165.out).2.2 | (with_reducible refine Kd.C_alloc ?_ _) | (with_reducible refine Kd.C_drewN ?_ _) | (with_reducible refine Kd.C_drew ?_)))
        (case side2 => exact (Kd.R_reads' HO165.out).2.1)
        rintro e w' ⟨rfl, ⟨nd, rfl⟩⟩; refine ⟨_, rfl, ?_⟩; refine hK.out _ _ (bc8 BK156) fun hHeld => ?_
        clear hK K; refine nm_ 59 ?_; refine pu_ 6 60 ba2f_9 (any_of HT_.out (by kernel_rfl)) ?_; refine pu_ 7 61 ba2f_10 (any_of HT_.out (by kernel_rfl)) ?_; refine pu_ 8 62 ba2f_11 (any_of HT_.out (by kernel_rfl)) ?_; refine take_ (i := 9) (N := some 63) (v := ?_) (a' := ?_) ba2f_12 rfl rfl (take_ofW HT_.out HW_.out (by kernel_rfl)) (fun _ _ _ h => h) (Or.inl ⟨by rfl, ?_⟩) hHeld ?_ ?_; rotate_left
        ·rintro w' ⟨s0, s1, s2, s3, s4, s5, s6, s7⟩; go_simp; with_reducible rfl
        rotate_left
        ·simp only [Act.put, ps_]; rfl
        refine pu_ 10 64 ba2f_13 (any_of HT_.out (by kernel_rfl)) ?_; refine pu_ 11 65 ba2f_14 (any_of HT_.out (by kernel_rfl)) ?_; refine pu_ 12 66 ba2f_15 (any_of HT_.out (by kernel_rfl)) ?_; refine pu_ 13 67 ba2f_16 (any_of HT_.out (by kernel_rfl)) ?_; refine take_ (i := 14) (N := some 68) (v := ?_) (a' := ?_) ba2f_17 rfl rfl (take_ofW HT_.out HW_.out (by kernel_rfl)) (fun _ _ _ h => h) (Or.inl ⟨by rfl, ?_⟩) hHeld ?_ ?_; rotate_left
        ·rintro w' ⟨s0, s1, s2, s3, s4, s5, s6, s7⟩; go_simp; with_reducible rfl
        rotate_left
        ·simp only [Act.put, ps_]; rfl
        refine one_ (i := 15) (N := some 69) ba2f_18 rfl rfl (one_of HT_.out (by kernel_rfl)) (by decide) (fun K hK => ?_); refine goes_ Try.func45 (by kernel_rfl) rfl #[.agg #[.int .i64 ((rd_T72 l0 a1).f3.f0), .int .i64 ((rd_T72 l0 a1).f3.f1), .string ((rd_T72 l0 a1).f3.f2)]] (by rfl) rfl rfl mw_ ?_; with_reducible refine (spec_l2Zero.calls ((rd_T72 l0 a1).f3.f0) ((rd_T72 l0 a1).f3.f1) ((rd_T72 l0 a1).f3.f2) false _ A37.out).mono ?_
        rintro e w72 ⟨rfl, hb⟩; refine ⟨_, rfl, ?_⟩; replace HO162 := a_ (Kd.R_below (mo_ HO162.out) hb); replace HO165 := a_ (Kd.R_below (mo_ HO165.out) hb); replace BK156 := mk_ BK156 hb; replace HB := ms_ HB hb; (try clear hb); (try clear hb2); (try clear hk); (try clear hi); refine hK.out _ _ (bc8 BK156) fun hHeld => ?_
        clear hK K; refine nm_ 69 ?_; refine pu_ 16 70 ba2f_19 (any_of HT_.out (by kernel_rfl)) ?_; refine pu_ 17 71 ba2f_20 (any_of HT_.out (by kernel_rfl)) ?_; refine pu_ 18 72 ba2f_21 (any_of HT_.out (by kernel_rfl)) ?_; refine pv_ 19 73 ba2f_22 (any_of HT_.out (by kernel_rfl)) ?_; refine pv_ 20 74 ba2f_38 (any_of HT_.out (by kernel_rfl)) ?_; refine pv_ 21 75 ba2f_39 (any_of HT_.out (by kernel_rfl)) ?_; refine pv_ 22 76 ba2f_25 (any_of HT_.out (by kernel_rfl)) ?_; refine pv_ 23 77 ba2f_26 (any_of HT_.out (by kernel_rfl)) ?_; refine pu_ 24 78 ba2f_27 (any_of HT_.out (by kernel_rfl)) ?_; refine pu_ 25 79 ba2f_28 (any_of HT_.out (by kernel_rfl)) ?_; refine pv_ 26 80 ba2f_29 (any_of HT_.out (by kernel_rfl)) ?_
        refine pv_ 27 81 ba2f_30 (any_of HT_.out (by kernel_rfl)) ?_; refine pv_ 28 82 ba2f_31 (any_of HT_.out (by kernel_rfl)) ?_; refine pu_ 29 83 ba2f_32 (any_of HT_.out (by kernel_rfl)) ?_; refine pu_ 30 84 ba2f_33 (any_of HT_.out (by kernel_rfl)) ?_; refine pv_ 31 85 ba2f_34 (any_of HT_.out (by kernel_rfl)) ?_; refine pv_ 32 86 ba2f_35 (any_of HT_.out (by kernel_rfl)) ?_; refine pv_ 33 87 ba2f_36 (any_of HT_.out (by kernel_rfl)) ?_; refine pu_ 34 88 ba2f_37 (any_of HT_.out (by kernel_rfl)) ?_; refine done_ (done_of HT_.out (by kernel_rfl)) ?_; try go_wp2
        go_meet
        case rel => exact ⟨_, (true), mq_, H', ⟨by have := HJ4.out; first | omega | exact Nat.le_refl _⟩, ⟨mc_ BK156⟩, ⟨mb_ HB⟩⟩
      ·rw [if_neg c36] at H; have c36b0 := beq_eq_false_iff_ne.mpr c36; have c36b1 := bne_iff_ne.mpr c36; (first | rw [c36b0] | (simp only [i64_w, i32_w]; rw [c36b0]) | skip); have H' := a_ H; clear H; try go_wp2
       replace BK156 := a_ (blk_drew BK156.out); replace HB := a_ (below_drew1 HB.out); refine start_ (n := 35) (S := fun w' => w'.cell? ⟨gb156, 0, none⟩ = some (.int .i64 ((rd_T72 l0 a1).f0)) ∧ w'.cell? ⟨gb156, 1, none⟩ = some (.int .u8 ((rd_T72 l0 a1).f1)) ∧ w'.cell? ⟨gb156, 2, none⟩ = some (.string ((rd_T72 l0 a1).f2)) ∧ w'.cell? ⟨gb156, 3, none⟩ = some (.int .i64 ((rd_T72 l0 a1).f3.f0)) ∧ w'.cell? ⟨gb156, 4, none⟩ = some (.int .i64 ((rd_T72 l0 a1).f3.f1)) ∧ w'.cell? ⟨gb156, 5, none⟩ = some (.string ((rd_T72 l0 a1).f3.f2)) ∧ w'.cell? ⟨gb156, 6, none⟩ = some (.int .i64 ((rd_T72 l0 a1).f4)) ∧ w'.cell? ⟨gb156, 7, none⟩ = some (.int .i64 ((rd_T72 l0 a1).f5))) (ds := []) ba2f_0 (by kernel_rfl) rfl rfl ⟨(blk_cell BK156.out 0).trans rfl, (blk_cell BK156.out 1).trans rfl, (blk_cell BK156.out 2).trans rfl, (blk_cell BK156.out 3).trans rfl, (blk_cell BK156.out 4).trans rfl, (blk_cell BK156.out 5).trans rfl, (blk_cell BK156.out 6).trans rfl, (blk_cell BK156.out 7).trans rfl⟩ (fun hHeld => ?_); refine with_tabW spec_l2GoodExpr.tab9 spec_l2GoodExpr.bits9 (fun HT_ HW_ => ?_); generalize wc.drew = w73 at BK156 HB hHeld ⊢; refine pu_ 0 54 ba2f_1 (any_of HT_.out (by kernel_rfl)) ?_; refine take_ (i := 1) (N := some 55) (v := ?_) (a' := ?_) ba2f_2 rfl rfl (take_ofW HT_.out HW_.out (by kernel_rfl)) (fun _ _ _ h => h) (Or.inl ⟨by rfl, ?_⟩) hHeld ?_ ?_; rotate_left
       ·rintro w' ⟨s0, s1, s2, s3, s4, s5, s6, s7⟩; go_simp; with_reducible rfl
       rotate_left
       ·simp only [Act.put, ps_]; rfl
       refine join_ (σ := Value × Value) 30 ba2f_3 (fun s_ => [(56, s_.1), (57, .string (strOfNums y160)), (58, s_.2)]) (fun s_ w' => (w'.cell? ⟨gb156, 0, none⟩ = some (.int .i64 ((rd_T72 l0 a1).f0)) ∧ w'.cell? ⟨gb156, 1, none⟩ = some (.int .u8 ((rd_T72 l0 a1).f1)) ∧ w'.cell? ⟨gb156, 2, none⟩ = some (.string ((rd_T72 l0 a1).f2)) ∧ w'.cell? ⟨gb156, 3, none⟩ = some (.int .i64 ((rd_T72 l0 a1).f3.f0)) ∧ w'.cell? ⟨gb156, 4, none⟩ = some (.int .i64 ((rd_T72 l0 a1).f3.f1)) ∧ w'.cell? ⟨gb156, 5, none⟩ = some (.string ((rd_T72 l0 a1).f3.f2)) ∧ w'.cell? ⟨gb156, 6, none⟩ = some (.int .i64 ((rd_T72 l0 a1).f4)) ∧ w'.cell? ⟨gb156, 7, none⟩ = some (.int .i64 ((rd_T72 l0 a1).f5))) ∧ (Kd.R (Kd.int .u8) 5 w' w.heap.size (fun _ => True) s_.1 y160) ∧ (Kd.R Kd.string 9 w' w.heap.size (fun _ => True) s_.2 t163) ∧ (w'.heap[gb156]? = some (.cells #[.int .i64 ((rd_T72 l0 a1).f0), .int .u8 ((rd_T72 l0 a1).f1), .string ((rd_T72 l0 a1).f2), .int .i64 ((rd_T72 l0 a1).f3.f0), .int .i64 ((rd_T72 l0 a1).f3.f1), .string ((rd_T72 l0 a1).f3.f2), .int .i64 ((rd_T72 l0 a1).f4), .int .i64 ((rd_T72 l0 a1).f5)] 72 (0, 0))) ∧ (Below w.heap.size w w')) ?_ ?_; rotate_left
       ·intro hCont; refine two_ (i := 2) (j := 4) (Ni := some 56) (Nj := some 58) ba2f_4 ba2f_5 rfl rfl rfl rfl (two_of HT_.out (by kernel_rfl)) (by decide) (by decide) (fun K hK => ?_) (fun K hK => ?_)
        ·skip; refine Kd.R_lit_step (Kd.int .u8) _ 5 ?hg (N := 56) ?hd (xs := ([((rd_T72 l0 a1).f1)] : List Int)) (inner := [.int .u8 ((rd_T72 l0 a1).f1)]) (ok := fun _ => True) (okp := fun _ => True) ?hr ?hp (fun _ hk => hk) trivial (Below.refl _ _) (Nat.le_refl _) (by simp) ?_; (case hd => rfl); (case hg => rfl); (case hr => first | (go_simp; done) | (go_simp; rfl)); (case hp => exact (Reps.one (show Kd.M (Kd.int .u8) _ _ _ ((rd_T72 l0 a1).f1) [.int .u8 ((rd_T72 l0 a1).f1)] from rfl) (Reps.none _ _))); intro v161 w74 ho75 hb hg_ hnew_; clear hg_ hnew_; (first | rw [← Ny160.out] at ho75 | (simp only [Int.reduceToNat] at ho75; rw [← Ny160.out] at ho75)); have HO162 := a_ (Kd.R_lower ho75 (below_size (mb_ HB))); replace BK156 := mk_ BK156 hb; replace HB := ms_ HB hb; clear hb ho75; refine hK.out _ _ (bc8 BK156) fun hHeld => ?_
         clear hK K; refine nm_ 56 ?_; refine two_ (i := 3) (j := 4) (Ni := some 57) (Nj := some 58) ba2f_6 ba2f_7 rfl rfl rfl rfl (two_of HT_.out (by kernel_rfl)) (by decide) (by decide) (fun K hK => ?_) (fun K hK => ?_)
         ·skip; have hcv76 := own_string (P := Try.prog) Try.underlying98 Try.underlying5 Try.underlying9 (Kd.own_of_R HO162.out); refine value_ (w1 := ?_) (v := ?_) (by rfl) rfl ?_ ?_; rotate_left 2
          ·go_simp; constructor
           ·rfl
           ·rfl
          clear hcv76; refine hK.out _ _ (bc8 BK156) fun hHeld => ?_
          clear hK K; refine nm_ 57 ?_; refine one_ (i := 4) (N := some 58) ba2f_3 rfl rfl (one_of HT_.out (by kernel_rfl)) (by decide) (fun K hK => ?_); refine goes_ Try.func46 (by kernel_rfl) rfl #[] (by rfl) rfl rfl mw_ ?_; with_reducible refine (spec_l2Ariths.calls  t163 _ A33.out).mono ?_
          rintro e w77 ⟨v164, rfl, ho0, hb⟩; refine ⟨_, rfl, ?_⟩; have HO165 := a_ (Kd.R_lower ho0 (below_size (mb_ HB))); replace HO162 := a_ (Kd.R_below (mo_ HO162.out) hb); replace BK156 := mk_ BK156 hb; replace HB := ms_ HB hb; (try clear hb); (try clear hb2); (try clear hk); (try clear hi); (try clear ho0); refine hK.out _ _ (bc8 BK156) fun hHeld => ?_
          clear hK K; refine nm_ 58 ?_; exact norm_ (by simp only [putAll, Act.put, ps_]) (hCont (v161, v164) _ ⟨hHeld, (mo_ HO162.out), (mo_ HO165.out), (mc_ BK156), (mb_ HB)⟩)
         ·skip; refine goes_ Try.func46 (by kernel_rfl) rfl #[] (by rfl) rfl rfl mw_ ?_; with_reducible refine (spec_l2Ariths.calls  t163 _ A33.out).mono ?_
          rintro e w76 ⟨v164, rfl, ho0, hb⟩; refine ⟨_, rfl, ?_⟩; have HO165 := a_ (Kd.R_lower ho0 (below_size (mb_ HB))); replace HO162 := a_ (Kd.R_below (mo_ HO162.out) hb); replace BK156 := mk_ BK156 hb; replace HB := ms_ HB hb; (try clear hb); (try clear hb2); (try clear hk); (try clear hi); (try clear ho0); refine hK.out _ _ (bc8 BK156) fun hHeld => ?_
          clear hK K; refine nm_ 58 ?_; refine one_ (i := 3) (N := some 57) ba2f_3 rfl rfl (one_of HT_.out (by kernel_rfl)) (by decide) (fun K hK => ?_); have hcv77 := own_string (P := Try.prog) Try.underlying98 Try.underlying5 Try.underlying9 (Kd.own_of_R HO162.out); refine value_ (w1 := ?_) (v := ?_) (by rfl) rfl ?_ ?_; rotate_left 2
          ·go_simp; constructor
           ·rfl
           ·rfl
          clear hcv77; refine hK.out _ _ (bc8 BK156) fun hHeld => ?_
          clear hK K; refine nm_ 57 ?_; exact norm_ (by simp only [putAll, Act.put, ps_]) (hCont (v161, v164) _ ⟨hHeld, (mo_ HO162.out), (mo_ HO165.out), (mc_ BK156), (mb_ HB)⟩)
        ·skip; refine goes_ Try.func46 (by kernel_rfl) rfl #[] (by rfl) rfl rfl mw_ ?_; with_reducible refine (spec_l2Ariths.calls  t163 _ A33.out).mono ?_
         rintro e w74 ⟨v164, rfl, ho0, hb⟩; refine ⟨_, rfl, ?_⟩; have HO165 := a_ (Kd.R_lower ho0 (below_size (mb_ HB))); replace BK156 := mk_ BK156 hb; replace HB := ms_ HB hb; (try clear hb); (try clear hb2); (try clear hk); (try clear hi); (try clear ho0); refine hK.out _ _ (bc8 BK156) fun hHeld => ?_
         clear hK K; refine nm_ 58 ?_; refine one_ (i := 2) (N := some 56) ba2f_7 rfl rfl (one_of HT_.out (by kernel_rfl)) (by decide) (fun K hK => ?_); refine Kd.R_lit_step (Kd.int .u8) _ 5 ?hg (N := 56) ?hd (xs := ([((rd_T72 l0 a1).f1)] : List Int)) (inner := [.int .u8 ((rd_T72 l0 a1).f1)]) (ok := fun _ => True) (okp := fun _ => True) ?hr ?hp (fun _ hk => hk) trivial (Below.refl _ _) (Nat.le_refl _) (by simp) ?_; (case hd => rfl); (case hg => rfl); (case hr => first | (go_simp; done) | (go_simp; rfl)); (case hp => exact (Reps.one (show Kd.M (Kd.int .u8) _ _ _ ((rd_T72 l0 a1).f1) [.int .u8 ((rd_T72 l0 a1).f1)] from rfl) (Reps.none _ _))); intro v161 w75 ho76 hb hg_ hnew_; clear hg_ hnew_; (first | rw [← Ny160.out] at ho76 | (simp only [Int.reduceToNat] at ho76; rw [← Ny160.out] at ho76)); have HO162 := a_ (Kd.R_lower ho76 (below_size (mb_ HB))); replace HO165 := a_ (Kd.R_below (mo_ HO165.out) hb); replace BK156 := mk_ BK156 hb; replace HB := ms_ HB hb; clear hb ho76; refine hK.out _ _ (bc8 BK156) fun hHeld => ?_
         clear hK K; refine nm_ 56 ?_; refine one_ (i := 3) (N := some 57) ba2f_3 rfl rfl (one_of HT_.out (by kernel_rfl)) (by decide) (fun K hK => ?_); have hcv77 := own_string (P := Try.prog) Try.underlying98 Try.underlying5 Try.underlying9 (Kd.own_of_R HO162.out); refine value_ (w1 := ?_) (v := ?_) (by rfl) rfl ?_ ?_; rotate_left 2
         ·go_simp; constructor
          ·rfl
          ·rfl
         clear hcv77; refine hK.out _ _ (bc8 BK156) fun hHeld => ?_
         clear hK K; refine nm_ 57 ?_; exact norm_ (by simp only [putAll, Act.put, ps_]) (hCont (v161, v164) _ ⟨hHeld, (mo_ HO162.out), (mo_ HO165.out), (mc_ BK156), (mb_ HB)⟩)
       rintro ⟨v161, v164⟩ w78 ⟨hS_, h0_, h1_, h2_, h3_⟩; have n0_ : Aside0 (Kd.R (Kd.int .u8) 5 w78 w.heap.size (fun _ => True) v161 y160) := ⟨h0_⟩
       have n1_ : Aside0 (Kd.R Kd.string 9 w78 w.heap.size (fun _ => True) v164 t163) := ⟨h1_⟩
       have n2_ : Aside0 (w78.heap[gb156]? = some (.cells #[.int .i64 ((rd_T72 l0 a1).f0), .int .u8 ((rd_T72 l0 a1).f1), .string ((rd_T72 l0 a1).f2), .int .i64 ((rd_T72 l0 a1).f3.f0), .int .i64 ((rd_T72 l0 a1).f3.f1), .string ((rd_T72 l0 a1).f3.f2), .int .i64 ((rd_T72 l0 a1).f4), .int .i64 ((rd_T72 l0 a1).f5)] 72 (0, 0))) := ⟨h2_⟩
       have n3_ : Aside0 (Below w.heap.size w w78) := ⟨h3_⟩
       clear BK156; clear HB; clear h0_ h1_ h2_ h3_; have HO162 := n0_; have HO165 := n1_; have BK156 := n2_; have HB := n3_; clear n0_ n1_ n2_ n3_; have hHeld : w78.cell? ⟨gb156, 0, none⟩ = some (.int .i64 ((rd_T72 l0 a1).f0)) ∧ w78.cell? ⟨gb156, 1, none⟩ = some (.int .u8 ((rd_T72 l0 a1).f1)) ∧ w78.cell? ⟨gb156, 2, none⟩ = some (.string ((rd_T72 l0 a1).f2)) ∧ w78.cell? ⟨gb156, 3, none⟩ = some (.int .i64 ((rd_T72 l0 a1).f3.f0)) ∧ w78.cell? ⟨gb156, 4, none⟩ = some (.int .i64 ((rd_T72 l0 a1).f3.f1)) ∧ w78.cell? ⟨gb156, 5, none⟩ = some (.string ((rd_T72 l0 a1).f3.f2)) ∧ w78.cell? ⟨gb156, 6, none⟩ = some (.int .i64 ((rd_T72 l0 a1).f4)) ∧ w78.cell? ⟨gb156, 7, none⟩ = some (.int .i64 ((rd_T72 l0 a1).f5)) := hS_
       obtain ⟨Ao79, co79, eo79⟩ := Kd.R_slice HO165.out; (first | subst eo79 | (injection eo79 with f1_ f2_ f3_; have f4_ := f1_.symm; have f5_ := f3_.symm; clear f1_ f2_ f3_; subst f4_; subst f5_)); refine norm_ (a' := ?_) ?_ ?_; rotate_left
       ·simp only [putAll, Act.put, ps_]; rfl
       refine one_ (i := 5) (N := some 59) ba2f_8 rfl rfl (one_of HT_.out (by kernel_rfl)) (by decide) (fun K hK => ?_); refine goes_ Try.func27 (by kernel_rfl) rfl #[.string (strOfNums y160), .slice Ao79 t163.length co79] (by rfl) rfl rfl mw_ ?_; with_reducible refine (spec_l2Is.calls kj4 (strOfNums y160) _ _ t163 true _ ?side1 ?side2 A34.out).mono ?_
       (case side1 => repeat (first | exact (Kd.R_reads' HO165.out).2.2 | (with_reducible refine Kd.C_alloc ?_ _) | (with_reducible refine Kd.C_drewN ?_ _) | (with_reducible refine Kd.C_drew ?_)))
       (case side2 => exact (Kd.R_reads' HO165.out).2.1)
       rintro e w' ⟨rfl, ⟨nd, rfl⟩⟩; refine ⟨_, rfl, ?_⟩; refine hK.out _ _ (bc8 BK156) fun hHeld => ?_
       clear hK K; refine nm_ 59 ?_; refine pu_ 6 60 ba2f_9 (any_of HT_.out (by kernel_rfl)) ?_; refine pu_ 7 61 ba2f_10 (any_of HT_.out (by kernel_rfl)) ?_; refine pu_ 8 62 ba2f_11 (any_of HT_.out (by kernel_rfl)) ?_; refine take_ (i := 9) (N := some 63) (v := ?_) (a' := ?_) ba2f_12 rfl rfl (take_ofW HT_.out HW_.out (by kernel_rfl)) (fun _ _ _ h => h) (Or.inl ⟨by rfl, ?_⟩) hHeld ?_ ?_; rotate_left
       ·rintro w' ⟨s0, s1, s2, s3, s4, s5, s6, s7⟩; go_simp; with_reducible rfl
       rotate_left
       ·simp only [Act.put, ps_]; rfl
       refine pu_ 10 64 ba2f_13 (any_of HT_.out (by kernel_rfl)) ?_; refine pu_ 11 65 ba2f_14 (any_of HT_.out (by kernel_rfl)) ?_; refine pu_ 12 66 ba2f_15 (any_of HT_.out (by kernel_rfl)) ?_; refine pv_ 13 67 ba2f_16 (any_of HT_.out (by kernel_rfl)) ?_; refine pv_ 14 68 ba2f_17 (any_of HT_.out (by kernel_rfl)) ?_; refine pv_ 15 69 ba2f_18 (any_of HT_.out (by kernel_rfl)) ?_; refine pv_ 16 70 ba2f_19 (any_of HT_.out (by kernel_rfl)) ?_; refine pu_ 17 71 ba2f_20 (any_of HT_.out (by kernel_rfl)) ?_; refine pu_ 18 72 ba2f_21 (any_of HT_.out (by kernel_rfl)) ?_; refine pv_ 19 73 ba2f_22 (any_of HT_.out (by kernel_rfl)) ?_; refine pv_ 20 74 ba2f_38 (any_of HT_.out (by kernel_rfl)) ?_
       refine pv_ 21 75 ba2f_39 (any_of HT_.out (by kernel_rfl)) ?_; refine pv_ 22 76 ba2f_25 (any_of HT_.out (by kernel_rfl)) ?_; refine pv_ 23 77 ba2f_26 (any_of HT_.out (by kernel_rfl)) ?_; refine pu_ 24 78 ba2f_27 (any_of HT_.out (by kernel_rfl)) ?_; refine pu_ 25 79 ba2f_28 (any_of HT_.out (by kernel_rfl)) ?_; refine pv_ 26 80 ba2f_29 (any_of HT_.out (by kernel_rfl)) ?_; refine pv_ 27 81 ba2f_30 (any_of HT_.out (by kernel_rfl)) ?_; refine pv_ 28 82 ba2f_31 (any_of HT_.out (by kernel_rfl)) ?_; refine pu_ 29 83 ba2f_32 (any_of HT_.out (by kernel_rfl)) ?_; refine pu_ 30 84 ba2f_33 (any_of HT_.out (by kernel_rfl)) ?_; refine pv_ 31 85 ba2f_34 (any_of HT_.out (by kernel_rfl)) ?_
       refine pv_ 32 86 ba2f_35 (any_of HT_.out (by kernel_rfl)) ?_; refine pv_ 33 87 ba2f_36 (any_of HT_.out (by kernel_rfl)) ?_; refine pu_ 34 88 ba2f_37 (any_of HT_.out (by kernel_rfl)) ?_; refine done_ (done_of HT_.out (by kernel_rfl)) ?_; try go_wp2
       go_meet
       case rel => exact ⟨_, (true), mq_, H', ⟨by have := HJ4.out; first | omega | exact Nat.le_refl _⟩, ⟨mc_ BK156⟩, ⟨mb_ HB⟩⟩
     ·replace c35 := Bool.eq_false_iff.mpr c35; subst c35; rw [if_neg (show ¬ (false = true) by decide)] at H; have H' := a_ H; clear H; try go_wp2
      replace BK156 := a_ (blk_drew BK156.out); replace HB := a_ (below_drew1 HB.out); refine start_ (n := 35) (S := fun w' => w'.cell? ⟨gb156, 0, none⟩ = some (.int .i64 ((rd_T72 l0 a1).f0)) ∧ w'.cell? ⟨gb156, 1, none⟩ = some (.int .u8 ((rd_T72 l0 a1).f1)) ∧ w'.cell? ⟨gb156, 2, none⟩ = some (.string ((rd_T72 l0 a1).f2)) ∧ w'.cell? ⟨gb156, 3, none⟩ = some (.int .i64 ((rd_T72 l0 a1).f3.f0)) ∧ w'.cell? ⟨gb156, 4, none⟩ = some (.int .i64 ((rd_T72 l0 a1).f3.f1)) ∧ w'.cell? ⟨gb156, 5, none⟩ = some (.string ((rd_T72 l0 a1).f3.f2)) ∧ w'.cell? ⟨gb156, 6, none⟩ = some (.int .i64 ((rd_T72 l0 a1).f4)) ∧ w'.cell? ⟨gb156, 7, none⟩ = some (.int .i64 ((rd_T72 l0 a1).f5))) (ds := []) ba2f_0 (by kernel_rfl) rfl rfl ⟨(blk_cell BK156.out 0).trans rfl, (blk_cell BK156.out 1).trans rfl, (blk_cell BK156.out 2).trans rfl, (blk_cell BK156.out 3).trans rfl, (blk_cell BK156.out 4).trans rfl, (blk_cell BK156.out 5).trans rfl, (blk_cell BK156.out 6).trans rfl, (blk_cell BK156.out 7).trans rfl⟩ (fun hHeld => ?_); refine with_tabW spec_l2GoodExpr.tab9 spec_l2GoodExpr.bits9 (fun HT_ HW_ => ?_); generalize wc.drew = w80 at BK156 HB hHeld ⊢; refine pu_ 0 54 ba2f_1 (any_of HT_.out (by kernel_rfl)) ?_; refine take_ (i := 1) (N := some 55) (v := ?_) (a' := ?_) ba2f_2 rfl rfl (take_ofW HT_.out HW_.out (by kernel_rfl)) (fun _ _ _ h => h) (Or.inl ⟨by rfl, ?_⟩) hHeld ?_ ?_; rotate_left
      ·rintro w' ⟨s0, s1, s2, s3, s4, s5, s6, s7⟩; go_simp; with_reducible rfl
      rotate_left
      ·simp only [Act.put, ps_]; rfl
      refine join_ (σ := Value × Value) 30 ba2f_3 (fun s_ => [(56, s_.1), (57, .string (strOfNums y160)), (58, s_.2)]) (fun s_ w' => (w'.cell? ⟨gb156, 0, none⟩ = some (.int .i64 ((rd_T72 l0 a1).f0)) ∧ w'.cell? ⟨gb156, 1, none⟩ = some (.int .u8 ((rd_T72 l0 a1).f1)) ∧ w'.cell? ⟨gb156, 2, none⟩ = some (.string ((rd_T72 l0 a1).f2)) ∧ w'.cell? ⟨gb156, 3, none⟩ = some (.int .i64 ((rd_T72 l0 a1).f3.f0)) ∧ w'.cell? ⟨gb156, 4, none⟩ = some (.int .i64 ((rd_T72 l0 a1).f3.f1)) ∧ w'.cell? ⟨gb156, 5, none⟩ = some (.string ((rd_T72 l0 a1).f3.f2)) ∧ w'.cell? ⟨gb156, 6, none⟩ = some (.int .i64 ((rd_T72 l0 a1).f4)) ∧ w'.cell? ⟨gb156, 7, none⟩ = some (.int .i64 ((rd_T72 l0 a1).f5))) ∧ (Kd.R (Kd.int .u8) 5 w' w.heap.size (fun _ => True) s_.1 y160) ∧ (Kd.R Kd.string 9 w' w.heap.size (fun _ => True) s_.2 t163) ∧ (w'.heap[gb156]? = some (.cells #[.int .i64 ((rd_T72 l0 a1).f0), .int .u8 ((rd_T72 l0 a1).f1), .string ((rd_T72 l0 a1).f2), .int .i64 ((rd_T72 l0 a1).f3.f0), .int .i64 ((rd_T72 l0 a1).f3.f1), .string ((rd_T72 l0 a1).f3.f2), .int .i64 ((rd_T72 l0 a1).f4), .int .i64 ((rd_T72 l0 a1).f5)] 72 (0, 0))) ∧ (Below w.heap.size w w')) ?_ ?_; rotate_left
      ·intro hCont; refine two_ (i := 2) (j := 4) (Ni := some 56) (Nj := some 58) ba2f_4 ba2f_5 rfl rfl rfl rfl (two_of HT_.out (by kernel_rfl)) (by decide) (by decide) (fun K hK => ?_) (fun K hK => ?_)
       ·skip; refine Kd.R_lit_step (Kd.int .u8) _ 5 ?hg (N := 56) ?hd (xs := ([((rd_T72 l0 a1).f1)] : List Int)) (inner := [.int .u8 ((rd_T72 l0 a1).f1)]) (ok := fun _ => True) (okp := fun _ => True) ?hr ?hp (fun _ hk => hk) trivial (Below.refl _ _) (Nat.le_refl _) (by simp) ?_; (case hd => rfl); (case hg => rfl); (case hr => first | (go_simp; done) | (go_simp; rfl)); (case hp => exact (Reps.one (show Kd.M (Kd.int .u8) _ _ _ ((rd_T72 l0 a1).f1) [.int .u8 ((rd_T72 l0 a1).f1)] from rfl) (Reps.none _ _))); intro v161 w81 ho82 hb hg_ hnew_; clear hg_ hnew_; (first | rw [← Ny160.out] at ho82 | (simp only [Int.reduceToNat] at ho82; rw [← Ny160.out] at ho82)); have HO162 := a_ (Kd.R_lower ho82 (below_size (mb_ HB))); replace BK156 := mk_ BK156 hb; replace HB := ms_ HB hb; clear hb ho82; refine hK.out _ _ (bc8 BK156) fun hHeld => ?_
        clear hK K; refine nm_ 56 ?_; refine two_ (i := 3) (j := 4) (Ni := some 57) (Nj := some 58) ba2f_6 ba2f_7 rfl rfl rfl rfl (two_of HT_.out (by kernel_rfl)) (by decide) (by decide) (fun K hK => ?_) (fun K hK => ?_)
        ·skip; have hcv83 := own_string (P := Try.prog) Try.underlying98 Try.underlying5 Try.underlying9 (Kd.own_of_R HO162.out); refine value_ (w1 := ?_) (v := ?_) (by rfl) rfl ?_ ?_; rotate_left 2
         ·go_simp; constructor
          ·rfl
          ·rfl
         clear hcv83; refine hK.out _ _ (bc8 BK156) fun hHeld => ?_
         clear hK K; refine nm_ 57 ?_; refine one_ (i := 4) (N := some 58) ba2f_3 rfl rfl (one_of HT_.out (by kernel_rfl)) (by decide) (fun K hK => ?_); refine goes_ Try.func46 (by kernel_rfl) rfl #[] (by rfl) rfl rfl mw_ ?_; with_reducible refine (spec_l2Ariths.calls  t163 _ A33.out).mono ?_
         rintro e w84 ⟨v164, rfl, ho0, hb⟩; refine ⟨_, rfl, ?_⟩; have HO165 := a_ (Kd.R_lower ho0 (below_size (mb_ HB))); replace HO162 := a_ (Kd.R_below (mo_ HO162.out) hb); replace BK156 := mk_ BK156 hb; replace HB := ms_ HB hb; (try clear hb); (try clear hb2); (try clear hk); (try clear hi); (try clear ho0); refine hK.out _ _ (bc8 BK156) fun hHeld => ?_
         clear hK K; refine nm_ 58 ?_; exact norm_ (by simp only [putAll, Act.put, ps_]) (hCont (v161, v164) _ ⟨hHeld, (mo_ HO162.out), (mo_ HO165.out), (mc_ BK156), (mb_ HB)⟩)
        ·skip; refine goes_ Try.func46 (by kernel_rfl) rfl #[] (by rfl) rfl rfl mw_ ?_; with_reducible refine (spec_l2Ariths.calls  t163 _ A33.out).mono ?_
         rintro e w83 ⟨v164, rfl, ho0, hb⟩; refine ⟨_, rfl, ?_⟩; have HO165 := a_ (Kd.R_lower ho0 (below_size (mb_ HB))); replace HO162 := a_ (Kd.R_below (mo_ HO162.out) hb); replace BK156 := mk_ BK156 hb; replace HB := ms_ HB hb; (try clear hb); (try clear hb2); (try clear hk); (try clear hi); (try clear ho0); refine hK.out _ _ (bc8 BK156) fun hHeld => ?_
         clear hK K; refine nm_ 58 ?_; refine one_ (i := 3) (N := some 57) ba2f_3 rfl rfl (one_of HT_.out (by kernel_rfl)) (by decide) (fun K hK => ?_); have hcv84 := own_string (P := Try.prog) Try.underlying98 Try.underlying5 Try.underlying9 (Kd.own_of_R HO162.out); refine value_ (w1 := ?_) (v := ?_) (by rfl) rfl ?_ ?_; rotate_left 2
         ·go_simp; constructor
          ·rfl
          ·rfl
         clear hcv84; refine hK.out _ _ (bc8 BK156) fun hHeld => ?_
         clear hK K; refine nm_ 57 ?_; exact norm_ (by simp only [putAll, Act.put, ps_]) (hCont (v161, v164) _ ⟨hHeld, (mo_ HO162.out), (mo_ HO165.out), (mc_ BK156), (mb_ HB)⟩)
       ·skip; refine goes_ Try.func46 (by kernel_rfl) rfl #[] (by rfl) rfl rfl mw_ ?_; with_reducible refine (spec_l2Ariths.calls  t163 _ A33.out).mono ?_
        rintro e w81 ⟨v164, rfl, ho0, hb⟩; refine ⟨_, rfl, ?_⟩; have HO165 := a_ (Kd.R_lower ho0 (below_size (mb_ HB))); replace BK156 := mk_ BK156 hb; replace HB := ms_ HB hb; (try clear hb); (try clear hb2); (try clear hk); (try clear hi); (try clear ho0); refine hK.out _ _ (bc8 BK156) fun hHeld => ?_
        clear hK K; refine nm_ 58 ?_; refine one_ (i := 2) (N := some 56) ba2f_7 rfl rfl (one_of HT_.out (by kernel_rfl)) (by decide) (fun K hK => ?_); refine Kd.R_lit_step (Kd.int .u8) _ 5 ?hg (N := 56) ?hd (xs := ([((rd_T72 l0 a1).f1)] : List Int)) (inner := [.int .u8 ((rd_T72 l0 a1).f1)]) (ok := fun _ => True) (okp := fun _ => True) ?hr ?hp (fun _ hk => hk) trivial (Below.refl _ _) (Nat.le_refl _) (by simp) ?_; (case hd => rfl); (case hg => rfl); (case hr => first | (go_simp; done) | (go_simp; rfl)); (case hp => exact (Reps.one (show Kd.M (Kd.int .u8) _ _ _ ((rd_T72 l0 a1).f1) [.int .u8 ((rd_T72 l0 a1).f1)] from rfl) (Reps.none _ _))); intro v161 w82 ho83 hb hg_ hnew_; clear hg_ hnew_; (first | rw [← Ny160.out] at ho83 | (simp only [Int.reduceToNat] at ho83; rw [← Ny160.out] at ho83)); have HO162 := a_ (Kd.R_lower ho83 (below_size (mb_ HB))); replace HO165 := a_ (Kd.R_below (mo_ HO165.out) hb); replace BK156 := mk_ BK156 hb; replace HB := ms_ HB hb; clear hb ho83; refine hK.out _ _ (bc8 BK156) fun hHeld => ?_
        clear hK K; refine nm_ 56 ?_; refine one_ (i := 3) (N := some 57) ba2f_3 rfl rfl (one_of HT_.out (by kernel_rfl)) (by decide) (fun K hK => ?_); have hcv84 := own_string (P := Try.prog) Try.underlying98 Try.underlying5 Try.underlying9 (Kd.own_of_R HO162.out); refine value_ (w1 := ?_) (v := ?_) (by rfl) rfl ?_ ?_; rotate_left 2
        ·go_simp; constructor
         ·rfl
         ·rfl
        clear hcv84; refine hK.out _ _ (bc8 BK156) fun hHeld => ?_
        clear hK K; refine nm_ 57 ?_; exact norm_ (by simp only [putAll, Act.put, ps_]) (hCont (v161, v164) _ ⟨hHeld, (mo_ HO162.out), (mo_ HO165.out), (mc_ BK156), (mb_ HB)⟩)
      rintro ⟨v161, v164⟩ w85 ⟨hS_, h0_, h1_, h2_, h3_⟩; have n0_ : Aside0 (Kd.R (Kd.int .u8) 5 w85 w.heap.size (fun _ => True) v161 y160) := ⟨h0_⟩
      have n1_ : Aside0 (Kd.R Kd.string 9 w85 w.heap.size (fun _ => True) v164 t163) := ⟨h1_⟩
      have n2_ : Aside0 (w85.heap[gb156]? = some (.cells #[.int .i64 ((rd_T72 l0 a1).f0), .int .u8 ((rd_T72 l0 a1).f1), .string ((rd_T72 l0 a1).f2), .int .i64 ((rd_T72 l0 a1).f3.f0), .int .i64 ((rd_T72 l0 a1).f3.f1), .string ((rd_T72 l0 a1).f3.f2), .int .i64 ((rd_T72 l0 a1).f4), .int .i64 ((rd_T72 l0 a1).f5)] 72 (0, 0))) := ⟨h2_⟩
      have n3_ : Aside0 (Below w.heap.size w w85) := ⟨h3_⟩
      clear BK156; clear HB; clear h0_ h1_ h2_ h3_; have HO162 := n0_; have HO165 := n1_; have BK156 := n2_; have HB := n3_; clear n0_ n1_ n2_ n3_; have hHeld : w85.cell? ⟨gb156, 0, none⟩ = some (.int .i64 ((rd_T72 l0 a1).f0)) ∧ w85.cell? ⟨gb156, 1, none⟩ = some (.int .u8 ((rd_T72 l0 a1).f1)) ∧ w85.cell? ⟨gb156, 2, none⟩ = some (.string ((rd_T72 l0 a1).f2)) ∧ w85.cell? ⟨gb156, 3, none⟩ = some (.int .i64 ((rd_T72 l0 a1).f3.f0)) ∧ w85.cell? ⟨gb156, 4, none⟩ = some (.int .i64 ((rd_T72 l0 a1).f3.f1)) ∧ w85.cell? ⟨gb156, 5, none⟩ = some (.string ((rd_T72 l0 a1).f3.f2)) ∧ w85.cell? ⟨gb156, 6, none⟩ = some (.int .i64 ((rd_T72 l0 a1).f4)) ∧ w85.cell? ⟨gb156, 7, none⟩ = some (.int .i64 ((rd_T72 l0 a1).f5)) := hS_
      obtain ⟨Ao86, co86, eo86⟩ := Kd.R_slice HO165.out; (first | subst eo86 | (injection eo86 with f1_ f2_ f3_; have f4_ := f1_.symm; have f5_ := f3_.symm; clear f1_ f2_ f3_; subst f4_; subst f5_)); refine norm_ (a' := ?_) ?_ ?_; rotate_left
      ·simp only [putAll, Act.put, ps_]; rfl
      refine one_ (i := 5) (N := some 59) ba2f_8 rfl rfl (one_of HT_.out (by kernel_rfl)) (by decide) (fun K hK => ?_); refine goes_ Try.func27 (by kernel_rfl) rfl #[.string (strOfNums y160), .slice Ao86 t163.length co86] (by rfl) rfl rfl mw_ ?_; with_reducible refine (spec_l2Is.calls kj4 (strOfNums y160) _ _ t163 false _ ?side1 ?side2 A34.out).mono ?_
      (case side1 => repeat (first | exact (Kd.R_reads' HO165.out).2.2 | (with_reducible refine Kd.C_alloc ?_ _) | (with_reducible refine Kd.C_drewN ?_ _) | (with_reducible refine Kd.C_drew ?_)))
      (case side2 => exact (Kd.R_reads' HO165.out).2.1)
      rintro e w' ⟨rfl, ⟨nd, rfl⟩⟩; refine ⟨_, rfl, ?_⟩; refine hK.out _ _ (bc8 BK156) fun hHeld => ?_
      clear hK K; refine nm_ 59 ?_; refine pu_ 6 60 ba2f_9 (any_of HT_.out (by kernel_rfl)) ?_; refine pu_ 7 61 ba2f_10 (any_of HT_.out (by kernel_rfl)) ?_; refine pv_ 8 62 ba2f_11 (any_of HT_.out (by kernel_rfl)) ?_; refine pv_ 9 63 ba2f_12 (any_of HT_.out (by kernel_rfl)) ?_; refine pv_ 10 64 ba2f_13 (any_of HT_.out (by kernel_rfl)) ?_; refine pu_ 11 65 ba2f_14 (any_of HT_.out (by kernel_rfl)) ?_; refine pu_ 12 66 ba2f_15 (any_of HT_.out (by kernel_rfl)) ?_; refine pv_ 13 67 ba2f_16 (any_of HT_.out (by kernel_rfl)) ?_; refine pv_ 14 68 ba2f_17 (any_of HT_.out (by kernel_rfl)) ?_; refine pv_ 15 69 ba2f_18 (any_of HT_.out (by kernel_rfl)) ?_; refine pv_ 16 70 ba2f_19 (any_of HT_.out (by kernel_rfl)) ?_
      refine pu_ 17 71 ba2f_20 (any_of HT_.out (by kernel_rfl)) ?_; refine pu_ 18 72 ba2f_21 (any_of HT_.out (by kernel_rfl)) ?_; refine pv_ 19 73 ba2f_22 (any_of HT_.out (by kernel_rfl)) ?_; refine pv_ 20 74 ba2f_38 (any_of HT_.out (by kernel_rfl)) ?_; refine pv_ 21 75 ba2f_39 (any_of HT_.out (by kernel_rfl)) ?_; refine pv_ 22 76 ba2f_25 (any_of HT_.out (by kernel_rfl)) ?_; refine pv_ 23 77 ba2f_26 (any_of HT_.out (by kernel_rfl)) ?_; refine pu_ 24 78 ba2f_27 (any_of HT_.out (by kernel_rfl)) ?_; refine pu_ 25 79 ba2f_28 (any_of HT_.out (by kernel_rfl)) ?_; refine pv_ 26 80 ba2f_29 (any_of HT_.out (by kernel_rfl)) ?_; refine pv_ 27 81 ba2f_30 (any_of HT_.out (by kernel_rfl)) ?_
      refine pv_ 28 82 ba2f_31 (any_of HT_.out (by kernel_rfl)) ?_; refine pu_ 29 83 ba2f_32 (any_of HT_.out (by kernel_rfl)) ?_; refine pu_ 30 84 ba2f_33 (any_of HT_.out (by kernel_rfl)) ?_; refine pv_ 31 85 ba2f_34 (any_of HT_.out (by kernel_rfl)) ?_; refine pv_ 32 86 ba2f_35 (any_of HT_.out (by kernel_rfl)) ?_; refine pv_ 33 87 ba2f_36 (any_of HT_.out (by kernel_rfl)) ?_; refine pu_ 34 88 ba2f_37 (any_of HT_.out (by kernel_rfl)) ?_; refine done_ (done_of HT_.out (by kernel_rfl)) ?_; try go_wp2
      go_meet
      case rel => exact ⟨_, (true), mq_, H', ⟨by have := HJ4.out; first | omega | exact Nat.le_refl _⟩, ⟨mc_ BK156⟩, ⟨mb_ HB⟩⟩
    clear HC31; obtain ⟨kq, x88_30, rfl, HA, HJ30, BK156, HB⟩ := hcut; obtain _ | kj30 := kq
    ·exact absurd HA.out (by simp [spec_l2GoodExpr.j1])
    have H := HA.out; clear HA; simp only [spec_l2GoodExpr.j1] at H; by_cases c87 : x88_30 = true
    ·subst c87; rw [if_pos rfl] at H; obtain rfl := Option.some.inj H; go_wp2; go_ret; exact ⟨me_, mb_ HB⟩
    ·replace c87 := Bool.eq_false_iff.mpr c87; subst c87; rw [if_neg (show ¬ (false = true) by decide)] at H; replace H := Option.bind_eq_some_iff.mp H; obtain ⟨t168, A880, H⟩ := H; have A88 := a_ A880; clear A880; by_cases c89 : ((rd_T72 l0 a1).f4) = (wrap64 (t168 - 1))
     ·rw [if_pos c89] at H; have c89b0 := beq_iff_eq.mpr c89; have c89b1 := bne_eq_false_iff_eq.mpr c89; clear c89; replace H := Option.bind_eq_some_iff.mp H; obtain ⟨t169, A900, H⟩ := H; have A90 := a_ A900; clear A900; obtain rfl := Option.some.inj H; try go_wp2
      replace BK156 := a_ (blk_drew BK156.out); replace HB := a_ (below_drew1 HB.out); refine start_ (n := 15) (S := fun w' => w'.cell? ⟨gb156, 0, none⟩ = some (.int .i64 ((rd_T72 l0 a1).f0)) ∧ w'.cell? ⟨gb156, 1, none⟩ = some (.int .u8 ((rd_T72 l0 a1).f1)) ∧ w'.cell? ⟨gb156, 2, none⟩ = some (.string ((rd_T72 l0 a1).f2)) ∧ w'.cell? ⟨gb156, 3, none⟩ = some (.int .i64 ((rd_T72 l0 a1).f3.f0)) ∧ w'.cell? ⟨gb156, 4, none⟩ = some (.int .i64 ((rd_T72 l0 a1).f3.f1)) ∧ w'.cell? ⟨gb156, 5, none⟩ = some (.string ((rd_T72 l0 a1).f3.f2)) ∧ w'.cell? ⟨gb156, 6, none⟩ = some (.int .i64 ((rd_T72 l0 a1).f4)) ∧ w'.cell? ⟨gb156, 7, none⟩ = some (.int .i64 ((rd_T72 l0 a1).f5))) (ds := []) ba2f_40 (by kernel_rfl) rfl rfl ⟨(blk_cell BK156.out 0).trans rfl, (blk_cell BK156.out 1).trans rfl, (blk_cell BK156.out 2).trans rfl, (blk_cell BK156.out 3).trans rfl, (blk_cell BK156.out 4).trans rfl, (blk_cell BK156.out 5).trans rfl, (blk_cell BK156.out 6).trans rfl, (blk_cell BK156.out 7).trans rfl⟩ (fun hHeld => ?_); refine with_tabW spec_l2GoodExpr.tab11 spec_l2GoodExpr.bits11 (fun HT_ HW_ => ?_); generalize wc.drew = w91 at BK156 HB hHeld ⊢; refine pu_ 0 89 ba2f_41 (any_of HT_.out (by kernel_rfl)) ?_; refine pu_ 2 91 ba2f_42 (any_of HT_.out (by kernel_rfl)) ?_; refine pu_ 3 92 ba2f_43 (any_of HT_.out (by kernel_rfl)) ?_; refine take_ (i := 1) (N := some 90) (v := ?_) (a' := ?_) ba2f_44 rfl rfl (take_ofW HT_.out HW_.out (by kernel_rfl)) (fun _ _ _ h => h) (Or.inl ⟨by rfl, ?_⟩) hHeld ?_ ?_; rotate_left
      ·rintro w' ⟨s0, s1, s2, s3, s4, s5, s6, s7⟩; go_simp; with_reducible rfl
      rotate_left
      ·simp only [Act.put, ps_]; rfl
      refine take_ (i := 4) (N := some 93) (v := ?_) (a' := ?_) ba2f_45 rfl rfl (take_ofW HT_.out HW_.out (by kernel_rfl)) (fun _ _ _ h => h) (Or.inl ⟨by rfl, ?_⟩) hHeld ?_ ?_; rotate_left
      ·rintro w' ⟨s0, s1, s2, s3, s4, s5, s6, s7⟩; go_simp; with_reducible rfl
      rotate_left
      ·simp only [Act.put, ps_]; rfl
      refine one_ (i := 5) (N := some 94) ba2f_46 rfl rfl (one_of HT_.out (by kernel_rfl)) (by decide) (fun K hK => ?_); refine goes_ Try.func28 (by kernel_rfl) rfl #[.slice (some ad155) l0.length c0, .int .i64 ((rd_T72 l0 a1).f5)] (by rfl) rfl rfl mw_ ?_; with_reducible refine (spec_l2First.calls kj30 _ _ l0 ((rd_T72 l0 a1).f5) t168 _ ?side1 ?side2 A88.out).mono ?_
      (case side1 => repeat (first | exact (Kd.C_below HR0.out HB.out) | (with_reducible refine Kd.C_alloc ?_ _) | (with_reducible refine Kd.C_drewN ?_ _) | (with_reducible refine Kd.C_drew ?_)))
      (case side2 => exact HC0.out)
      rintro e w' ⟨rfl, ⟨nd, rfl⟩⟩; refine ⟨_, rfl, ?_⟩; refine hK.out _ _ (bc8 BK156) fun hHeld => ?_
      clear hK K; refine nm_ 94 ?_; refine pu_ 6 95 ba2f_47 (any_of HT_.out (by kernel_rfl)) ?_; refine pu_ 7 96 ba2f_48 (any_of HT_.out (by kernel_rfl)) ?_; refine pu_ 8 97 ba2f_49 (any_of HT_.out (by kernel_rfl)) ?_; refine pu_ 9 98 ba2f_50 (any_of HT_.out (by kernel_rfl)) ?_; refine pu_ 10 99 ba2f_51 (any_of HT_.out (by kernel_rfl)) ?_; refine one_ (i := 11) (N := some 100) ba2f_52 rfl rfl (one_of HT_.out (by kernel_rfl)) (by decide) (fun K hK => ?_); refine goes_ Try.func47 (by kernel_rfl) rfl #[.slice (some ad155) l0.length c0, .int .i64 a1] (by rfl) rfl rfl mw_ ?_; with_reducible refine (spec_l2Depth.calls kj30 _ _ l0 a1 t169 _ ?side1 ?side2 A90.out).mono ?_
      (case side1 => repeat (first | exact (Kd.C_below HR0.out (mb_ HB)) | (with_reducible refine Kd.C_alloc ?_ _) | (with_reducible refine Kd.C_drewN ?_ _) | (with_reducible refine Kd.C_drew ?_)))
      (case side2 => exact HC0.out)
      rintro e w' ⟨rfl, ⟨nd, rfl⟩⟩; refine ⟨_, rfl, ?_⟩; refine hK.out _ _ (bc8 BK156) fun hHeld => ?_
      clear hK K; refine nm_ 100 ?_; refine pu_ 12 101 ba2f_53 (any_of HT_.out (by kernel_rfl)) ?_; refine pu_ 13 102 ba2f_54 (any_of HT_.out (by kernel_rfl)) ?_; refine pu_ 14 4 ba2f_55 (any_of HT_.out (by kernel_rfl)) ?_; refine done_ (done_of HT_.out (by kernel_rfl)) ?_; try go_wp2
      go_ret; exact ⟨me_, mb_ HB⟩
     ·rw [if_neg c89] at H; have c89b0 := beq_eq_false_iff_ne.mpr c89; have c89b1 := bne_iff_ne.mpr c89; obtain rfl := Option.some.inj H; try go_wp2
      replace BK156 := a_ (blk_drew BK156.out); replace HB := a_ (below_drew1 HB.out); refine start_ (n := 15) (S := fun w' => w'.cell? ⟨gb156, 0, none⟩ = some (.int .i64 ((rd_T72 l0 a1).f0)) ∧ w'.cell? ⟨gb156, 1, none⟩ = some (.int .u8 ((rd_T72 l0 a1).f1)) ∧ w'.cell? ⟨gb156, 2, none⟩ = some (.string ((rd_T72 l0 a1).f2)) ∧ w'.cell? ⟨gb156, 3, none⟩ = some (.int .i64 ((rd_T72 l0 a1).f3.f0)) ∧ w'.cell? ⟨gb156, 4, none⟩ = some (.int .i64 ((rd_T72 l0 a1).f3.f1)) ∧ w'.cell? ⟨gb156, 5, none⟩ = some (.string ((rd_T72 l0 a1).f3.f2)) ∧ w'.cell? ⟨gb156, 6, none⟩ = some (.int .i64 ((rd_T72 l0 a1).f4)) ∧ w'.cell? ⟨gb156, 7, none⟩ = some (.int .i64 ((rd_T72 l0 a1).f5))) (ds := []) ba2f_40 (by kernel_rfl) rfl rfl ⟨(blk_cell BK156.out 0).trans rfl, (blk_cell BK156.out 1).trans rfl, (blk_cell BK156.out 2).trans rfl, (blk_cell BK156.out 3).trans rfl, (blk_cell BK156.out 4).trans rfl, (blk_cell BK156.out 5).trans rfl, (blk_cell BK156.out 6).trans rfl, (blk_cell BK156.out 7).trans rfl⟩ (fun hHeld => ?_); refine with_tabW spec_l2GoodExpr.tab11 spec_l2GoodExpr.bits11 (fun HT_ HW_ => ?_); generalize wc.drew = w92 at BK156 HB hHeld ⊢; refine pu_ 0 89 ba2f_41 (any_of HT_.out (by kernel_rfl)) ?_; refine pu_ 2 91 ba2f_42 (any_of HT_.out (by kernel_rfl)) ?_; refine pu_ 3 92 ba2f_43 (any_of HT_.out (by kernel_rfl)) ?_; refine take_ (i := 1) (N := some 90) (v := ?_) (a' := ?_) ba2f_44 rfl rfl (take_ofW HT_.out HW_.out (by kernel_rfl)) (fun _ _ _ h => h) (Or.inl ⟨by rfl, ?_⟩) hHeld ?_ ?_; rotate_left
      ·rintro w' ⟨s0, s1, s2, s3, s4, s5, s6, s7⟩; go_simp; with_reducible rfl
      rotate_left
      ·simp only [Act.put, ps_]; rfl
      refine take_ (i := 4) (N := some 93) (v := ?_) (a' := ?_) ba2f_45 rfl rfl (take_ofW HT_.out HW_.out (by kernel_rfl)) (fun _ _ _ h => h) (Or.inl ⟨by rfl, ?_⟩) hHeld ?_ ?_; rotate_left
      ·rintro w' ⟨s0, s1, s2, s3, s4, s5, s6, s7⟩; go_simp; with_reducible rfl
      rotate_left
      ·simp only [Act.put, ps_]; rfl
      refine one_ (i := 5) (N := some 94) ba2f_46 rfl rfl (one_of HT_.out (by kernel_rfl)) (by decide) (fun K hK => ?_); refine goes_ Try.func28 (by kernel_rfl) rfl #[.slice (some ad155) l0.length c0, .int .i64 ((rd_T72 l0 a1).f5)] (by rfl) rfl rfl mw_ ?_; with_reducible refine (spec_l2First.calls kj30 _ _ l0 ((rd_T72 l0 a1).f5) t168 _ ?side1 ?side2 A88.out).mono ?_
      (case side1 => repeat (first | exact (Kd.C_below HR0.out HB.out) | (with_reducible refine Kd.C_alloc ?_ _) | (with_reducible refine Kd.C_drewN ?_ _) | (with_reducible refine Kd.C_drew ?_)))
      (case side2 => exact HC0.out)
      rintro e w' ⟨rfl, ⟨nd, rfl⟩⟩; refine ⟨_, rfl, ?_⟩; refine hK.out _ _ (bc8 BK156) fun hHeld => ?_
      clear hK K; refine nm_ 94 ?_; refine pu_ 6 95 ba2f_47 (any_of HT_.out (by kernel_rfl)) ?_; refine pu_ 7 96 ba2f_48 (any_of HT_.out (by kernel_rfl)) ?_; refine pu_ 8 97 ba2f_49 (any_of HT_.out (by kernel_rfl)) ?_; refine pv_ 9 98 ba2f_50 (any_of HT_.out (by kernel_rfl)) ?_; refine pv_ 10 99 ba2f_51 (any_of HT_.out (by kernel_rfl)) ?_; refine pv_ 11 100 ba2f_52 (any_of HT_.out (by kernel_rfl)) ?_; refine pv_ 12 101 ba2f_53 (any_of HT_.out (by kernel_rfl)) ?_; refine pu_ 13 102 ba2f_54 (any_of HT_.out (by kernel_rfl)) ?_; refine pu_ 14 4 ba2f_55 (any_of HT_.out (by kernel_rfl)) ?_; refine done_ (done_of HT_.out (by kernel_rfl)) ?_; try go_wp2
      go_ret; exact ⟨me_, mb_ HB⟩
   ·rw [if_neg c30] at H; have c30b0 := beq_eq_false_iff_ne.mpr c30; have c30b1 := bne_iff_ne.mpr c30; obtain rfl := Option.some.inj H; obtain ⟨z93_0, z93_1, z93_2, z93_3, z93_4, z93_5, z93_6, z93_7, zf93_0, zf93_1, zf93_2, zf93_3, zf93_4, zf93_5, zf93_6, zf93_7⟩ := cz8 BK156; go_wp2; go_ret; exact ⟨me_, mb_ HB⟩
end Go.Proofs.Ytejjlkbbnhpbdaa.P
namespace Go.Proofs.YtejjlkbbnhpbdaaX
open Go.RowKit Go.Proofs.YtejjlkbbnhpbdaaW.PrintWords
set_option linter.unusedVariables false
set_option linter.unusedSimpArgs false
def bigN : Nat := 4611686018427387903
theorem le_of_bigN {n : Nat} (h : n ≤ bigN) : n ≤ 4611686018427387903 := h
def PredB (P : Program) (g : Nat) (lb : Array Value) {α : Type} (enc : α → Value) (p : α → Bool) (xs : List α) (w : World) : Prop :=
  ∀ (W : World) (x : α), x ∈ xs → Below w.heap.size w W → Calls P g (#[enc x] ++ lb) W fun e w' => e = .returned (.bool (p x)) ∧ Below W.heap.size W w'
def idxB {α : Type} (p : α → Bool) : List α → Int
  | [] => -1
  | x :: xs => if p x then 0 else (if idxB p xs < 0 then -1 else idxB p xs + 1)
theorem idxB_neg {α : Type} (p : α → Bool) (xs : List α) : idxB p xs = -1 ∨ 0 ≤ idxB p xs := by
  induction xs with
  | nil => exact .inl rfl
  | cons x xs ih =>
    simp only [idxB]
    split
    · exact .inr (by omega)
    · split
      · exact .inl rfl
      · exact .inr (by omega)
theorem idxB_miss {α : Type} (p : α → Bool) (xs : List α) (h : ∀ x, x ∈ xs → p x = false) : idxB p xs = -1 := by
  induction xs with
  | nil => rfl
  | cons x xs ih =>
    simp only [idxB]
    rw [h x List.mem_cons_self, ih (fun y hy => h y (List.mem_cons_of_mem _ hy))]
    simp
theorem idxB_hit {α : Type} (p : α → Bool) : ∀ (xs : List α) (k : Nat) (z : α), k < xs.length → p (xs.getD k z) = true → (∀ j, j < k → p (xs.getD j z) = false) → idxB p xs = k
  | [], k, z, hk, _, _ => absurd hk (by simp)
  | x :: xs, 0, z, _, hp, _ => by
    have : p x = true := hp
    simp [idxB, this]
  | x :: xs, k + 1, z, hk, hp, hm => by
    have h0 : p x = false := hm 0 (by omega)
    have ih := idxB_hit p xs k z (by simpa using hk) hp (fun j hj => hm (j + 1) (by omega))
    simp only [idxB, h0, ih]
    rw [if_neg (by simp), if_neg (by omega)]
    simp
theorem idxB_iff {α : Type} (p : α → Bool) (xs : List α) : idxB p xs ≥ 0 ↔ xs.any p = true := by
  induction xs with
  | nil => simp [idxB]
  | cons x xs ih =>
    rw [List.any_cons, idxB]
    by_cases hp : p x = true
    · rw [if_pos hp, hp]; simp
    · rw [if_neg hp, Bool.eq_false_iff.2 hp, Bool.false_or, ← ih]
      rcases idxB_neg p xs with h | h
      · rw [h]; simp
      · rw [if_neg (by omega)]
        omega
theorem idxB_any {α : Type} (p : α → Bool) (xs : List α) : decide (idxB p xs ≥ 0) = xs.any p := by
  rw [Bool.eq_iff_iff, decide_eq_true_iff]
  exact idxB_iff p xs
theorem getD_mem {α : Type} {xs : List α} {k : Nat} {z : α} (h : k < xs.length) : xs.getD k z ∈ xs := by
  rw [List.getD_eq_getElem?_getD, List.getElem?_eq_getElem h]
  exact List.getElem_mem h
theorem cellsBelow {W w1 : World} {n : Nat} (hb : Below n W w1) (h : n = W.heap.size) : (∀ b o, b < n → w1.cell? ⟨b, o, none⟩ = W.cell? ⟨b, o, none⟩) ∧ (∀ b o, b < n → w1.frozen? ⟨b, o, none⟩ = W.frozen? ⟨b, o, none⟩) := by
  subst h
  exact ⟨fun b o h => hb.cell (p := ⟨b, o, none⟩) h, fun b o h => hb.frozen (p := ⟨b, o, none⟩) h⟩
end Go.Proofs.YtejjlkbbnhpbdaaX
namespace Go.Proofs.YtejjlkbbnhpbdaaX
open Go Go.RowKit Go.Proofs.YtejjlkbbnhpbdaaW.PrintWords
set_option linter.unusedVariables false
set_option linter.unusedSimpArgs false
theorem blk_new1 (w : World) (o o' : Obj) : ((w.alloc o).alloc o').heap[w.heap.size + 1]? = some o' := by
  have h := blk_new (w.alloc o) o'
  rwa [show (w.alloc o).heap.size = w.heap.size + 1 by simp] at h
end Go.Proofs.YtejjlkbbnhpbdaaX
namespace Go.Proofs.Ytejjlkbbnhpbdaa.P
open Go.Proofs.YtejjlkbbnhpbdaaX
open Go.RowKit Go.Proofs.YtejjlkbbnhpbdaaW.PrintWords Go.Proofs.YtejjlkbbnhpbdaaW.PrintLast Go.Proofs.YtejjlkbbnhpbdaaW.PrintMore
attribute [local go_sem] max2_int min2_int max_two min_two max_three min_three max_four min_four
set_option linter.unusedVariables false
set_option linter.unusedSimpArgs false
open Go.Proofs.YtejjlkbbnhpbdaaX
def spec_l2GoodAct.g (k : Nat) (es : List S72) : List Int → Int → Option (Bool × Int)
 | [], n => some (true, n)
 | x :: xs, n => if 0 ≤ x ∧ x < (es.length : Int) then (spec_l2First.f k es x).bind fun t => if t = n then spec_l2GoodAct.g k es xs (wrap64 (x + 1)) else some (false, n) else some (false, n)
def spec_l2GoodAct.f (k : Nat) (es : List S72) (kd K : Int) (cls : ByteArray) (xs : List Int) (n : Int) : Option (Bool × Int) :=
 if kd = 1 then (if 6 < xs.length then some (false, n) else (spec_l2GoodCls.f k cls).bind fun g => if g = true then (if K = 0 then spec_l2GoodAct.g k es xs n else some (false, n)) else some (false, n)) else
 if kd = 2 then (if xs = [] then (if cls.toList = [] then (if K < -1000000 then some (false, n) else if 1000000 < K then some (false, n) else some (true, n)) else some (false, n)) else some (false, n)) else
 if kd = 3 then (if 6 < xs.length then some (false, n) else if cls.toList = [] then (if K < -1000000 then some (false, n) else if 1000000 < K then some (false, n) else spec_l2GoodAct.g k es xs n) else some (false, n)) else
 if kd = 4 then (if xs = [] then (if cls.toList = [] then (if K = 0 then some (true, n) else some (false, n)) else some (false, n)) else some (false, n)) else some (false, n)
theorem spec_l2GoodAct.mono_g : ∀ es xs n k, LeO (spec_l2GoodAct.g k es xs n) (spec_l2GoodAct.g (k + 1) es xs n)
 | es, [], n, k => LeO.refl _
 | es, x :: xs, n, k => by
  unfold spec_l2GoodAct.g
  exact LeO.ite (LeO.bind (spec_l2First.mono _ _ k) (fun t => LeO.ite (spec_l2GoodAct.mono_g _ _ _ k) (LeO.refl _))) (LeO.refl _)
theorem spec_l2GoodAct.mono : ∀ a0 a1 a2 a3 a4 a5 k, LeO (spec_l2GoodAct.f k a0 a1 a2 a3 a4 a5) (spec_l2GoodAct.f (k + 1) a0 a1 a2 a3 a4 a5) := by
 intro a0 a1 a2 a3 a4 a5 k; unfold spec_l2GoodAct.f
 exact LeO.ite (LeO.ite (LeO.refl _) (LeO.bind (spec_l2GoodCls.mono _ k) (fun _ => LeO.ite (LeO.ite (spec_l2GoodAct.mono_g _ _ _ k) (LeO.refl _)) (LeO.refl _)))) (LeO.ite (LeO.refl _) (LeO.ite (LeO.ite (LeO.refl _) (LeO.ite (LeO.ite (LeO.refl _) (LeO.ite (LeO.refl _) (spec_l2GoodAct.mono_g _ _ _ k))) (LeO.refl _))) (LeO.refl _)))
theorem l2_ba {a : ByteArray} (h : a.toList = []) : a = ⟨#[]⟩ := by
 rw [ByteArray.toList_eq] at h; cases a with | mk x =>
 exact congrArg ByteArray.mk (Array.toList_eq_nil_iff.1 h)
theorem l2_g_cons (k : Nat) (es : List S72) (xs : List Int) (n : Int) (i : Nat) (h : i < xs.length) (p : Bool × Int) (hg : spec_l2GoodAct.g k es (xs.drop i) n = some p) : (if 0 ≤ rd xs (i : Int) ∧ rd xs (i : Int) < (es.length : Int) then (spec_l2First.f k es (rd xs (i : Int))).bind fun t => if t = n then spec_l2GoodAct.g k es (xs.drop (i + 1)) (wrap64 (rd xs (i : Int) + 1)) else some (false, n) else some (false, n)) = some p := by
 have e : rd xs (i : Int) = xs[i] := by
  unfold rd
  simp [h]
 rw [List.drop_eq_getElem_cons h] at hg; unfold spec_l2GoodAct.g at hg
 rw [e]; exact hg
set_option maxHeartbeats 8000000 in
set_option maxRecDepth 100000 in
theorem spec_l2GoodAct.calls (k : Nat) (nm : ByteArray) (sa : Int) (A2 : Option Addr) (n2 c2 : Nat) (A3 : Option Addr) (c3 : Nat) (es : List S72) (A4 : Option Addr) (n4 c4 : Nat) (kd K : Int) (cls : ByteArray) (B : Option Addr) (cB : Nat) (xs : List Int) (b : Nat) (n n' : Int) (r : Bool) (w0 w : World) (hB : Below w0.heap.size w0 w) (hr3 : Kd.C k72 w0 A3 es.length es) (hc3 : es.length ≤ c3) (hrx : Kd.C (Kd.int .i64) w0 B xs.length xs) (hbb : w.heap[b]? = some (.cells #[.int .i64 n] 3 (0, 0))) (hb0 : w0.heap.size ≤ b) (h : spec_l2GoodAct.f k es kd K cls xs n = some (r, n')) :
  Calls Try.prog 26 #[.agg #[.string nm, .int .i64 sa, .slice A2 n2 c2, .slice A3 es.length c3, .slice A4 n4 c4], .agg #[.int .i64 kd, .int .i64 K, .string cls, .slice B xs.length cB], .pointer (some ⟨b, 0, none⟩)] w fun e w' => e = .returned (.bool r) ∧ w'.heap[b]? = some (.cells #[.int .i64 n'] 3 (0, 0)) ∧ w.grownBy w' (some b) ∧ w.heap.size ≤ w'.heap.size := by
 have hu := Try.underlying42; have hu2 := Try.underlying46; have HB := a_ hB; have HR := a_ hr3; have HC := a_ hc3; have HX := a_ hrx; have HB0 := a_ hb0; have HBB := a_ (blk_alloc (blk_alloc hbb (.cells #[.string nm, .int .i64 sa, .slice A2 n2 c2, .slice A3 es.length c3, .slice A4 n4 c4] 42)) (.cells #[.int .i64 kd, .int .i64 K, .string cls, .slice B xs.length cB] 46)); have HG := a_ (World.grownBy_alloc w (.cells #[.string nm, .int .i64 sa, .slice A2 n2 c2, .slice A3 es.length c3, .slice A4 n4 c4] 42) (some b) |>.trans (World.grownBy_alloc _ (.cells #[.int .i64 kd, .int .i64 K, .string cls, .slice B xs.length cB] 46) (some b))); have BK := a_ (blk_alloc (blk_new w (.cells #[.string nm, .int .i64 sa, .slice A2 n2 c2, .slice A3 es.length c3, .slice A4 n4 c4] 42)) (.cells #[.int .i64 kd, .int .i64 K, .string cls, .slice B xs.length cB] 46)); have BA := a_ (blk_new1 w (.cells #[.string nm, .int .i64 sa, .slice A2 n2 c2, .slice A3 es.length c3, .slice A4 n4 c4] 42) (.cells #[.int .i64 kd, .int .i64 K, .string cls, .slice B xs.length cB] 46)); have HBW : Aside0 (b < w.heap.size) := ⟨lt_of_block hbb⟩
 have HXL : Aside0 (xs.length ≤ 9223372036854775807) := ⟨hrx.2.1⟩
 clear hB hr3 hc3 hrx hbb hb0; unfold spec_l2GoodAct.f at h
 by_cases k1 : kd = 1
 ·subst k1; rw [if_pos rfl] at h; by_cases c1 : 6 < xs.length
  ·rw [if_pos c1] at h; cases h; have q1 : decide ((6 : Int) < (xs.length : Int)) = true := decide_eq_true (by omega)
   clear c1; go_enter Try.func26, Try.ntmps26; go_wp2; go_ret; exact ⟨rfl, HBB.out, HG.out, HG.out.size⟩
  rw [if_neg c1] at h; have q1 : decide ((6 : Int) < (xs.length : Int)) = false := decide_eq_false (by omega)
  clear c1; obtain ⟨g, hg, h⟩ := Option.bind_eq_some_iff.1 h; have HGC := a_ hg; clear hg; cases g with
  | false =>
   rw [if_neg (by simp)] at h; cases h; go_enter Try.func26, Try.ntmps26; go_wp2_with (go_at_call 42; refine (spec_l2GoodCls.calls k cls false _ HGC.out).mono ?_; rintro e w1 ⟨rfl, hd⟩; have HBB1 := a_ (blk_below HBB.out hd.below); have BK1 := a_ (blk_below BK.out hd.below); have HG1 := a_ (HG.out.trans (grown_of_below hd.below (some b))); have BA1 := blk_below BA.out hd.below; have ha0 := (blk_cell BA1 0).trans rfl; have ha1 := (blk_cell BA1 1).trans rfl; have ha2 := (blk_cell BA1 2).trans rfl; have ha3 := (blk_cell BA1 3).trans rfl; simp only [List.getElem?_toArray, List.getElem?_cons_zero, List.getElem?_cons_succ] at ha0 ha1 ha2 ha3; clear hd BA1); go_ret; exact ⟨rfl, HBB1.out, HG1.out, HG1.out.size⟩
  | true =>
  rw [if_pos rfl] at h; by_cases c2 : K = 0
  ·subst c2; rw [if_pos rfl] at h; have HH : Aside0 (spec_l2GoodAct.g k es (xs.drop 0) n = some (r, n')) := ⟨h⟩
   clear h; go_enter Try.func26, Try.ntmps26; go_wp2_with (go_at_call 42; refine (spec_l2GoodCls.calls k cls true _ HGC.out).mono ?_; rintro e w1 ⟨rfl, hd⟩; have HBB1 := a_ (blk_below HBB.out hd.below); have BK1 := a_ (blk_below BK.out hd.below); have HG1 := a_ (HG.out.trans (grown_of_below hd.below (some b))); have BA1 := blk_below BA.out hd.below; have ha0 := (blk_cell BA1 0).trans rfl; have ha1 := (blk_cell BA1 1).trans rfl; have ha2 := (blk_cell BA1 2).trans rfl; have ha3 := (blk_cell BA1 3).trans rfl; simp only [List.getElem?_toArray, List.getElem?_cons_zero, List.getElem?_cons_succ] at ha0 ha1 ha2 ha3; clear hd BA1); go_loopg [90] xs.length (fun gg v90 wr => ∃ (i : Nat) (m : Int), i ≤ xs.length ∧ xs.length - i ≤ gg ∧ v90 = .int .i64 (i : Int) ∧ Aside0 (spec_l2GoodAct.g k es (xs.drop i) m = some (r, n')) ∧ Aside0 (wr.heap[b]? = some (.cells #[.int .i64 m] 3 (0, 0))) ∧ Aside0 (w.grownBy wr (some b)) ∧ Aside0 (wr.heap[w.heap.size]? = some (.cells #[.string nm, .int .i64 sa, .slice A2 n2 c2, .slice A3 es.length c3, .slice A4 n4 c4] 42 (0, 0))))
   case atStart => exact ⟨0, n, Nat.zero_le _, Nat.le_refl _, rfl, HH, HBB1, HG1, BK1⟩
   obtain ⟨i, m, hi, hgg, rfl, HH2, HB2, HG2, BK2⟩ := hrel; have HBW2 : Aside0 (Below w0.heap.size w0 wr) := ⟨HB.out.grown HG2.out HB.out.size (by intro q e; injection e with e; have := HB0.out; omega)⟩
   by_cases hlt : i < xs.length
   ·have hz : (i : Int) < (xs.length : Int) := by omega
    have hz0 : (0 : Int) ≤ (i : Int) := by omega
    obtain ⟨ad, eA, hx⟩ := Kd.at_int HX.out (i : Int) hz0 hz; subst eA; replace hx := (HBW2.out.cell (World.block_lt_of_cell? w0 _ hx)).trans hx; have hstep := l2_g_cons k es xs m i hlt _ HH2.out; have hb0 := cell_of_one HB2.out; have hbf := free_of_one HB2.out; have hy3 := (blk_cell BK2.out 3).trans rfl; simp only [List.getElem?_toArray, List.getElem?_cons_zero, List.getElem?_cons_succ] at hy3; have hnext : IntKind.i64.wrap ((i : Int) + 1) = (i : Int) + 1 := IntWalk.i64_in _ (by have := HXL.out; omega)
    have HN := a_ hnext; simp only [Int.toNat_natCast] at hx; generalize rd xs (i : Int) = x at *; clear hnext; by_cases d1 : x < 0
    ·rw [if_neg (by omega)] at hstep; cases hstep; have q1 : decide (x < 0) = true := decide_eq_true d1
     clear d1; go_wp2; go_quiet (fail)
     go_wp2; go_ret; exact ⟨rfl, blk_drewN HB2.out _, HG2.out.trans (grown_of_below (pw_below_drewN (Below.refl _ _) _) _), HG2.out.size⟩
    by_cases d2 : (es.length : Int) ≤ x
    ·rw [if_neg (by omega)] at hstep; cases hstep; have q1 : decide (x < 0) = false := decide_eq_false d1
     have q2 : decide ((es.length : Int) ≤ x) = true := decide_eq_true d2
     clear d1 d2; go_wp2; go_quiet (fail)
     go_wp2; go_ret; exact ⟨rfl, blk_drewN HB2.out _, HG2.out.trans (grown_of_below (pw_below_drewN (Below.refl _ _) _) _), HG2.out.size⟩
    rw [if_pos (by omega)] at hstep; obtain ⟨t, ht, hs2⟩ := Option.bind_eq_some_iff.1 hstep; have HT := a_ ht; clear ht hstep; have q1 : decide (x < 0) = false := decide_eq_false d1
    have q2 : decide ((es.length : Int) ≤ x) = false := decide_eq_false d2
    clear d1 d2; by_cases d3 : t = m
    ·rw [if_pos d3] at hs2; subst d3; have HS2 := a_ hs2; clear hs2; go_wp2; go_quiet ((go_at_call 28; refine (spec_l2First.calls k A3 c3 es x t _ (Kd.C_below HR.out (by repeat (first | exact HBW2.out | apply below_drew | apply pw_below_drewN))) HC.out HT.out).mono ?_; rintro e w4 ⟨rfl, ⟨nd, rfl⟩⟩; (try first | exact ⟨rfl, _, World.drewN_drewN _ _ _⟩ | exact ⟨rfl, _, Eq.trans (World.drewN_drewN _ _ _) (congrArg (World.drewN _) (Nat.add_assoc _ _ _))⟩)))
     generalize hq : wr.drewN nq = wq; have HB4 := a_ (blk_at hq HB2.out); have BK4 := a_ (blk_at hq BK2.out); have HG4 : Aside0 (w.grownBy wq (some b)) := ⟨by subst hq; exact HG2.out.trans (grown_of_below (pw_below_drewN (Below.refl _ _) _) _)⟩
     clear hq hb0 hbf hy3 hx; have hb4 := cell_of_one HB4.out; have hbf4 := free_of_one HB4.out; go_wp2; go_roundg (xs.length - (i + 1))
     case measure => omega
     case rel =>
      exact ⟨i + 1, _, by omega, by omega, by rw [show wrap64 ((i : Int) + 1) = ((i + 1 : Nat) : Int) by unfold wrap64; have := HXL.out; omega], HS2, ⟨one_setCell HB4.out⟩, ⟨HG4.out.trans (grownBy_setCell' _ _ _)⟩, ⟨(Below.heap_setCell _ _ _ _ (by have := HBW.out; show w.heap.size ≠ b; omega)).trans BK4.out⟩⟩
    ·rw [if_neg d3] at hs2; cases hs2; have q3 : (t == n') = false := by simpa using d3
     have q4 : (t != n') = true := by simpa using d3
     clear d3; go_wp2; go_quiet ((go_at_call 28; refine (spec_l2First.calls k A3 c3 es x t _ (Kd.C_below HR.out (by repeat (first | exact HBW2.out | apply below_drew | apply pw_below_drewN))) HC.out HT.out).mono ?_; rintro e w4 ⟨rfl, ⟨nd, rfl⟩⟩; (try first | exact ⟨rfl, _, World.drewN_drewN _ _ _⟩ | exact ⟨rfl, _, Eq.trans (World.drewN_drewN _ _ _) (congrArg (World.drewN _) (Nat.add_assoc _ _ _))⟩)))
     go_wp2; go_ret; exact ⟨rfl, blk_drewN HB2.out _, HG2.out.trans (grown_of_below (pw_below_drewN (Below.refl _ _) _) _), HG2.out.size⟩
   ·have hil : i = xs.length := by omega
    subst hil; have e0 := HH2.out; rw [List.drop_length] at e0; unfold spec_l2GoodAct.g at e0
    cases e0; clear HH2; go_wp2; go_ret; exact ⟨rfl, HB2.out, HG2.out, HG2.out.size⟩
  ·rw [if_neg c2] at h; cases h; have q3 : (K == 0) = false := by simpa using c2
   have q4 : (K != 0) = true := by simpa using c2
   clear c2; go_enter Try.func26, Try.ntmps26; go_wp2_with (go_at_call 42; refine (spec_l2GoodCls.calls k cls true _ HGC.out).mono ?_; rintro e w1 ⟨rfl, hd⟩; have HBB1 := a_ (blk_below HBB.out hd.below); have BK1 := a_ (blk_below BK.out hd.below); have HG1 := a_ (HG.out.trans (grown_of_below hd.below (some b))); have BA1 := blk_below BA.out hd.below; have ha0 := (blk_cell BA1 0).trans rfl; have ha1 := (blk_cell BA1 1).trans rfl; have ha2 := (blk_cell BA1 2).trans rfl; have ha3 := (blk_cell BA1 3).trans rfl; simp only [List.getElem?_toArray, List.getElem?_cons_zero, List.getElem?_cons_succ] at ha0 ha1 ha2 ha3; clear hd BA1); go_ret; exact ⟨rfl, HBB1.out, HG1.out, HG1.out.size⟩
 by_cases k2 : kd = 2
 ·subst k2; clear k1; rw [if_neg (by decide), if_pos rfl] at h; by_cases c1 : xs = []
  ·subst c1; rw [if_pos rfl] at h; by_cases c2 : cls.toList = []
   ·rw [if_pos c2] at h; have c3 : cls = ⟨#[]⟩ := l2_ba c2
    subst c3; clear c2; by_cases c4 : K < -1000000
    ·rw [if_pos c4] at h; cases h; have q4 : decide (K < -1000000) = true := decide_eq_true c4
     clear c4; go_enter Try.func26, Try.ntmps26; go_wp2; go_ret; exact ⟨rfl, HBB.out, HG.out, HG.out.size⟩
    rw [if_neg c4] at h; have q4 : decide (K < -1000000) = false := decide_eq_false c4
    clear c4; by_cases c5 : 1000000 < K
    ·rw [if_pos c5] at h; cases h; have q5 : decide (1000000 < K) = true := decide_eq_true c5
     clear c5; go_enter Try.func26, Try.ntmps26; go_wp2; go_ret; exact ⟨rfl, HBB.out, HG.out, HG.out.size⟩
    rw [if_neg c5] at h; have q5 : decide (1000000 < K) = false := decide_eq_false c5
    clear c5; cases h; go_enter Try.func26, Try.ntmps26; go_wp2; go_loopg [90] 0 (fun gg v90 wr => v90 = .int .i64 0 ∧ Aside0 (wr.heap[b]? = some (.cells #[.int .i64 n] 3 (0, 0))) ∧ Aside0 (w.grownBy wr (some b)))
    case atStart => exact ⟨rfl, HBB, HG⟩
    obtain ⟨rfl, HB2, HG2⟩ := hrel; go_wp2; go_ret; exact ⟨rfl, HB2.out, HG2.out, HG2.out.size⟩
   ·rw [if_neg c2] at h; cases h; have s1 : (cls.toList == ([] : List UInt8)) = false := beq_eq_false_iff_ne.mpr c2
    have s2 : (cls.toList != ([] : List UInt8)) = true := bne_iff_ne.mpr c2
    have s3 : cls.toList.isEmpty = false := by simpa using c2
    clear c2; go_enter Try.func26, Try.ntmps26; go_wp2; go_ret; exact ⟨rfl, HBB.out, HG.out, HG.out.size⟩
  ·rw [if_neg c1] at h; cases h; have c3 : 0 < xs.length := by cases xs with | nil => exact absurd rfl c1 | cons a l => simp
   have q2 : decide ((0 : Int) < (xs.length : Int)) = true := decide_eq_true (by omega)
   have q3 : decide (0 < xs.length) = true := decide_eq_true c3
   clear c1 c3; by_cases c4 : 6 < xs.length
   ·have q1 : decide ((6 : Int) < (xs.length : Int)) = true := decide_eq_true (by omega)
    clear c4; go_enter Try.func26, Try.ntmps26; go_wp2; go_ret; exact ⟨rfl, HBB.out, HG.out, HG.out.size⟩
   ·have q1 : decide ((6 : Int) < (xs.length : Int)) = false := decide_eq_false (by omega)
    clear c4; go_enter Try.func26, Try.ntmps26; go_wp2; go_ret; exact ⟨rfl, HBB.out, HG.out, HG.out.size⟩
 by_cases k3 : kd = 3
 ·subst k3; clear k1 k2; rw [if_neg (by decide), if_neg (by decide), if_pos rfl] at h; by_cases c1 : 6 < xs.length
  ·rw [if_pos c1] at h; cases h; have q1 : decide ((6 : Int) < (xs.length : Int)) = true := decide_eq_true (by omega)
   clear c1; go_enter Try.func26, Try.ntmps26; go_wp2; go_ret; exact ⟨rfl, HBB.out, HG.out, HG.out.size⟩
  rw [if_neg c1] at h; have q1 : decide ((6 : Int) < (xs.length : Int)) = false := decide_eq_false (by omega)
  clear c1; by_cases c2 : cls.toList = []
  ·rw [if_pos c2] at h; have c3 : cls = ⟨#[]⟩ := l2_ba c2
   subst c3; clear c2; by_cases c4 : K < -1000000
   ·rw [if_pos c4] at h; cases h; have q4 : decide (K < -1000000) = true := decide_eq_true c4
    clear c4; go_enter Try.func26, Try.ntmps26; go_wp2; go_ret; exact ⟨rfl, HBB.out, HG.out, HG.out.size⟩
   rw [if_neg c4] at h; have q4 : decide (K < -1000000) = false := decide_eq_false c4
   clear c4; by_cases c5 : 1000000 < K
   ·rw [if_pos c5] at h; cases h; have q5 : decide (1000000 < K) = true := decide_eq_true c5
    clear c5; go_enter Try.func26, Try.ntmps26; go_wp2; go_ret; exact ⟨rfl, HBB.out, HG.out, HG.out.size⟩
   rw [if_neg c5] at h; have q5 : decide (1000000 < K) = false := decide_eq_false c5
   clear c5; have HH : Aside0 (spec_l2GoodAct.g k es (xs.drop 0) n = some (r, n')) := ⟨h⟩
   clear h; go_enter Try.func26, Try.ntmps26; go_wp2; go_loopg [90] xs.length (fun gg v90 wr => ∃ (i : Nat) (m : Int), i ≤ xs.length ∧ xs.length - i ≤ gg ∧ v90 = .int .i64 (i : Int) ∧ Aside0 (spec_l2GoodAct.g k es (xs.drop i) m = some (r, n')) ∧ Aside0 (wr.heap[b]? = some (.cells #[.int .i64 m] 3 (0, 0))) ∧ Aside0 (w.grownBy wr (some b)) ∧ Aside0 (wr.heap[w.heap.size]? = some (.cells #[.string nm, .int .i64 sa, .slice A2 n2 c2, .slice A3 es.length c3, .slice A4 n4 c4] 42 (0, 0))))
   case atStart => exact ⟨0, n, Nat.zero_le _, Nat.le_refl _, rfl, HH, HBB, HG, BK⟩
   obtain ⟨i, m, hi, hgg, rfl, HH2, HB2, HG2, BK2⟩ := hrel; have HBW2 : Aside0 (Below w0.heap.size w0 wr) := ⟨HB.out.grown HG2.out HB.out.size (by intro q e; injection e with e; have := HB0.out; omega)⟩
   by_cases hlt : i < xs.length
   ·have hz : (i : Int) < (xs.length : Int) := by omega
    have hz0 : (0 : Int) ≤ (i : Int) := by omega
    obtain ⟨ad, eA, hx⟩ := Kd.at_int HX.out (i : Int) hz0 hz; subst eA; replace hx := (HBW2.out.cell (World.block_lt_of_cell? w0 _ hx)).trans hx; have hstep := l2_g_cons k es xs m i hlt _ HH2.out; have hb0 := cell_of_one HB2.out; have hbf := free_of_one HB2.out; have hy3 := (blk_cell BK2.out 3).trans rfl; simp only [List.getElem?_toArray, List.getElem?_cons_zero, List.getElem?_cons_succ] at hy3; have hnext : IntKind.i64.wrap ((i : Int) + 1) = (i : Int) + 1 := IntWalk.i64_in _ (by have := HXL.out; omega)
    have HN := a_ hnext; simp only [Int.toNat_natCast] at hx; generalize rd xs (i : Int) = x at *; clear hnext; by_cases d1 : x < 0
    ·rw [if_neg (by omega)] at hstep; cases hstep; have q1 : decide (x < 0) = true := decide_eq_true d1
     clear d1; go_wp2; go_quiet (fail)
     go_wp2; go_ret; exact ⟨rfl, blk_drewN HB2.out _, HG2.out.trans (grown_of_below (pw_below_drewN (Below.refl _ _) _) _), HG2.out.size⟩
    by_cases d2 : (es.length : Int) ≤ x
    ·rw [if_neg (by omega)] at hstep; cases hstep; have q1 : decide (x < 0) = false := decide_eq_false d1
     have q2 : decide ((es.length : Int) ≤ x) = true := decide_eq_true d2
     clear d1 d2; go_wp2; go_quiet (fail)
     go_wp2; go_ret; exact ⟨rfl, blk_drewN HB2.out _, HG2.out.trans (grown_of_below (pw_below_drewN (Below.refl _ _) _) _), HG2.out.size⟩
    rw [if_pos (by omega)] at hstep; obtain ⟨t, ht, hs2⟩ := Option.bind_eq_some_iff.1 hstep; have HT := a_ ht; clear ht hstep; have q1 : decide (x < 0) = false := decide_eq_false d1
    have q2 : decide ((es.length : Int) ≤ x) = false := decide_eq_false d2
    clear d1 d2; by_cases d3 : t = m
    ·rw [if_pos d3] at hs2; subst d3; have HS2 := a_ hs2; clear hs2; go_wp2; go_quiet ((go_at_call 28; refine (spec_l2First.calls k A3 c3 es x t _ (Kd.C_below HR.out (by repeat (first | exact HBW2.out | apply below_drew | apply pw_below_drewN))) HC.out HT.out).mono ?_; rintro e w4 ⟨rfl, ⟨nd, rfl⟩⟩; (try first | exact ⟨rfl, _, World.drewN_drewN _ _ _⟩ | exact ⟨rfl, _, Eq.trans (World.drewN_drewN _ _ _) (congrArg (World.drewN _) (Nat.add_assoc _ _ _))⟩)))
     generalize hq : wr.drewN nq = wq; have HB4 := a_ (blk_at hq HB2.out); have BK4 := a_ (blk_at hq BK2.out); have HG4 : Aside0 (w.grownBy wq (some b)) := ⟨by subst hq; exact HG2.out.trans (grown_of_below (pw_below_drewN (Below.refl _ _) _) _)⟩
     clear hq hb0 hbf hy3 hx; have hb4 := cell_of_one HB4.out; have hbf4 := free_of_one HB4.out; go_wp2; go_roundg (xs.length - (i + 1))
     case measure => omega
     case rel =>
      exact ⟨i + 1, _, by omega, by omega, by rw [show wrap64 ((i : Int) + 1) = ((i + 1 : Nat) : Int) by unfold wrap64; have := HXL.out; omega], HS2, ⟨one_setCell HB4.out⟩, ⟨HG4.out.trans (grownBy_setCell' _ _ _)⟩, ⟨(Below.heap_setCell _ _ _ _ (by have := HBW.out; show w.heap.size ≠ b; omega)).trans BK4.out⟩⟩
    ·rw [if_neg d3] at hs2; cases hs2; have q3 : (t == n') = false := by simpa using d3
     have q4 : (t != n') = true := by simpa using d3
     clear d3; go_wp2; go_quiet ((go_at_call 28; refine (spec_l2First.calls k A3 c3 es x t _ (Kd.C_below HR.out (by repeat (first | exact HBW2.out | apply below_drew | apply pw_below_drewN))) HC.out HT.out).mono ?_; rintro e w4 ⟨rfl, ⟨nd, rfl⟩⟩; (try first | exact ⟨rfl, _, World.drewN_drewN _ _ _⟩ | exact ⟨rfl, _, Eq.trans (World.drewN_drewN _ _ _) (congrArg (World.drewN _) (Nat.add_assoc _ _ _))⟩)))
     go_wp2; go_ret; exact ⟨rfl, blk_drewN HB2.out _, HG2.out.trans (grown_of_below (pw_below_drewN (Below.refl _ _) _) _), HG2.out.size⟩
   ·have hil : i = xs.length := by omega
    subst hil; have e0 := HH2.out; rw [List.drop_length] at e0; unfold spec_l2GoodAct.g at e0
    cases e0; clear HH2; go_wp2; go_ret; exact ⟨rfl, HB2.out, HG2.out, HG2.out.size⟩
  ·rw [if_neg c2] at h; cases h; have s1 : (cls.toList == ([] : List UInt8)) = false := beq_eq_false_iff_ne.mpr c2
   have s2 : (cls.toList != ([] : List UInt8)) = true := bne_iff_ne.mpr c2
   have s3 : cls.toList.isEmpty = false := by simpa using c2
   clear c2; go_enter Try.func26, Try.ntmps26; go_wp2; go_ret; exact ⟨rfl, HBB.out, HG.out, HG.out.size⟩
 by_cases k4 : kd = 4
 ·subst k4; clear k1 k2 k3; rw [if_neg (by decide), if_neg (by decide), if_neg (by decide), if_pos rfl] at h; by_cases c1 : xs = []
  ·subst c1; rw [if_pos rfl] at h; by_cases c2 : cls.toList = []
   ·rw [if_pos c2] at h; have c3 : cls = ⟨#[]⟩ := l2_ba c2
    subst c3; clear c2; by_cases c4 : K = 0
    ·subst c4; rw [if_pos rfl] at h; cases h; go_enter Try.func26, Try.ntmps26; go_wp2; go_loopg [90] 0 (fun gg v90 wr => v90 = .int .i64 0 ∧ Aside0 (wr.heap[b]? = some (.cells #[.int .i64 n] 3 (0, 0))) ∧ Aside0 (w.grownBy wr (some b)))
     case atStart => exact ⟨rfl, HBB, HG⟩
     obtain ⟨rfl, HB2, HG2⟩ := hrel; go_wp2; go_ret; exact ⟨rfl, HB2.out, HG2.out, HG2.out.size⟩
    ·rw [if_neg c4] at h; cases h; have q4 : (K == 0) = false := by simpa using c4
     have q5 : (K != 0) = true := by simpa using c4
     clear c4; go_enter Try.func26, Try.ntmps26; go_wp2; go_ret; exact ⟨rfl, HBB.out, HG.out, HG.out.size⟩
   ·rw [if_neg c2] at h; cases h; have s1 : (cls.toList == ([] : List UInt8)) = false := beq_eq_false_iff_ne.mpr c2
    have s2 : (cls.toList != ([] : List UInt8)) = true := bne_iff_ne.mpr c2
    have s3 : cls.toList.isEmpty = false := by simpa using c2
    clear c2; go_enter Try.func26, Try.ntmps26; go_wp2; go_ret; exact ⟨rfl, HBB.out, HG.out, HG.out.size⟩
  ·rw [if_neg c1] at h; cases h; have c3 : 0 < xs.length := by cases xs with | nil => exact absurd rfl c1 | cons a l => simp
   have q2 : decide ((0 : Int) < (xs.length : Int)) = true := decide_eq_true (by omega)
   have q3 : decide (0 < xs.length) = true := decide_eq_true c3
   clear c1 c3; by_cases c4 : 6 < xs.length
   ·have q1 : decide ((6 : Int) < (xs.length : Int)) = true := decide_eq_true (by omega)
    clear c4; go_enter Try.func26, Try.ntmps26; go_wp2; go_ret; exact ⟨rfl, HBB.out, HG.out, HG.out.size⟩
   ·have q1 : decide ((6 : Int) < (xs.length : Int)) = false := decide_eq_false (by omega)
    clear c4; go_enter Try.func26, Try.ntmps26; go_wp2; go_ret; exact ⟨rfl, HBB.out, HG.out, HG.out.size⟩
 rw [if_neg k1, if_neg k2, if_neg k3, if_neg k4] at h; cases h; have p1 : (kd == 1) = false := by simpa using k1
 have p2 : (kd == 2) = false := by simpa using k2
 have p3 : (kd == 3) = false := by simpa using k3
 by_cases c1 : kd < 1
 ·have q1 : decide (kd < 1) = true := decide_eq_true c1
  clear c1 k1 k2 k3 k4; go_enter Try.func26, Try.ntmps26; go_wp2; go_ret; exact ⟨rfl, HBB.out, HG.out, HG.out.size⟩
 ·have q1 : decide (kd < 1) = false := decide_eq_false c1
  have q2 : decide (4 < kd) = true := decide_eq_true (by omega)
  clear c1 k1 k2 k3 k4; go_enter Try.func26, Try.ntmps26; go_wp2; go_ret; exact ⟨rfl, HBB.out, HG.out, HG.out.size⟩
end Go.Proofs.Ytejjlkbbnhpbdaa.P
namespace Go.Proofs.Ytejjlkbbnhpbdaa.P
open Go.Proofs.YtejjlkbbnhpbdaaX
open Go.RowKit Go.Proofs.YtejjlkbbnhpbdaaW.PrintWords Go.Proofs.YtejjlkbbnhpbdaaW.PrintLast Go.Proofs.YtejjlkbbnhpbdaaW.PrintMore
attribute [local go_sem] max2_int min2_int max_two min_two max_three min_three max_four min_four
set_option linter.unusedVariables false
set_option linter.unusedSimpArgs false
open Go.Proofs.YtejjlkbbnhpbdaaX
def spec_l2Shape.p (k : Nat) : List S59 → Nat → Option Int
 | [], _ => some (-1)
 | p :: ps, i => (spec_l2GoodPat.f k p.f0 p.f1 p.f2).bind fun g => if g = true then spec_l2Shape.p k ps (i + 1) else some ((i : Int) + 1)
def spec_l2Shape.e (k : Nat) (es : List S72) : Nat → Nat → Option Int
 | 0, _ => some (-1)
 | m + 1, i => (spec_l2GoodExpr.f k es (i : Int)).bind fun g => if g = true then spec_l2Shape.e k es m (i + 1) else some ((i : Int) + 1)
def spec_l2Shape.a (k : Nat) (es : List S72) : List S46 → Nat → Int → Option (Int × Int)
 | [], _, n => some (-1, n)
 | a :: as_, i, n => (spec_l2GoodAct.f k es a.f0 a.f1 a.f2 a.f3 n).bind fun y => if y.1 = true then spec_l2Shape.a k es as_ (i + 1) y.2 else some ((i : Int) + 1, y.2)
def spec_l2Shape.f (k : Nat) (nm : ByteArray) (sa : Int) (ps : List S59) (es : List S72) (as_ : List S46) : Option Int :=
 (spec_l1GoodSym.f k nm).bind fun g => if g = true then (if 6 < ps.length then some 0 else if 8 < as_.length then some 0 else if 60 < es.length then some 0 else
  (spec_l2Shape.p k ps 0).bind fun p => if p = -1 then (spec_l2Shape.e k es es.length 0).bind fun e => if e = -1 then (spec_l2Shape.a k es as_ 0 0).bind fun a => if a.1 = -1 then (if a.2 = (es.length : Int) then some (-1) else some ((as_.length : Int) + 1)) else some a.1 else some e else some p) else some 0
theorem spec_l2Shape.mono_p : ∀ ps i k, LeO (spec_l2Shape.p k ps i) (spec_l2Shape.p (k + 1) ps i)
 | [], i, k => LeO.refl _
 | p :: ps, i, k => LeO.bind (spec_l2GoodPat.mono _ _ _ k) (fun _ => LeO.ite (spec_l2Shape.mono_p ps _ k) (LeO.refl _))
theorem spec_l2Shape.mono_e : ∀ es m i k, LeO (spec_l2Shape.e k es m i) (spec_l2Shape.e (k + 1) es m i)
 | es, 0, i, k => LeO.refl _
 | es, m + 1, i, k => LeO.bind (spec_l2GoodExpr.mono _ _ k) (fun _ => LeO.ite (spec_l2Shape.mono_e es m _ k) (LeO.refl _))
theorem spec_l2Shape.mono_a : ∀ es as_ i n k, LeO (spec_l2Shape.a k es as_ i n) (spec_l2Shape.a (k + 1) es as_ i n)
 | es, [], i, n, k => LeO.refl _
 | es, a :: as_, i, n, k => LeO.bind (spec_l2GoodAct.mono _ _ _ _ _ _ k) (fun _ => LeO.ite (spec_l2Shape.mono_a es as_ _ _ k) (LeO.refl _))
theorem spec_l2Shape.mono : ∀ a0 a1 a2 a3 a4 k, LeO (spec_l2Shape.f k a0 a1 a2 a3 a4) (spec_l2Shape.f (k + 1) a0 a1 a2 a3 a4) := by
 intro a0 a1 a2 a3 a4 k; unfold spec_l2Shape.f
 exact LeO.bind (spec_l1GoodSym.mono _ k) (fun _ => LeO.ite (LeO.ite (LeO.refl _) (LeO.ite (LeO.refl _) (LeO.ite (LeO.refl _) (LeO.bind (spec_l2Shape.mono_p _ _ k) (fun _ => LeO.ite (LeO.bind (spec_l2Shape.mono_e _ _ _ k) (fun _ => LeO.ite (LeO.bind (spec_l2Shape.mono_a _ _ _ _ k) (fun _ => LeO.refl _)) (LeO.refl _))) (LeO.refl _)))))) (LeO.refl _))
theorem l2_p_cons (k : Nat) (ps : List S59) (i : Nat) (h : i < ps.length) (p : Int) (hg : spec_l2Shape.p k (ps.drop i) i = some p) : ((spec_l2GoodPat.f k (rd_T59 ps (i : Int)).f0 (rd_T59 ps (i : Int)).f1 (rd_T59 ps (i : Int)).f2).bind fun g => if g = true then spec_l2Shape.p k (ps.drop (i + 1)) (i + 1) else some ((i : Int) + 1)) = some p := by
 have e : rd_T59 ps (i : Int) = ps[i] := by
  unfold rd_T59
  simp [h]
 rw [List.drop_eq_getElem_cons h] at hg; unfold spec_l2Shape.p at hg
 rw [e]; exact hg
theorem l2_a_cons (k : Nat) (es : List S72) (as_ : List S46) (i : Nat) (n : Int) (h : i < as_.length) (p : Int × Int) (hg : spec_l2Shape.a k es (as_.drop i) i n = some p) : ((spec_l2GoodAct.f k es (rd_T46 as_ (i : Int)).f0 (rd_T46 as_ (i : Int)).f1 (rd_T46 as_ (i : Int)).f2 (rd_T46 as_ (i : Int)).f3 n).bind fun y => if y.1 = true then spec_l2Shape.a k es (as_.drop (i + 1)) (i + 1) y.2 else some ((i : Int) + 1, y.2)) = some p := by
 have e : rd_T46 as_ (i : Int) = as_[i] := by
  unfold rd_T46
  simp [h]
 rw [List.drop_eq_getElem_cons h] at hg; unfold spec_l2Shape.a at hg
 rw [e]; exact hg
theorem l2_e_cons (k : Nat) (es : List S72) (m i : Nat) (h : i < m) (p : Int) (hg : spec_l2Shape.e k es (m - i) i = some p) : ((spec_l2GoodExpr.f k es (i : Int)).bind fun g => if g = true then spec_l2Shape.e k es (m - (i + 1)) (i + 1) else some ((i : Int) + 1)) = some p := by
 rw [show m - i = (m - (i + 1)) + 1 by omega] at hg; exact hg
set_option maxHeartbeats 8000000 in
set_option maxRecDepth 100000 in
theorem spec_l2Shape.walk (k : Nat) (nm : ByteArray) (sa : Int) (A2 : Option Addr) (c2 : Nat) (ps : List S59) (A3 : Option Addr) (c3 : Nat) (es : List S72) (A4 : Option Addr) (c4 : Nat) (as_ : List S46) (r : Int) (w : World) (hr2 : Kd.C k59 w A2 ps.length ps) (hr3 : Kd.C k72 w A3 es.length es) (hc3 : es.length ≤ c3) (hr4 : Kd.C k46 w A4 as_.length as_) (h : spec_l2Shape.f k nm sa ps es as_ = some r) :
  Calls Try.prog 11 #[.agg #[.string nm, .int .i64 sa, .slice A2 ps.length c2, .slice A3 es.length c3, .slice A4 as_.length c4]] w fun e w' => e = .returned (.int .i64 r) ∧ Below w.heap.size w w' := by
 have hu := Try.underlying42; have hu2 := Try.underlying46; have hu3 := Try.underlying59; have HB := a_ (below_alloc (Below.refl w.heap.size w) (.cells #[.string nm, .int .i64 sa, .slice A2 ps.length c2, .slice A3 es.length c3, .slice A4 as_.length c4] 42)); have BK := a_ (blk_new w (.cells #[.string nm, .int .i64 sa, .slice A2 ps.length c2, .slice A3 es.length c3, .slice A4 as_.length c4] 42)); have HR2 := a_ hr2; have HR3 := a_ hr3; have HC3 := a_ hc3; have HR4 := a_ hr4; clear hr2 hr3 hc3 hr4; unfold spec_l2Shape.f at h
 obtain ⟨g, hg, h⟩ := Option.bind_eq_some_iff.1 h; have HG := a_ hg; clear hg; cases g with
 | false =>
  rw [if_neg (by simp)] at h; cases h; go_enter Try.func11, Try.ntmps11; go_wp2_with (go_at_call 23; refine (spec_l1GoodSym.calls k nm false _ HG.out).mono ?_; rintro e w1 ⟨rfl, hd⟩; have HB1 : Aside0 (Below w.heap.size w w1) := ⟨below_step HB.out hd.below⟩; clear hd); go_ret; exact ⟨rfl, HB1.out⟩
 | true =>
 rw [if_pos rfl] at h; by_cases c1 : 6 < ps.length
 ·rw [if_pos c1] at h; cases h; have q1 : decide ((6 : Int) < (ps.length : Int)) = true := decide_eq_true (by omega)
  clear c1; go_enter Try.func11, Try.ntmps11; go_wp2_with (go_at_call 23; refine (spec_l1GoodSym.calls k nm true _ HG.out).mono ?_; rintro e w1 ⟨rfl, hd⟩; have HB1 : Aside0 (Below w.heap.size w w1) := ⟨below_step HB.out hd.below⟩; have BK1 := a_ (blk_below BK.out hd.below); have ha0 := (blk_cell BK1.out 0).trans rfl; have ha1 := (blk_cell BK1.out 1).trans rfl; have ha2 := (blk_cell BK1.out 2).trans rfl; have ha3 := (blk_cell BK1.out 3).trans rfl; have ha4 := (blk_cell BK1.out 4).trans rfl; simp only [List.getElem?_toArray, List.getElem?_cons_zero, List.getElem?_cons_succ] at ha0 ha1 ha2 ha3 ha4; clear hd); go_ret; exact ⟨rfl, HB1.out⟩
 rw [if_neg c1] at h; have q1 : decide ((6 : Int) < (ps.length : Int)) = false := decide_eq_false (by omega)
 by_cases c2 : 8 < as_.length
 ·rw [if_pos c2] at h; cases h; have q2 : decide ((8 : Int) < (as_.length : Int)) = true := decide_eq_true (by omega)
  clear c1 c2; go_enter Try.func11, Try.ntmps11; go_wp2_with (go_at_call 23; refine (spec_l1GoodSym.calls k nm true _ HG.out).mono ?_; rintro e w1 ⟨rfl, hd⟩; have HB1 : Aside0 (Below w.heap.size w w1) := ⟨below_step HB.out hd.below⟩; have BK1 := a_ (blk_below BK.out hd.below); have ha0 := (blk_cell BK1.out 0).trans rfl; have ha1 := (blk_cell BK1.out 1).trans rfl; have ha2 := (blk_cell BK1.out 2).trans rfl; have ha3 := (blk_cell BK1.out 3).trans rfl; have ha4 := (blk_cell BK1.out 4).trans rfl; simp only [List.getElem?_toArray, List.getElem?_cons_zero, List.getElem?_cons_succ] at ha0 ha1 ha2 ha3 ha4; clear hd); go_ret; exact ⟨rfl, HB1.out⟩
 rw [if_neg c2] at h; have q2 : decide ((8 : Int) < (as_.length : Int)) = false := decide_eq_false (by omega)
 by_cases c3 : 60 < es.length
 ·rw [if_pos c3] at h; cases h; have q3 : decide ((60 : Int) < (es.length : Int)) = true := decide_eq_true (by omega)
  clear c1 c2 c3; go_enter Try.func11, Try.ntmps11; go_wp2_with (go_at_call 23; refine (spec_l1GoodSym.calls k nm true _ HG.out).mono ?_; rintro e w1 ⟨rfl, hd⟩; have HB1 : Aside0 (Below w.heap.size w w1) := ⟨below_step HB.out hd.below⟩; have BK1 := a_ (blk_below BK.out hd.below); have ha0 := (blk_cell BK1.out 0).trans rfl; have ha1 := (blk_cell BK1.out 1).trans rfl; have ha2 := (blk_cell BK1.out 2).trans rfl; have ha3 := (blk_cell BK1.out 3).trans rfl; have ha4 := (blk_cell BK1.out 4).trans rfl; simp only [List.getElem?_toArray, List.getElem?_cons_zero, List.getElem?_cons_succ] at ha0 ha1 ha2 ha3 ha4; clear hd); go_ret; exact ⟨rfl, HB1.out⟩
 rw [if_neg c3] at h; have q3 : decide ((60 : Int) < (es.length : Int)) = false := decide_eq_false (by omega)
 have C1 : Aside0 (ps.length ≤ 6) := ⟨by omega⟩
 have C2 : Aside0 (as_.length ≤ 8) := ⟨by omega⟩
 have C3 : Aside0 (es.length ≤ 60) := ⟨by omega⟩
 clear c1 c2 c3; obtain ⟨p, hp, h⟩ := Option.bind_eq_some_iff.1 h; have HP := a_ hp; have HH := a_ h; clear hp h; go_enter Try.func11, Try.ntmps11; go_wp2_with (go_at_call 23; refine (spec_l1GoodSym.calls k nm true _ HG.out).mono ?_; rintro e w1 ⟨rfl, hd⟩; have HB1 : Aside0 (Below w.heap.size w w1) := ⟨below_step HB.out hd.below⟩; have BK1 := a_ (blk_below BK.out hd.below); have ha0 := (blk_cell BK1.out 0).trans rfl; have ha1 := (blk_cell BK1.out 1).trans rfl; have ha2 := (blk_cell BK1.out 2).trans rfl; have ha3 := (blk_cell BK1.out 3).trans rfl; have ha4 := (blk_cell BK1.out 4).trans rfl; simp only [List.getElem?_toArray, List.getElem?_cons_zero, List.getElem?_cons_succ] at ha0 ha1 ha2 ha3 ha4; clear hd); go_loopg [34] ps.length (fun gg v34 wr => ∃ i : Nat, i ≤ ps.length ∧ ps.length - i ≤ gg ∧ v34 = .int .i64 (i : Int) ∧ Aside0 (spec_l2Shape.p k (ps.drop i) i = some p) ∧ Aside0 (Below w.heap.size w wr) ∧ Aside0 (wr.heap[w.heap.size]? = some (.cells #[.string nm, .int .i64 sa, .slice A2 ps.length c2, .slice A3 es.length c3, .slice A4 as_.length c4] 42 (0, 0))))
 case atStart => exact ⟨0, Nat.zero_le _, Nat.le_refl _, rfl, HP, HB1, BK1⟩
 obtain ⟨i, hi, hgg, rfl, HP2, HB2, BK2⟩ := hrel; by_cases hlt : i < ps.length
 ·have hz : (i : Int) < (ps.length : Int) := by omega
  have hz0 : (0 : Int) ≤ (i : Int) := by omega
  obtain ⟨ad, A5, c5, e0, hx0, hx1, hx2, hl5, hC5⟩ := at_T59 HR2.out (i : Int) hz0 hz; cases e0; replace hx0 := (HB2.out.cell (World.block_lt_of_cell? w _ hx0)).trans hx0; replace hx1 := (HB2.out.cell (World.block_lt_of_cell? w _ hx1)).trans hx1; replace hx2 := (HB2.out.cell (World.block_lt_of_cell? w _ hx2)).trans hx2; simp only [Int.toNat_natCast] at hx0 hx1 hx2; have HC5 := a_ hC5; have HL5 := a_ hl5; clear hC5 hl5; have hst := l2_p_cons k ps i hlt p HP2.out; generalize rd_T59 ps (i : Int) = p5 at *; obtain ⟨g5, hg5, hst⟩ := Option.bind_eq_some_iff.1 hst; have HG5 := a_ hg5; clear hg5; cases g5 with
  | false =>
   rw [if_neg (by simp)] at hst; have hpi := Option.some.inj hst; have hrr := HH.out; rw [if_neg (by omega)] at hrr; have hr2 := Option.some.inj hrr; subst hr2; have HPI : Aside0 ((i : Int) + 1 = p) := ⟨hpi⟩
   clear hst hpi hrr; go_wp2_with (go_at_call 24; refine (spec_l2GoodPat.calls k p5.f0 p5.f1 A5 c5 p5.f2 false _ (Kd.C_below HC5.out (by repeat (first | exact HB2.out | apply below_alloc))) HL5.out HG5.out).mono ?_; rintro e w3 ⟨rfl, hd⟩; have HB3 : Aside0 (Below w.heap.size w w3) := ⟨below_step (by repeat (first | exact HB2.out | apply below_alloc)) hd⟩; have BK3 := a_ (blk_below (g := w.heap.size) (blk_alloc BK2.out _) hd); clear hd); go_ret; exact ⟨by rw [← HPI.out, show wrap64 ((i : Int) + 1) = (i : Int) + 1 by unfold wrap64; have := C1.out; omega]; rfl, HB3.out⟩
  | true =>
   rw [if_pos rfl] at hst; have HST := a_ hst; clear hst; go_wp2_with (go_at_call 24; refine (spec_l2GoodPat.calls k p5.f0 p5.f1 A5 c5 p5.f2 true _ (Kd.C_below HC5.out (by repeat (first | exact HB2.out | apply below_alloc))) HL5.out HG5.out).mono ?_; rintro e w3 ⟨rfl, hd⟩; have HB3 : Aside0 (Below w.heap.size w w3) := ⟨below_step (by repeat (first | exact HB2.out | apply below_alloc)) hd⟩; have BK3 := a_ (blk_below (g := w.heap.size) (blk_alloc BK2.out _) hd); clear hd); go_roundg (ps.length - (i + 1))
   case measure => omega
   case rel => exact ⟨i + 1, by omega, by omega, by rw [show wrap64 ((i : Int) + 1) = ((i + 1 : Nat) : Int) by unfold wrap64; have := C1.out; omega], HST, HB3, BK3⟩
 ·have hil : i = ps.length := by omega
  subst hil; have e0 := HP2.out; rw [List.drop_length] at e0; unfold spec_l2Shape.p at e0
  have e1 := Option.some.inj e0; subst e1; have h2 := HH.out; rw [if_pos rfl] at h2; obtain ⟨ee, he, h2⟩ := Option.bind_eq_some_iff.1 h2; have HE : Aside0 (spec_l2Shape.e k es (es.length - 0) 0 = some ee) := ⟨he⟩
  have HH2 := a_ h2; clear he h2 e0 HP2 HH HP; have ha0 := (blk_cell BK2.out 3).trans rfl; simp only [List.getElem?_toArray, List.getElem?_cons_zero, List.getElem?_cons_succ] at ha0; go_wp2; go_loopg [48] es.length (fun gg v48 wr => ∃ i : Nat, i ≤ es.length ∧ es.length - i ≤ gg ∧ v48 = .int .i64 (i : Int) ∧ Aside0 (spec_l2Shape.e k es (es.length - i) i = some ee) ∧ Aside0 (Below w.heap.size w wr) ∧ Aside0 (wr.heap[w.heap.size]? = some (.cells #[.string nm, .int .i64 sa, .slice A2 ps.length c2, .slice A3 es.length c3, .slice A4 as_.length c4] 42 (0, 0))))
  case atStart => exact ⟨0, Nat.zero_le _, Nat.le_refl _, rfl, HE, HB2, BK2⟩
  obtain ⟨i, hi, hgg, rfl, HE2, HB4, BK4⟩ := hrel; have hb0 := (blk_cell BK4.out 3).trans rfl; simp only [List.getElem?_toArray, List.getElem?_cons_zero, List.getElem?_cons_succ] at hb0; by_cases hlt : i < es.length
  ·have hz : (i : Int) < (es.length : Int) := by omega
   have hst := l2_e_cons k es es.length i hlt ee HE2.out; obtain ⟨g5, hg5, hst⟩ := Option.bind_eq_some_iff.1 hst; have HG5 := a_ hg5; clear hg5; cases g5 with
   | false =>
    rw [if_neg (by simp)] at hst; have hpi := Option.some.inj hst; have hrr := HH2.out; rw [if_neg (by omega)] at hrr; have hr2 := Option.some.inj hrr; subst hr2; have HPI : Aside0 ((i : Int) + 1 = ee) := ⟨hpi⟩
    clear hst hpi hrr; go_wp2_with (go_at_call 25; refine (spec_l2GoodExpr.calls k A3 c3 es (i : Int) false _ (Kd.C_below HR3.out (by repeat (first | exact HB4.out | apply below_alloc))) HC3.out HG5.out).mono ?_; rintro e w3 ⟨rfl, hd⟩; have HB5 : Aside0 (Below w.heap.size w w3) := ⟨below_step HB4.out hd⟩; have BK5 := a_ (blk_below (g := w.heap.size) BK4.out hd); clear hd); go_ret; exact ⟨by rw [← HPI.out, show wrap64 ((i : Int) + 1) = (i : Int) + 1 by unfold wrap64; have := C3.out; omega]; rfl, HB5.out⟩
   | true =>
    rw [if_pos rfl] at hst; have HST := a_ hst; clear hst; go_wp2_with (go_at_call 25; refine (spec_l2GoodExpr.calls k A3 c3 es (i : Int) true _ (Kd.C_below HR3.out (by repeat (first | exact HB4.out | apply below_alloc))) HC3.out HG5.out).mono ?_; rintro e w3 ⟨rfl, hd⟩; have HB5 : Aside0 (Below w.heap.size w w3) := ⟨below_step HB4.out hd⟩; have BK5 := a_ (blk_below (g := w.heap.size) BK4.out hd); clear hd); go_roundg (es.length - (i + 1))
    case measure => omega
    case rel => exact ⟨i + 1, by omega, by omega, by rw [show wrap64 ((i : Int) + 1) = ((i + 1 : Nat) : Int) by unfold wrap64; have := C3.out; omega], HST, HB5, BK5⟩
  ·have hil : i = es.length := by omega
   subst hil; have e0 := HE2.out; rw [Nat.sub_self] at e0; unfold spec_l2Shape.e at e0
   have e1 := Option.some.inj e0; subst e1; have h3 := HH2.out; rw [if_pos rfl] at h3; obtain ⟨aa, haa, h3⟩ := Option.bind_eq_some_iff.1 h3; have HA : Aside0 (spec_l2Shape.a k es (as_.drop 0) 0 0 = some aa) := ⟨haa⟩
   have HH3 := a_ h3; clear haa h3 e0 HE2 HH2 HE; have hb4 := (blk_cell BK4.out 4).trans rfl; simp only [List.getElem?_toArray, List.getElem?_cons_zero, List.getElem?_cons_succ] at hb4; obtain ⟨wq, hwq⟩ : ∃ x, x = wr := ⟨_, rfl⟩; subst hwq; have hs1 : w.heap.size + 1 ≤ wq.heap.size := lt_of_block BK4.out
   have HS1 := a_ hs1; have hb5 := (blk_cell (blk_alloc BK4.out (.cells #[.int .i64 0] 3)) 4).trans rfl; simp only [List.getElem?_toArray, List.getElem?_cons_zero, List.getElem?_cons_succ] at hb5; go_wp2; go_loopg [62] as_.length (fun gg v62 wr => ∃ (i : Nat) (m : Int), i ≤ as_.length ∧ as_.length - i ≤ gg ∧ v62 = .int .i64 (i : Int) ∧ Aside0 (spec_l2Shape.a k es (as_.drop i) i m = some aa) ∧ Aside0 (Below w.heap.size w wr) ∧ Aside0 (wr.heap[w.heap.size]? = some (.cells #[.string nm, .int .i64 sa, .slice A2 ps.length c2, .slice A3 es.length c3, .slice A4 as_.length c4] 42 (0, 0))) ∧ Aside0 (wr.heap[wq.heap.size]? = some (.cells #[.int .i64 m] 3 (0, 0))))
   case atStart => exact ⟨0, 0, Nat.zero_le _, Nat.le_refl _, rfl, HA, ⟨below_alloc HB4.out _⟩, ⟨blk_alloc BK4.out _⟩, ⟨blk_new wq _⟩⟩
   obtain ⟨i, m, hi, hgg, rfl, HA2, HB6, BK6, BN6⟩ := hrel; have hd0 := (blk_cell BK6.out 0).trans rfl; have hd1 := (blk_cell BK6.out 1).trans rfl; have hd2 := (blk_cell BK6.out 2).trans rfl; have hd3 := (blk_cell BK6.out 3).trans rfl; have hd4 := (blk_cell BK6.out 4).trans rfl; simp only [List.getElem?_toArray, List.getElem?_cons_zero, List.getElem?_cons_succ] at hd0 hd1 hd2 hd3 hd4; have hn6 := cell_of_one BN6.out; have hs6 : w.heap.size + 1 ≤ wr.heap.size := lt_of_block BK6.out
   have hs7 : wq.heap.size + 1 ≤ wr.heap.size := lt_of_block BN6.out
   by_cases hlt : i < as_.length
   ·have hz : (i : Int) < (as_.length : Int) := by omega
    have hz0 : (0 : Int) ≤ (i : Int) := by omega
    obtain ⟨ad, A7, c7, e0, hx0, hx1, hx2, hx3, hl7, hC7⟩ := at_T46 HR4.out (i : Int) hz0 hz; cases e0; replace hx0 := (HB6.out.cell (World.block_lt_of_cell? w _ hx0)).trans hx0; replace hx1 := (HB6.out.cell (World.block_lt_of_cell? w _ hx1)).trans hx1; replace hx2 := (HB6.out.cell (World.block_lt_of_cell? w _ hx2)).trans hx2; replace hx3 := (HB6.out.cell (World.block_lt_of_cell? w _ hx3)).trans hx3; simp only [Int.toNat_natCast] at hx0 hx1 hx2 hx3; have HC7 := a_ hC7; have hst := l2_a_cons k es as_ i m hlt aa HA2.out; clear hC7 hl7; generalize rd_T46 as_ (i : Int) = a7 at *; have BKA := blk_alloc BK6.out (.cells #[.int .i64 a7.f0, .int .i64 a7.f1, .string a7.f2, .slice A7 a7.f3.length c7] 46); have he0 := (blk_cell BKA 0).trans rfl; have he1 := (blk_cell BKA 1).trans rfl; have he2 := (blk_cell BKA 2).trans rfl; have he3 := (blk_cell BKA 3).trans rfl; have he4 := (blk_cell BKA 4).trans rfl; simp only [List.getElem?_toArray, List.getElem?_cons_zero, List.getElem?_cons_succ] at he0 he1 he2 he3 he4; clear BKA; obtain ⟨⟨g7, m7⟩, hg7, hst⟩ := Option.bind_eq_some_iff.1 hst; have HG7 := a_ hg7; clear hg7; cases g7 with
    | false =>
     rw [if_neg (by simp)] at hst; have hpi := Option.some.inj hst; have hrr := HH3.out; rw [← hpi, if_neg (by show ¬ ((i : Int) + 1 = -1); omega)] at hrr; have hr2 := Option.some.inj hrr; have HPI : Aside0 ((i : Int) + 1 = r) := ⟨hr2⟩
     clear hst hpi hrr hr2; go_wp2_with (go_at_call 26; refine (spec_l2GoodAct.calls k nm sa A2 ps.length c2 A3 c3 es (some ad) as_.length c4 a7.f0 a7.f1 a7.f2 A7 c7 a7.f3 wq.heap.size m m7 false w _ (below_alloc HB6.out _) HR3.out HC3.out HC7.out (blk_alloc BN6.out _) (Nat.le_of_succ_le HS1.out) HG7.out).mono ?_; rintro e w7 ⟨rfl, hbn, hgr, hsz⟩; have HB8 : Aside0 (Below w.heap.size w w7) := ⟨(below_alloc HB6.out _).grown hgr (below_alloc HB6.out _).size (by intro q e; injection e with e; have := HS1.out; omega)⟩; have BK8 := a_ ((hgr.block w.heap.size (lt_of_block (blk_alloc BK6.out _)) (by intro e; injection e with e; have := HS1.out; omega)).trans (blk_alloc BK6.out _)); have BN8 := a_ hbn; clear hbn hgr hsz); go_ret; exact ⟨by rw [← HPI.out, show wrap64 ((i : Int) + 1) = (i : Int) + 1 by unfold wrap64; have := C2.out; omega]; rfl, HB8.out⟩
    | true =>
     rw [if_pos rfl] at hst; have HST := a_ hst; clear hst; go_wp2_with (go_at_call 26; refine (spec_l2GoodAct.calls k nm sa A2 ps.length c2 A3 c3 es (some ad) as_.length c4 a7.f0 a7.f1 a7.f2 A7 c7 a7.f3 wq.heap.size m m7 true w _ (below_alloc HB6.out _) HR3.out HC3.out HC7.out (blk_alloc BN6.out _) (Nat.le_of_succ_le HS1.out) HG7.out).mono ?_; rintro e w7 ⟨rfl, hbn, hgr, hsz⟩; have HB8 : Aside0 (Below w.heap.size w w7) := ⟨(below_alloc HB6.out _).grown hgr (below_alloc HB6.out _).size (by intro q e; injection e with e; have := HS1.out; omega)⟩; have BK8 := a_ ((hgr.block w.heap.size (lt_of_block (blk_alloc BK6.out _)) (by intro e; injection e with e; have := HS1.out; omega)).trans (blk_alloc BK6.out _)); have BN8 := a_ hbn; clear hbn hgr hsz); go_roundg (as_.length - (i + 1))
     case measure => omega
     case rel => exact ⟨i + 1, m7, by omega, by omega, by rw [show wrap64 ((i : Int) + 1) = ((i + 1 : Nat) : Int) by unfold wrap64; have := C2.out; omega], HST, HB8, BK8, BN8⟩
   ·have hil : i = as_.length := by omega
    subst hil; have e0 := HA2.out; rw [List.drop_length] at e0; unfold spec_l2Shape.a at e0
    have e1 := Option.some.inj e0; subst e1; have h4 := HH3.out; rw [if_pos rfl] at h4; clear e0 HA2 HH3 HA; by_cases d1 : m = (es.length : Int)
    ·subst d1; rw [if_pos rfl] at h4; cases h4; go_wp2; go_ret; exact ⟨rfl, HB6.out⟩
    ·rw [if_neg d1] at h4; have h5 := Option.some.inj h4; subst h5; have q7 : (m == (es.length : Int)) = false := by simpa using d1
     have q8 : (m != (es.length : Int)) = true := by simpa using d1
     clear d1 h4; go_wp2; go_ret; exact ⟨by rw [show wrap64 ((as_.length : Int) + 1) = (as_.length : Int) + 1 by unfold wrap64; have := C2.out; omega]; rfl, HB6.out⟩
theorem spec_l2Shape.calls (k : Nat) (a0_0 : ByteArray) (a0_1 : Int) (A0_2 : Option Addr) (c0_2 : Nat) (l0_2 : List S59) (A0_3 : Option Addr) (c0_3 : Nat) (l0_3 : List S72) (A0_4 : Option Addr) (c0_4 : Nat) (l0_4 : List S46) (r : Int) (w : World) (hr0_2 : Kd.C k59 w A0_2 l0_2.length l0_2) (hc0_2 : l0_2.length ≤ c0_2) (hr0_3 : Kd.C k72 w A0_3 l0_3.length l0_3) (hc0_3 : l0_3.length ≤ c0_3) (hr0_4 : Kd.C k46 w A0_4 l0_4.length l0_4) (hc0_4 : l0_4.length ≤ c0_4) (h : spec_l2Shape.f k a0_0 a0_1 l0_2 l0_3 l0_4 = some r) :
  Calls Try.prog 11 #[.agg #[.string a0_0, .int .i64 a0_1, .slice A0_2 l0_2.length c0_2, .slice A0_3 l0_3.length c0_3, .slice A0_4 l0_4.length c0_4]] w fun e w' => e = .returned (.int .i64 r) ∧ Below w.heap.size w w' :=
 spec_l2Shape.walk k a0_0 a0_1 A0_2 c0_2 l0_2 A0_3 c0_3 l0_3 A0_4 c0_4 l0_4 r w hr0_2 hr0_3 hc0_3 hr0_4 h
end Go.Proofs.Ytejjlkbbnhpbdaa.P
namespace Go.Proofs.Ytejjlkbbnhpbdaa.P
open Go.Proofs.YtejjlkbbnhpbdaaX
open Go.RowKit Go.Proofs.YtejjlkbbnhpbdaaW.PrintWords Go.Proofs.YtejjlkbbnhpbdaaW.PrintLast Go.Proofs.YtejjlkbbnhpbdaaW.PrintMore
attribute [local go_sem] max2_int min2_int max_two min_two max_three min_three max_four min_four
set_option linter.unusedVariables false
set_option linter.unusedSimpArgs false
def spec_l2Positive.l0 : Nat → Int → List (S59) → Int → Int → Option (Int)
 | 0, _, _, _, _ => none
 | k + 1, x3, x7, x8, x9 => if x9 < x8 then (if 0 ≤ x9 then (if x9 < (x7.length : Int) then (if ((rd_T59 x7 x9).f0 = true) then (spec_l2Positive.l0 k x3 x7 x8 (wrap64 (x9 + 1))) else (spec_l2Positive.l0 k (wrap64 (x3 + 1)) x7 x8 (wrap64 (x9 + 1)))) else (none)) else (none)) else (some x3)
def spec_l2Positive.f (k : Nat) (a0_0 : ByteArray) (a0_1 : Int) (l0_2 : List (S59)) (l0_3 : List (S72)) (l0_4 : List (S46)) : Option (Int) := spec_l2Positive.l0 k 0 l0_2 (l0_2.length : Int) 0
theorem spec_l2Positive.mono_l : ∀ k, (∀ y0 y1 y2 y3, LeO (spec_l2Positive.l0 k y0 y1 y2 y3) (spec_l2Positive.l0 (k + 1) y0 y1 y2 y3))
 | 0 => fun _ _ _ _ r h => by simp [spec_l2Positive.l0] at h
 | k + 1 => by
  have ih0 := spec_l2Positive.mono_l k
  ·intro y0 y1 y2 y3; unfold spec_l2Positive.l0
   repeat' with_reducible first | apply ih0 | apply LeO.refl | apply LeO.none | refine LeO.ite ?_ ?_ | refine LeO.bind ?_ (fun _ => ?_)
theorem spec_l2Positive.mono : ∀ a0 a1 a2 a3 a4 k, LeO (spec_l2Positive.f k a0 a1 a2 a3 a4) (spec_l2Positive.f (k + 1) a0 a1 a2 a3 a4) := by
 intro a0 a1 a2 a3 a4 k; have ih0 := spec_l2Positive.mono_l k; unfold spec_l2Positive.f
 repeat' with_reducible first | apply ih0 | apply LeO.refl | apply LeO.none | refine LeO.ite ?_ ?_ | refine LeO.bind ?_ (fun _ => ?_)
set_option maxHeartbeats 8000000 in
set_option maxRecDepth 100000 in
theorem spec_l2Positive.calls (k : Nat) (a0_0 : ByteArray) (a0_1 : Int) (A0_2 : Option Addr) (c0_2 : Nat) (l0_2 : List (S59)) (A0_3 : Option Addr) (c0_3 : Nat) (l0_3 : List (S72)) (A0_4 : Option Addr) (c0_4 : Nat) (l0_4 : List (S46)) (r : Int) (w : World) (hr0_2 : Kd.C k59 w A0_2 l0_2.length l0_2) (hc0_2 : l0_2.length ≤ c0_2) (hr0_3 : Kd.C k72 w A0_3 l0_3.length l0_3) (hc0_3 : l0_3.length ≤ c0_3) (hr0_4 : Kd.C k46 w A0_4 l0_4.length l0_4) (hc0_4 : l0_4.length ≤ c0_4) (h : spec_l2Positive.f k a0_0 a0_1 l0_2 l0_3 l0_4 = some r) :
  Calls Try.prog 12 #[.agg #[.string a0_0, .int .i64 a0_1, .slice A0_2 l0_2.length c0_2, .slice A0_3 l0_3.length c0_3, .slice A0_4 l0_4.length c0_4]] w fun e w' => e = .returned (.int .i64 r) ∧ Below w.heap.size w w' := by
 have hu42 := Try.underlying42; have hu59 := Try.underlying59; have HR0_2 := a_ hr0_2; have HC0_2 := a_ hc0_2; clear hr0_2 hc0_2; have HR0_3 := a_ hr0_3; have HC0_3 := a_ hc0_3; clear hr0_3 hc0_3; have HR0_4 := a_ hr0_4; have HC0_4 := a_ hc0_4; clear hr0_4 hc0_4; have HB := a_ (Below.refl w.heap.size w); have H : (spec_l2Positive.l0 k 0 l0_2 (l0_2.length : Int) 0) = some r := h
 clear h; have H' := a_ H; clear H; go_enter Try.func12, Try.ntmps12; go_wp2_with (first | ((with_reducible refine gate_dst (N := 1) rfl ?_); refine bx_ 1 #[.string a0_0, .int .i64 a0_1, .slice A0_2 l0_2.length c0_2, .slice A0_3 l0_3.length c0_3, .slice A0_4 l0_4.length c0_4] 42 ?_; intro gb170 hg w2 hbox hb; have BK170 := a_ (hbox); have GE170 := mg_ HB hg; replace HB := ms_ HB hb; clear hb hbox hg; obtain ⟨z3_0, z3_1, z3_2, z3_3, z3_4, zf3_0, zf3_1, zf3_2, zf3_3, zf3_4⟩ := cz5 BK170)); go_loopg [3, 9] k (fun kq v3 v9 w' => ∃ (x3_1 : Int) (x9_1 : Int), v3 = .int .i64 x3_1 ∧ v9 = .int .i64 x9_1 ∧ Aside0 (spec_l2Positive.l0 kq x3_1 l0_2 (l0_2.length : Int) x9_1 = some r) ∧ Aside0 (kq ≤ k) ∧ Aside0 (w'.heap[gb170]? = some (.cells #[.string a0_0, .int .i64 a0_1, (.slice A0_2 l0_2.length c0_2), (.slice A0_3 l0_3.length c0_3), (.slice A0_4 l0_4.length c0_4)] 42 (0, 0))) ∧ Aside0 (Below w.heap.size w w'))
 case atStart => exact ⟨(0), (0), mq_, mq_, H', ⟨Nat.le_refl _⟩, ⟨mc_ BK170⟩, ⟨mb_ HB⟩⟩
 clear H'; (try clear z3_0 z3_1 z3_2 z3_3 z3_4 zf3_0 zf3_1 zf3_2 zf3_3 zf3_4); obtain ⟨x3_1, x9_1, rfl, rfl, HA, HK1, BK170, HB⟩ := hrel; obtain _ | k1 := gk
 ·exact absurd HA.out (by simp [spec_l2Positive.l0])
 have H := HA.out; clear HA; simp only [spec_l2Positive.l0] at H; by_cases c4 : x9_1 < (l0_2.length : Int)
 ·rw [if_pos c4] at H; have c4b0 := decide_eq_true c4; clear c4; by_cases c5 : 0 ≤ x9_1
  case neg => rw [if_neg c5] at H; cases H
  rw [if_pos c5] at H; have c5b0 := decide_eq_true c5; clear c5; by_cases c6 : x9_1 < (l0_2.length : Int)
  case neg => rw [if_neg c6] at H; cases H
  rw [if_pos c6] at H; have c6b0 := decide_eq_true c6; clear c6; obtain ⟨bq7, hbq7⟩ : ∃ b_ : Bool, b_ = ((rd_T59 l0_2 x9_1).f0) := ⟨_, rfl⟩; replace H : (if (bq7 = true) then (spec_l2Positive.l0 k1 x3_1 l0_2 (l0_2.length : Int) (wrap64 (x9_1 + 1))) else (spec_l2Positive.l0 k1 (wrap64 (x3_1 + 1)) l0_2 (l0_2.length : Int) (wrap64 (x9_1 + 1)))) = some r := by rw [← hbq7] at H; exact H
  have Nbq7 := a_ hbq7; clear hbq7; by_cases c8 : (bq7 = true)
  ·subst c8; rw [if_pos rfl] at H; have H' := a_ H; clear H; have p171 : 0 ≤ (x9_1 : Int) := md_
   have q171 : x9_1 < (l0_2.length : Int) := md_
   obtain ⟨ad171, A171_2, c171_2, e171, hx171_0, hx171_1, hx171_2, hl171_2, hi171_2⟩ := at_T59 HR0_2.out x9_1 p171 q171; (try rw [← Nbq7.out] at hx171_0); cases e171; replace hx171_0 := mx_ HB hx171_0; replace hx171_1 := mx_ HB hx171_1; replace hx171_2 := mx_ HB hx171_2; have HR171_2 := a_ hi171_2; have HC171_2 := a_ hl171_2; clear hi171_2 hl171_2; replace p171 := eq_true p171; replace q171 := eq_true q171; go_wp2_with (first | ((with_reducible refine gate_dst (N := 5) rfl ?_); refine bx_ 5 #[.bool false, .string (⟨#[]⟩ : ByteArray), .slice none 0 0] 59 ?_; intro gb172 hg w9 hbox hb; have BK172 := a_ (hbox); have GE172 := mg_ HB hg; have NB170_172 := ml_ BK170 hg; have NB172_170 := mr_ BK170 hg; replace BK170 := mk_ BK170 hb; replace HB := ms_ HB hb; clear hb hbox hg; have hnb10 := NB172_170.out; have hnc10 := NB170_172.out; obtain ⟨z11_0, z11_1, z11_2, zf11_0, zf11_1, zf11_2⟩ := cz3 BK172)); go_roundg k1
   case measure => have := HK1.out; omega
   case rel => exact ⟨(x3_1), (wrap64 (x9_1 + 1)), mq_, mq_, H', ⟨by have := HK1.out; omega⟩, ⟨mc_ BK170⟩, ⟨mb_ HB⟩⟩
  ·replace c8 := Bool.eq_false_iff.mpr c8; subst c8; rw [if_neg (show ¬ (false = true) by decide)] at H; have H' := a_ H; clear H; have p171 : 0 ≤ (x9_1 : Int) := md_
   have q171 : x9_1 < (l0_2.length : Int) := md_
   obtain ⟨ad171, A171_2, c171_2, e171, hx171_0, hx171_1, hx171_2, hl171_2, hi171_2⟩ := at_T59 HR0_2.out x9_1 p171 q171; (try rw [← Nbq7.out] at hx171_0); cases e171; replace hx171_0 := mx_ HB hx171_0; replace hx171_1 := mx_ HB hx171_1; replace hx171_2 := mx_ HB hx171_2; have HR171_2 := a_ hi171_2; have HC171_2 := a_ hl171_2; clear hi171_2 hl171_2; replace p171 := eq_true p171; replace q171 := eq_true q171; go_wp2_with (first | ((with_reducible refine gate_dst (N := 5) rfl ?_); refine bx_ 5 #[.bool false, .string (⟨#[]⟩ : ByteArray), .slice none 0 0] 59 ?_; intro gb172 hg w12 hbox hb; have BK172 := a_ (hbox); have GE172 := mg_ HB hg; have NB170_172 := ml_ BK170 hg; have NB172_170 := mr_ BK170 hg; replace BK170 := mk_ BK170 hb; replace HB := ms_ HB hb; clear hb hbox hg; have hnb13 := NB172_170.out; have hnc13 := NB170_172.out; obtain ⟨z14_0, z14_1, z14_2, zf14_0, zf14_1, zf14_2⟩ := cz3 BK172)); go_roundg k1
   case measure => have := HK1.out; omega
   case rel => exact ⟨(wrap64 (x3_1 + 1)), (wrap64 (x9_1 + 1)), mq_, mq_, H', ⟨by have := HK1.out; omega⟩, ⟨mc_ BK170⟩, ⟨mb_ HB⟩⟩
 ·rw [if_neg c4] at H; have c4b0 := decide_eq_false c4; clear c4; obtain rfl := Option.some.inj H; go_wp2; go_ret; exact ⟨me_, mb_ HB⟩
end Go.Proofs.Ytejjlkbbnhpbdaa.P
