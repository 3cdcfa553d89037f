import Derived.Test.YtoncacdehhmpaaaProg
import Derived.Below
import Derived.Deep.Draws
import Derived.Deep.AppendLies
import Derived.Maps.AppendAt
import Derived.OwnWalk
import Derived.Laws.BytesArg
import Derived.Laws.MakeOwn
import Derived.Laws.OwnMore
import Derived.Deep.OwnRows
import Derived.Tactics
import Derived.Lib.ConvBytes
import Derived.Laws.Slices
import Derived.WalkKit
import Derived.KernelRfl
import Derived.RowKit3
import Derived.Deep.LoopGhost
import Derived.Deep.QuietTactic
import Derived.BigQuiet
import Derived.WideLaws
import Derived.Deep.DeepCutAuto
import Derived.Deep.CutBlock
import Derived.Deep.RegionHeld3
import Derived.Laws.Rows
import Derived.Lib.AppendStr
import Derived.ArgAppend
import Derived.Laws.IdiomCopy
import Derived.OrdersHeld
import Derived.Laws.BitsLemmas
import Derived.RowKit
import Derived.Shelf.Small.Bits
import Derived.Shelf.Small.Strs
import Derived.Shelf.Small.Wraps
import Derived.Shelf.Strconv.Itoa0
import Derived.Shelf.Strings.Search1
import Derived.Shelf.Sort.Plain
import Derived.Shelf.Slices.Reverse
import Derived.Ground.Names2Prog
import Derived.Shelf.Slices.Clone
import Derived.Shelf.Slices.SearchI
import Derived.Shelf.Slices.Cells
import Derived.Shelf.Slices.In.SortNone
import Derived.Ground.SlgnProg
import Derived.Shelf.SlicesE.Clone
import Derived.Sort.OwnSortedInts
import Derived.Lib.OwnBridge
import Derived.Test.YtoncacdehhmpaaaQRc1
namespace Go.Proofs.Ytoncacdehhmpaaa.P
open Go.RowKit Go.Proofs.YtoncacdehhmpaaaW.PrintWords Go.Proofs.YtoncacdehhmpaaaW.PrintLast Go.Proofs.YtoncacdehhmpaaaW.PrintMore
attribute [local go_sem] max2_int min2_int max_two min_two max_three min_three max_four min_four
set_option linter.unusedVariables false
set_option linter.unusedSimpArgs false
def errW : Option Int → Value
  | none => .nilIface
  | some c => .iface 0 (.int .i64 c)
theorem errW_none : errW none = .nilIface := rfl
theorem errW_some (c : Int) : errW (some c) = .iface 0 (.int .i64 c) := rfl
theorem info3 : (Try.prog.info? 3).map (fun i => (i.zero, i.size, i.bytes)) = some (some (.int .i64 0), 1, 8) := by kernel_rfl
structure S158 where
  f0 : Int
  f1 : Int
  f2 : ByteArray
structure S104 where
  f0 : Int
  f1 : Int
  f2 : ByteArray
def z104 : S104 := ⟨(0 : Int), (0 : Int), (⟨#[]⟩ : ByteArray)⟩
structure S106 where
  f0 : Int
  f1 : Int
  f2 : Int
  f3 : S104
def z106 : S106 := ⟨(0 : Int), (0 : Int), (0 : Int), z104⟩
def rd_T106 (xs : List S106) (i : Int) : S106 := xs.getD i.toNat z106
structure S28 where
  f0 : Int
  f1 : ByteArray
  f2 : (List S158)
def z28 : S28 := ⟨(0 : Int), (⟨#[]⟩ : ByteArray), ([] : List S158)⟩
structure S120 where
  f0 : Int
  f1 : Int
  f2 : ByteArray
  f3 : S104
def z120 : S120 := ⟨(0 : Int), (0 : Int), (⟨#[]⟩ : ByteArray), z104⟩
def rd_T120 (xs : List S120) (i : Int) : S120 := xs.getD i.toNat z120
end Go.Proofs.Ytoncacdehhmpaaa.P
namespace Go.Proofs.Ytoncacdehhmpaaa.P
open Go.RowKit Go.Proofs.YtoncacdehhmpaaaW.PrintWords Go.Proofs.YtoncacdehhmpaaaW.PrintLast Go.Proofs.YtoncacdehhmpaaaW.PrintMore
attribute [local go_sem] max2_int min2_int max_two min_two max_three min_three max_four min_four
set_option linter.unusedVariables false
set_option linter.unusedSimpArgs false
def laws_eqValue.f (a0_0 : Int) (a0_1 : Int) (a0_2 : ByteArray) (a1_0 : Int) (a1_1 : Int) (a1_2 : ByteArray) : Option (Bool) := if a0_0 = a1_0 then (if a0_1 = a1_1 then (if a0_2.toList = a1_2.toList then (some true) else (some false)) else (some false)) else (some false)
def laws_eqAlphaTest.f (a0_0 : Int) (a0_1 : Int) (a0_2 : Int) (a0_3 : Int) (a0_4 : Int) (a0_5 : ByteArray) (a1_0 : Int) (a1_1 : Int) (a1_2 : Int) (a1_3 : Int) (a1_4 : Int) (a1_5 : ByteArray) : Option (Bool) := if a0_0 = a1_0 then (if a0_1 = a1_1 then (if a0_2 = a1_2 then ((laws_eqValue.f a0_3 a0_4 a0_5 a1_3 a1_4 a1_5).bind fun t170 => (if t170 = true then (some true) else (some false))) else (some false)) else (some false)) else (some false)
def laws_eqAlphaTestS.l0 : Nat → List (S106) → List (S106) → Int → Option (Bool)
  | 0, _, _, _ => none
  | k + 1, x0, x1, x5 => if x5 < (x0.length : Int) then (if 0 ≤ x5 then (if x5 < (x1.length : Int) then ((laws_eqAlphaTest.f ((rd_T106 x0 x5).f0) ((rd_T106 x0 x5).f1) ((rd_T106 x0 x5).f2) ((rd_T106 x0 x5).f3.f0) ((rd_T106 x0 x5).f3.f1) ((rd_T106 x0 x5).f3.f2) ((rd_T106 x1 x5).f0) ((rd_T106 x1 x5).f1) ((rd_T106 x1 x5).f2) ((rd_T106 x1 x5).f3.f0) ((rd_T106 x1 x5).f3.f1) ((rd_T106 x1 x5).f3.f2)).bind fun t173 => (if t173 = true then (laws_eqAlphaTestS.l0 k x0 x1 (wrap64 (x5 + 1))) else (some false))) else (none)) else (none)) else (some true)
def laws_eqAlphaTestS.f (k : Nat) (l0 : List (S106)) (l1 : List (S106)) : Option (Bool) := if (l0.length : Int) = (l1.length : Int) then (laws_eqAlphaTestS.l0 k l0 l1 0) else (some false)
theorem laws_eqAlphaTestS.mono_l : ∀ k, (∀ y0 y1 y2, LeO (laws_eqAlphaTestS.l0 k y0 y1 y2) (laws_eqAlphaTestS.l0 (k + 1) y0 y1 y2))
  | 0 => fun _ _ _ r h => by simp [laws_eqAlphaTestS.l0] at h
  | k + 1 => by
    have ih0 := laws_eqAlphaTestS.mono_l k
    · intro y0 y1 y2
      unfold laws_eqAlphaTestS.l0
      repeat' first
      | (with_reducible exact ih0 _ _ _)
      | (with_reducible exact LeO.refl _)
      | (with_reducible exact LeO.none _)
      | (with_reducible refine LeO.ite ?_ ?_)
      | (with_reducible refine LeO.bind ?_ (fun _ => ?_))
      | exact ih0 _ _ _
      | exact LeO.none _
      | refine LeO.ite ?_ ?_
      | refine LeO.bind ?_ (fun _ => ?_)
theorem laws_eqAlphaTestS.mono : ∀ a0 a1 k, LeO (laws_eqAlphaTestS.f k a0 a1) (laws_eqAlphaTestS.f (k + 1) a0 a1) := by
  intro a0 a1 k
  have ih0 := laws_eqAlphaTestS.mono_l k
  unfold laws_eqAlphaTestS.f
  repeat' first
      | (with_reducible exact ih0 _ _ _)
      | (with_reducible exact LeO.refl _)
      | (with_reducible exact LeO.none _)
      | (with_reducible refine LeO.ite ?_ ?_)
      | (with_reducible refine LeO.bind ?_ (fun _ => ?_))
      | exact ih0 _ _ _
      | exact LeO.none _
      | refine LeO.ite ?_ ?_
      | refine LeO.bind ?_ (fun _ => ?_)
def laws_eqAlpha.f (k : Nat) (a0_0 : ByteArray) (a0_1 : Int) (l0_2 : List (S106)) (a1_0 : ByteArray) (a1_1 : Int) (l1_2 : List (S106)) : Option (Bool) := if a0_0.toList = a1_0.toList then (if a0_1 = a1_1 then ((laws_eqAlphaTestS.f k l0_2 l1_2).bind fun t176 => (if t176 = true then (some true) else (some false))) else (some false)) else (some false)
theorem laws_eqAlpha.mono : ∀ a0 a1 a2 a3 a4 a5 k, LeO (laws_eqAlpha.f k a0 a1 a2 a3 a4 a5) (laws_eqAlpha.f (k + 1) a0 a1 a2 a3 a4 a5) := by
  intro a0 a1 a2 a3 a4 a5 k
  unfold laws_eqAlpha.f
  repeat' first
      | (with_reducible exact laws_eqAlphaTestS.mono _ _ _)
      | (with_reducible exact LeO.refl _)
      | (with_reducible exact LeO.none _)
      | (with_reducible refine LeO.ite ?_ ?_)
      | (with_reducible refine LeO.bind ?_ (fun _ => ?_))
      | exact laws_eqAlphaTestS.mono _ _ _
      | exact LeO.none _
      | refine LeO.ite ?_ ?_
      | refine LeO.bind ?_ (fun _ => ?_)
end Go.Proofs.Ytoncacdehhmpaaa.P
namespace Go.Proofs.Ytoncacdehhmpaaa.P
open Go.RowKit Go.Proofs.YtoncacdehhmpaaaW.PrintWords Go.Proofs.YtoncacdehhmpaaaW.PrintLast Go.Proofs.YtoncacdehhmpaaaW.PrintMore
attribute [local go_sem] max2_int min2_int max_two min_two max_three min_three max_four min_four
set_option linter.unusedVariables false
set_option linter.unusedSimpArgs false
def laws_eqTerm.f (a0_0 : Int) (a0_1 : Int) (a0_2 : ByteArray) (a0_3 : Int) (a0_4 : Int) (a0_5 : ByteArray) (a1_0 : Int) (a1_1 : Int) (a1_2 : ByteArray) (a1_3 : Int) (a1_4 : Int) (a1_5 : ByteArray) : Option (Bool) := if a0_0 = a1_0 then (if a0_1 = a1_1 then (if a0_2.toList = a1_2.toList then ((laws_eqValue.f a0_3 a0_4 a0_5 a1_3 a1_4 a1_5).bind fun t367 => (if t367 = true then (some true) else (some false))) else (some false)) else (some false)) else (some false)
def laws_eqTermS.l0 : Nat → List (S120) → List (S120) → Int → Option (Bool)
  | 0, _, _, _ => none
  | k + 1, x0, x1, x5 => if x5 < (x0.length : Int) then (if 0 ≤ x5 then (if x5 < (x1.length : Int) then ((laws_eqTerm.f ((rd_T120 x0 x5).f0) ((rd_T120 x0 x5).f1) ((rd_T120 x0 x5).f2) ((rd_T120 x0 x5).f3.f0) ((rd_T120 x0 x5).f3.f1) ((rd_T120 x0 x5).f3.f2) ((rd_T120 x1 x5).f0) ((rd_T120 x1 x5).f1) ((rd_T120 x1 x5).f2) ((rd_T120 x1 x5).f3.f0) ((rd_T120 x1 x5).f3.f1) ((rd_T120 x1 x5).f3.f2)).bind fun t370 => (if t370 = true then (laws_eqTermS.l0 k x0 x1 (wrap64 (x5 + 1))) else (some false))) else (none)) else (none)) else (some true)
def laws_eqTermS.f (k : Nat) (l0 : List (S120)) (l1 : List (S120)) : Option (Bool) := if (l0.length : Int) = (l1.length : Int) then (laws_eqTermS.l0 k l0 l1 0) else (some false)
theorem laws_eqTermS.mono_l : ∀ k, (∀ y0 y1 y2, LeO (laws_eqTermS.l0 k y0 y1 y2) (laws_eqTermS.l0 (k + 1) y0 y1 y2))
  | 0 => fun _ _ _ r h => by simp [laws_eqTermS.l0] at h
  | k + 1 => by
    have ih0 := laws_eqTermS.mono_l k
    · intro y0 y1 y2
      unfold laws_eqTermS.l0
      repeat' first
      | (with_reducible exact ih0 _ _ _)
      | (with_reducible exact LeO.refl _)
      | (with_reducible exact LeO.none _)
      | (with_reducible refine LeO.ite ?_ ?_)
      | (with_reducible refine LeO.bind ?_ (fun _ => ?_))
      | exact ih0 _ _ _
      | exact LeO.none _
      | refine LeO.ite ?_ ?_
      | refine LeO.bind ?_ (fun _ => ?_)
theorem laws_eqTermS.mono : ∀ a0 a1 k, LeO (laws_eqTermS.f k a0 a1) (laws_eqTermS.f (k + 1) a0 a1) := by
  intro a0 a1 k
  have ih0 := laws_eqTermS.mono_l k
  unfold laws_eqTermS.f
  repeat' first
      | (with_reducible exact ih0 _ _ _)
      | (with_reducible exact LeO.refl _)
      | (with_reducible exact LeO.none _)
      | (with_reducible refine LeO.ite ?_ ?_)
      | (with_reducible refine LeO.bind ?_ (fun _ => ?_))
      | exact ih0 _ _ _
      | exact LeO.none _
      | refine LeO.ite ?_ ?_
      | refine LeO.bind ?_ (fun _ => ?_)
def laws_eqPattern.f (k : Nat) (a0_0 : Bool) (a0_1 : ByteArray) (l0_2 : List (S120)) (a1_0 : Bool) (a1_1 : ByteArray) (l1_2 : List (S120)) : Option (Bool) := if (a0_0 != a1_0) = true then (some false) else (if a0_1.toList = a1_1.toList then ((laws_eqTermS.f k l0_2 l1_2).bind fun t373 => (if t373 = true then (some true) else (some false))) else (some false))
theorem laws_eqPattern.mono : ∀ a0 a1 a2 a3 a4 a5 k, LeO (laws_eqPattern.f k a0 a1 a2 a3 a4 a5) (laws_eqPattern.f (k + 1) a0 a1 a2 a3 a4 a5) := by
  intro a0 a1 a2 a3 a4 a5 k
  unfold laws_eqPattern.f
  repeat' first
      | (with_reducible exact laws_eqTermS.mono _ _ _)
      | (with_reducible exact LeO.refl _)
      | (with_reducible exact LeO.none _)
      | (with_reducible refine LeO.ite ?_ ?_)
      | (with_reducible refine LeO.bind ?_ (fun _ => ?_))
      | exact laws_eqTermS.mono _ _ _
      | exact LeO.none _
      | refine LeO.ite ?_ ?_
      | refine LeO.bind ?_ (fun _ => ?_)
def laws_markText.l0 : Nat → Int → ByteArray → Option (ByteArray)
  | 0, _, _ => none
  | k + 1, x0, x3 => if x0 > 0 then ((some (([(wrap64 (48 + (Int.tmod x0 10))) % 256] : List Int) : List Int)).bind fun y374 => (if (strOfNums y374).size + x3.size ≤ 9223372036854775807 then (laws_markText.l0 k (wrap64 (Int.tdiv x0 10)) ((strOfNums y374) ++ x3)) else (none))) else (if 1 + x3.size ≤ 9223372036854775807 then (some ((⟨#[109]⟩ : ByteArray) ++ x3)) else (none))
def laws_markText.f (k : Nat) (a0 : Int) : Option (ByteArray) := if a0 ≤ 0 then (some (⟨#[109, 48]⟩ : ByteArray)) else (laws_markText.l0 k a0 (⟨#[]⟩ : ByteArray))
theorem laws_markText.mono_l : ∀ k, (∀ y0 y1, LeO (laws_markText.l0 k y0 y1) (laws_markText.l0 (k + 1) y0 y1))
  | 0 => fun _ _ r h => by simp [laws_markText.l0] at h
  | k + 1 => by
    have ih0 := laws_markText.mono_l k
    · intro y0 y1
      unfold laws_markText.l0
      repeat' first
      | (with_reducible exact ih0 _ _)
      | (with_reducible exact LeO.refl _)
      | (with_reducible exact LeO.none _)
      | (with_reducible refine LeO.ite ?_ ?_)
      | (with_reducible refine LeO.bind ?_ (fun _ => ?_))
      | exact ih0 _ _
      | exact LeO.none _
      | refine LeO.ite ?_ ?_
      | refine LeO.bind ?_ (fun _ => ?_)
theorem laws_markText.mono : ∀ a0 k, LeO (laws_markText.f k a0) (laws_markText.f (k + 1) a0) := by
  intro a0 k
  have ih0 := laws_markText.mono_l k
  unfold laws_markText.f
  repeat' first
      | (with_reducible exact ih0 _ _)
      | (with_reducible exact LeO.refl _)
      | (with_reducible exact LeO.none _)
      | (with_reducible refine LeO.ite ?_ ?_)
      | (with_reducible refine LeO.bind ?_ (fun _ => ?_))
      | exact ih0 _ _
      | exact LeO.none _
      | refine LeO.ite ?_ ?_
      | refine LeO.bind ?_ (fun _ => ?_)
end Go.Proofs.Ytoncacdehhmpaaa.P
namespace Go.Proofs.Ytoncacdehhmpaaa.P
open Go.RowKit Go.Proofs.YtoncacdehhmpaaaW.PrintWords Go.Proofs.YtoncacdehhmpaaaW.PrintLast Go.Proofs.YtoncacdehhmpaaaW.PrintMore
attribute [local go_sem] max2_int min2_int max_two min_two max_three min_three max_four min_four
set_option linter.unusedVariables false
set_option linter.unusedSimpArgs false
def laws_heldAlphaTestS.l0 : Nat → List (S106) → Int → Int → Option (Int)
  | 0, _, _, _ => none
  | k + 1, x0, x1, x5 => if x5 < (x0.length : Int) then (if 0 ≤ x5 then (if ((rd_T106 x0 x5).f0) = x1 then (if ((rd_T106 x0 x5).f1) = (wrap64 (x1 + 1)) then (if ((rd_T106 x0 x5).f2) = (wrap64 ((wrap64 (x1 + 1)) + 1)) then (if ((rd_T106 x0 x5).f3.f0) = (wrap64 ((wrap64 ((wrap64 (x1 + 1)) + 1)) + 1)) then (if ((rd_T106 x0 x5).f3.f1) = (wrap64 ((wrap64 ((wrap64 ((wrap64 (x1 + 1)) + 1)) + 1)) + 1)) then ((laws_markText.f k (wrap64 ((wrap64 ((wrap64 ((wrap64 ((wrap64 (x1 + 1)) + 1)) + 1)) + 1)) + 1))).bind fun t394 => (if ((rd_T106 x0 x5).f3.f2).toList = t394.toList then (laws_heldAlphaTestS.l0 k x0 (wrap64 ((wrap64 ((wrap64 ((wrap64 ((wrap64 ((wrap64 (x1 + 1)) + 1)) + 1)) + 1)) + 1)) + 1)) (wrap64 (x5 + 1))) else (some (-1)))) else (some (-1))) else (some (-1))) else (some (-1))) else (some (-1))) else (some (-1))) else (none)) else (some x1)
def laws_heldAlphaTestS.f (k : Nat) (l0 : List (S106)) (a1 : Int) : Option (Int) := laws_heldAlphaTestS.l0 k l0 a1 0
theorem laws_heldAlphaTestS.mono_l : ∀ k, (∀ y0 y1 y2, LeO (laws_heldAlphaTestS.l0 k y0 y1 y2) (laws_heldAlphaTestS.l0 (k + 1) y0 y1 y2))
  | 0 => fun _ _ _ r h => by simp [laws_heldAlphaTestS.l0] at h
  | k + 1 => by
    have ih0 := laws_heldAlphaTestS.mono_l k
    · intro y0 y1 y2
      unfold laws_heldAlphaTestS.l0
      repeat' first
      | (with_reducible exact ih0 _ _ _)
      | (with_reducible exact laws_markText.mono _ _)
      | (with_reducible exact LeO.refl _)
      | (with_reducible exact LeO.none _)
      | (with_reducible refine LeO.ite ?_ ?_)
      | (with_reducible refine LeO.bind ?_ (fun _ => ?_))
      | exact ih0 _ _ _
      | exact laws_markText.mono _ _
      | exact LeO.none _
      | refine LeO.ite ?_ ?_
      | refine LeO.bind ?_ (fun _ => ?_)
theorem laws_heldAlphaTestS.mono : ∀ a0 a1 k, LeO (laws_heldAlphaTestS.f k a0 a1) (laws_heldAlphaTestS.f (k + 1) a0 a1) := by
  intro a0 a1 k
  have ih0 := laws_heldAlphaTestS.mono_l k
  unfold laws_heldAlphaTestS.f
  repeat' first
      | (with_reducible exact ih0 _ _ _)
      | (with_reducible exact laws_markText.mono _ _)
      | (with_reducible exact LeO.refl _)
      | (with_reducible exact LeO.none _)
      | (with_reducible refine LeO.ite ?_ ?_)
      | (with_reducible refine LeO.bind ?_ (fun _ => ?_))
      | exact ih0 _ _ _
      | exact laws_markText.mono _ _
      | exact LeO.none _
      | refine LeO.ite ?_ ?_
      | refine LeO.bind ?_ (fun _ => ?_)
end Go.Proofs.Ytoncacdehhmpaaa.P
namespace Go.Proofs.Ytoncacdehhmpaaa.P
open Go.RowKit Go.Proofs.YtoncacdehhmpaaaW.PrintWords Go.Proofs.YtoncacdehhmpaaaW.PrintLast Go.Proofs.YtoncacdehhmpaaaW.PrintMore
attribute [local go_sem] max2_int min2_int max_two min_two max_three min_three max_four min_four
set_option linter.unusedVariables false
set_option linter.unusedSimpArgs false
def laws_heldAlpha.f (k : Nat) (a0_0 : ByteArray) (a0_1 : Int) (l0_2 : List (S106)) (a1 : Int) : Option (Int) := (laws_heldAlphaTestS.f k l0_2 a1).bind fun t396 => (if t396 < 0 then (some (-1)) else (some t396))
theorem laws_heldAlpha.mono : ∀ a0 a1 a2 a3 k, LeO (laws_heldAlpha.f k a0 a1 a2 a3) (laws_heldAlpha.f (k + 1) a0 a1 a2 a3) := by
  intro a0 a1 a2 a3 k
  unfold laws_heldAlpha.f
  repeat' first
      | (with_reducible exact laws_heldAlphaTestS.mono _ _ _)
      | (with_reducible exact LeO.refl _)
      | (with_reducible exact LeO.none _)
      | (with_reducible refine LeO.ite ?_ ?_)
      | (with_reducible refine LeO.bind ?_ (fun _ => ?_))
      | exact laws_heldAlphaTestS.mono _ _ _
      | exact LeO.none _
      | refine LeO.ite ?_ ?_
      | refine LeO.bind ?_ (fun _ => ?_)
mutual
def spec_Recency.l0 : Nat → List Int → List Int → Int → Int → Option (List Int)
  | 0, _, _, _, _ => none
  | k + 1, x3, x11, x12, x13 => if x13 < x12 then (if 0 ≤ x13 then (if x13 < (x11.length : Int) then (spec_Recency.l1 k x3 (rd x11 x13) (x3.length : Int) x11 x12 x13) else (none)) else (none)) else (some x3)
def spec_Recency.l1 : Nat → List Int → Int → Int → List Int → Int → Int → Option (List Int)
  | 0, _, _, _, _, _, _ => none
  | k + 1, x3, x5, x6, x11, x12, x13 => if x6 > 0 then (if 0 ≤ (wrap64 (x6 - 1)) then (if (wrap64 (x6 - 1)) < (x3.length : Int) then (if (rd x3 (wrap64 (x6 - 1))) < x5 then (spec_Recency.l1 k x3 x5 (wrap64 (x6 - 1)) x11 x12 x13) else (if 0 ≤ x6 then (if x6 ≤ (x3.length : Int) then ((some (x3.take (x6 : Int).toNat : List Int)).bind fun y418 => (if ([] : List Int).length + y418.length < 17592186044416 then ((some (([] : List Int) ++ y418 : List Int)).bind fun y422 => (if y422.length < 17592186044416 then ((some (y422 ++ [x5] : List Int)).bind fun y425 => ((some (x3.drop (x6 : Int).toNat : List Int)).bind fun y428 => (if y425.length + y428.length < 17592186044416 then (spec_Recency.l0 k (y425 ++ y428) x11 x12 (wrap64 (x13 + 1))) else (none)))) else (none))) else (none))) else (none)) else (none))) else (none)) else (none)) else (if 0 ≤ x6 then (if x6 ≤ (x3.length : Int) then ((some (x3.take (x6 : Int).toNat : List Int)).bind fun y435 => (if ([] : List Int).length + y435.length < 17592186044416 then ((some (([] : List Int) ++ y435 : List Int)).bind fun y439 => (if y439.length < 17592186044416 then ((some (y439 ++ [x5] : List Int)).bind fun y442 => ((some (x3.drop (x6 : Int).toNat : List Int)).bind fun y445 => (if y442.length + y445.length < 17592186044416 then (spec_Recency.l0 k (y442 ++ y445) x11 x12 (wrap64 (x13 + 1))) else (none)))) else (none))) else (none))) else (none)) else (none))
end
def spec_Recency.f (k : Nat) (l0 : List Int) : Option (List Int) := if (l0.length : Int) > 1000 then (some ([] : List Int)) else (spec_Recency.l0 k ([] : List Int) l0 (l0.length : Int) 0)
theorem spec_Recency.mono_l : ∀ k, (∀ y0 y1 y2 y3, LeO (spec_Recency.l0 k y0 y1 y2 y3) (spec_Recency.l0 (k + 1) y0 y1 y2 y3)) ∧ (∀ y0 y1 y2 y3 y4 y5, LeO (spec_Recency.l1 k y0 y1 y2 y3 y4 y5) (spec_Recency.l1 (k + 1) y0 y1 y2 y3 y4 y5))
  | 0 => ⟨fun _ _ _ _ r h => by simp [spec_Recency.l0] at h, fun _ _ _ _ _ _ r h => by simp [spec_Recency.l1] at h⟩
  | k + 1 => by
    obtain ⟨ih0, ih1⟩ := spec_Recency.mono_l k
    refine ⟨?_, ?_⟩
    · intro y0 y1 y2 y3
      unfold spec_Recency.l0
      repeat' first
      | (with_reducible exact ih0 _ _ _ _)
      | (with_reducible exact ih1 _ _ _ _ _ _)
      | (with_reducible exact LeO.refl _)
      | (with_reducible exact LeO.none _)
      | (with_reducible refine LeO.ite ?_ ?_)
      | (with_reducible refine LeO.bind ?_ (fun _ => ?_))
      | exact ih0 _ _ _ _
      | exact ih1 _ _ _ _ _ _
      | exact LeO.none _
      | refine LeO.ite ?_ ?_
      | refine LeO.bind ?_ (fun _ => ?_)
    · intro y0 y1 y2 y3 y4 y5
      unfold spec_Recency.l1
      repeat' first
      | (with_reducible exact ih0 _ _ _ _)
      | (with_reducible exact ih1 _ _ _ _ _ _)
      | (with_reducible exact LeO.refl _)
      | (with_reducible exact LeO.none _)
      | (with_reducible refine LeO.ite ?_ ?_)
      | (with_reducible refine LeO.bind ?_ (fun _ => ?_))
      | exact ih0 _ _ _ _
      | exact ih1 _ _ _ _ _ _
      | exact LeO.none _
      | refine LeO.ite ?_ ?_
      | refine LeO.bind ?_ (fun _ => ?_)
theorem spec_Recency.mono : ∀ a0 k, LeO (spec_Recency.f k a0) (spec_Recency.f (k + 1) a0) := by
  intro a0 k
  obtain ⟨ih0, ih1⟩ := spec_Recency.mono_l k
  unfold spec_Recency.f
  repeat' first
      | (with_reducible exact ih0 _ _ _ _)
      | (with_reducible exact ih1 _ _ _ _ _ _)
      | (with_reducible exact LeO.refl _)
      | (with_reducible exact LeO.none _)
      | (with_reducible refine LeO.ite ?_ ?_)
      | (with_reducible refine LeO.bind ?_ (fun _ => ?_))
      | exact ih0 _ _ _ _
      | exact ih1 _ _ _ _ _ _
      | exact LeO.none _
      | refine LeO.ite ?_ ?_
      | refine LeO.bind ?_ (fun _ => ?_)
set_option maxHeartbeats 8000000 in
set_option maxRecDepth 100000 in
theorem spec_Recency.calls (k : Nat) (A0 : Option Addr) (c0 : Nat) (l0 : List Int) (r : List Int) (w : World) (hr0 : Kd.C (Kd.int .i64) w A0 l0.length l0) (hc0 : l0.length ≤ c0) (h : spec_Recency.f k l0 = some r) :
    Calls Try.prog 31 #[.slice A0 l0.length c0] w fun e w' => ∃ v0_ : Value, e = .returned (v0_) ∧ Kd.R (Kd.int .i64) 3 w' w.heap.size (fun _ => True) v0_ r ∧ Below w.heap.size w w' := by
  have HR0 := Aside0.mk hr0
  have HC0 := Aside0.mk hc0
  clear hr0 hc0
  have HB := Aside0.mk (Below.refl w.heap.size w)
  have H : (if (l0.length : Int) > 1000 then (some ([] : List Int)) else (spec_Recency.l0 k ([] : List Int) l0 (l0.length : Int) 0)) = some r := h
  clear h
  by_cases c2 : (l0.length : Int) > 1000
  · rw [if_pos c2] at H
    have c2b0 : decide (1000 < (l0.length : Int)) = true := decide_eq_true c2
    have c2b1 : decide (1000 < l0.length) = true := decide_eq_true (by omega)
    clear c2
    obtain rfl := Option.some.inj H
    go_enter Try.func31, Try.ntmps31
    go_wp2
    go_ret
    exact ⟨_, by first | rfl | (simp [errW_none, errW_some] <;> rfl) | (simp [*, errW_none, errW_some] <;> rfl), by first | exact Kd.R_nil _ _ _ _ _ | exact Kd.N_nil _ _ _ _ _ | exact Kd.V_nil _ _ _ _ _ | exact Kd.Q_nil _ _ _ _ _ | exact Kd.S_nil _ _ _ _ _, by repeat (first | (with_reducible first | exact HB.out | apply below_alloc | apply pw_below_drewN | apply below_drew1) | exact HB.out)⟩
  · rw [if_neg c2] at H
    have c2b0 : decide (1000 < (l0.length : Int)) = false := decide_eq_false c2
    have c2b1 : decide (1000 < l0.length) = false := decide_eq_false (by omega)
    clear c2
    have H' := Aside0.mk H
    clear H
    go_enter Try.func31, Try.ntmps31
    go_wp2
    go_loopg [3, 13] k (fun kq v3 v13 w' => ∃ (x3_1 : List Int) (x13_1 : Int), v13 = .int .i64 x13_1 ∧ Aside0 (spec_Recency.l0 kq x3_1 l0 (l0.length : Int) x13_1 = some r) ∧ Aside0 (kq ≤ k) ∧ Aside0 (Kd.R (Kd.int .i64) 3 w' w.heap.size (fun _ => True) v3 x3_1) ∧ Aside0 (Below w.heap.size w w'))
    case atStart => exact ⟨(([] : List Int)), (0), (by first | rfl | (simp; done) | (simp [*]; done)), H', ⟨Nat.le_refl _⟩, ⟨by first | exact Kd.R_nil _ _ _ _ _ | exact Kd.N_nil _ _ _ _ _ | exact Kd.V_nil _ _ _ _ _ | exact Kd.Q_nil _ _ _ _ _ | exact Kd.S_nil _ _ _ _ _⟩, ⟨by repeat (first | (with_reducible first | exact HB.out | apply below_alloc | apply pw_below_drewN | apply below_drew1) | exact HB.out)⟩⟩
    case round =>
      clear H'
      try clear c2
      try clear c2b0
      try clear c2b1
      try clear p2
      obtain ⟨x3_1, x13_1, rfl, HA, HK1, HO_3, HB⟩ := hrel
      cases gk with
      | zero => exact absurd HA.out (by simp [spec_Recency.l0])
      | succ k1 =>
        have H := HA.out
        clear HA
        simp only [spec_Recency.l0] at H
        by_cases c3 : x13_1 < (l0.length : Int)
        · rw [if_pos c3] at H
          have c3b0 : decide (x13_1 < (l0.length : Int)) = true := decide_eq_true c3
          clear c3
          by_cases c4 : 0 ≤ x13_1
          · rw [if_pos c4] at H
            have c4b0 : decide (0 ≤ x13_1) = true := decide_eq_true c4
            clear c4
            by_cases c5 : x13_1 < (l0.length : Int)
            · rw [if_pos c5] at H
              have c5b0 : decide (x13_1 < (l0.length : Int)) = true := decide_eq_true c5
              clear c5
              have H' := Aside0.mk H
              clear H
              have p416 : 0 ≤ (x13_1 : Int) := of_decide_eq_true (by first | (with_reducible assumption) | assumption)
              have q416 : x13_1 < (l0.length : Int) := of_decide_eq_true (by first | (with_reducible assumption) | assumption)
              obtain ⟨ad416, e416, hx416_0⟩ := Kd.at_int HR0.out x13_1 p416 q416
              cases e416
              replace hx416_0 := (HB.out.cell (World.block_lt_of_cell? w _ hx416_0)).trans hx416_0
              replace p416 := eq_true p416
              replace q416 := eq_true q416
              obtain ⟨Ao6, co6, eo6⟩ := Kd.R_slice HO_3.out
              subst eo6
              go_wp2
              go_loopg [6] k1 (fun kq v6 w' => ∃ (x6_2 : Int), v6 = .int .i64 x6_2 ∧ Aside0 (spec_Recency.l1 kq x3_1 (rd l0 x13_1) x6_2 l0 (l0.length : Int) x13_1 = some r) ∧ Aside0 (kq ≤ k1) ∧ Aside0 (Kd.R (Kd.int .i64) 3 w' w.heap.size (fun _ => True) (.slice Ao6 x3_1.length co6) x3_1) ∧ Aside0 (Below w.heap.size w w'))
              case atStart => exact ⟨((x3_1.length : Int)), (by first | rfl | (simp; done) | (simp [*]; done)), H', ⟨Nat.le_refl _⟩, ⟨by (with_reducible repeat (first | apply Kd.R_alloc | apply Kd.R_drewN | apply Kd.R_drew)); exact HO_3.out⟩, ⟨by repeat (first | (with_reducible first | exact HB.out | apply below_alloc | apply pw_below_drewN | apply below_drew1) | exact HB.out)⟩⟩
              case round =>
                clear H'
                try clear c2
                try clear c2b0
                try clear c2b1
                try clear p2
                try clear c3
                try clear c3b0
                try clear c4
                try clear c4b0
                try clear p4
                try clear q4
                try clear hx4
                try clear c5
                try clear c5b0
                try clear hx416_0
                try clear p2
                try clear p416
                try clear q416
                obtain ⟨x6_2, rfl, HA, HK2, HO_3, HB⟩ := hrel
                cases gk with
                | zero => exact absurd HA.out (by simp [spec_Recency.l1])
                | succ k2 =>
                  have H := HA.out
                  clear HA
                  simp only [spec_Recency.l1] at H
                  by_cases c7 : x6_2 > 0
                  · rw [if_pos c7] at H
                    have c7b0 : decide (0 < x6_2) = true := decide_eq_true c7
                    clear c7
                    obtain ⟨ji8, hji8⟩ : ∃ j_ : Int, (wrap64 (x6_2 - 1)) = j_ := ⟨_, rfl⟩
                    replace H : (if 0 ≤ (ji8) then (if (ji8) < (x3_1.length : Int) then (if (rd x3_1 (ji8)) < (rd l0 x13_1) then (spec_Recency.l1 k2 x3_1 (rd l0 x13_1) ji8 l0 (l0.length : Int) x13_1) else (if 0 ≤ x6_2 then (if x6_2 ≤ (x3_1.length : Int) then ((some (x3_1.take (x6_2 : Int).toNat : List Int)).bind fun y418 => (if ([] : List Int).length + y418.length < 17592186044416 then ((some (([] : List Int) ++ y418 : List Int)).bind fun y422 => (if y422.length < 17592186044416 then ((some (y422 ++ [(rd l0 x13_1)] : List Int)).bind fun y425 => ((some (x3_1.drop (x6_2 : Int).toNat : List Int)).bind fun y428 => (if y425.length + y428.length < 17592186044416 then (spec_Recency.l0 k2 (y425 ++ y428) l0 (l0.length : Int) (wrap64 (x13_1 + 1))) else (none)))) else (none))) else (none))) else (none)) else (none))) else (none)) else (none)) = some r := by first | (rw [hji8] at H; exact H) | (simp only [hji8] at H ⊢; exact H)
                    have hji8w : (IntKind.i64.wrap (x6_2 - 1)) = ji8 := (i64_w _).trans hji8
                    by_cases c9 : 0 ≤ (ji8)
                    · rw [if_pos c9] at H
                      have c9b0 : decide (0 ≤ (ji8)) = true := decide_eq_true c9
                      clear c9
                      by_cases c10 : (ji8) < (x3_1.length : Int)
                      · rw [if_pos c10] at H
                        have c10b0 : decide ((ji8) < (x3_1.length : Int)) = true := decide_eq_true c10
                        clear c10
                        by_cases c11 : (rd x3_1 (ji8)) < (rd l0 x13_1)
                        · rw [if_pos c11] at H
                          have c11b0 : decide ((rd x3_1 (ji8)) < (rd l0 x13_1)) = true := decide_eq_true c11
                          clear c11
                          have H' := Aside0.mk H
                          clear H
                          have p417 : 0 ≤ ((ji8) : Int) := of_decide_eq_true (by first | (with_reducible assumption) | assumption)
                          have q417 : (ji8) < (x3_1.length : Int) := of_decide_eq_true (by first | (with_reducible assumption) | assumption)
                          obtain ⟨ad417, e417, hx417_0⟩ := Kd.at_int (Kd.R_reads' HO_3.out).2.2 (ji8) p417 q417
                          cases e417
                          replace p417 := eq_true p417
                          replace q417 := eq_true q417
                          go_wp2
                          go_roundg k2
                          case measure => have := HK1.out; have := HK2.out; omega
                          case rel => exact ⟨(ji8), (by first | rfl | (simp; done) | (simp only [← hji8] <;> (first | rfl | simp)) | (simp [*]; done)), H', ⟨by have := HK1.out; have := HK2.out; omega⟩, ⟨by (with_reducible repeat (first | apply Kd.R_alloc | apply Kd.R_drewN | apply Kd.R_drew)); exact HO_3.out⟩, ⟨by repeat (first | (with_reducible first | exact HB.out | apply below_alloc | apply pw_below_drewN | apply below_drew1) | exact HB.out)⟩⟩
                        · rw [if_neg c11] at H
                          have c11b0 : decide ((rd x3_1 (ji8)) < (rd l0 x13_1)) = false := decide_eq_false c11
                          clear c11
                          by_cases c12 : 0 ≤ x6_2
                          · rw [if_pos c12] at H
                            have c12b0 := eq_true c12
                            have c12b1 : decide (0 ≤ x6_2) = true := decide_eq_true c12
                            clear c12
                            by_cases c13 : x6_2 ≤ (x3_1.length : Int)
                            · rw [if_pos c13] at H
                              have c13b0 := eq_true c13
                              have c13b1 : decide (x6_2 ≤ (x3_1.length : Int)) = true := decide_eq_true c13
                              clear c13
                              obtain ⟨y418, hy418⟩ : ∃ y_ : List Int, y_ = (x3_1.take (x6_2 : Int).toNat) := ⟨_, rfl⟩
                              replace H : (if ([] : List Int).length + y418.length < 17592186044416 then ((some (([] : List Int) ++ y418 : List Int)).bind fun y422 => (if y422.length < 17592186044416 then ((some (y422 ++ [(rd l0 x13_1)] : List Int)).bind fun y425 => ((some (x3_1.drop (x6_2 : Int).toNat : List Int)).bind fun y428 => (if y425.length + y428.length < 17592186044416 then (spec_Recency.l0 k2 (y425 ++ y428) l0 (l0.length : Int) (wrap64 (x13_1 + 1))) else (none)))) else (none))) else (none)) = some r := by first | (rw [hy418]; with_reducible exact H) | (have H2_ := (Option.bind_some _ _).symm.trans H; rw [hy418]; with_reducible exact H2_) | (have H2_ := (Option.bind_some _ _).symm.trans H; with_reducible exact H2_) | with_reducible exact H | (rw [hy418]; exact H) | exact H
                              have Ny418 := Aside0.mk hy418
                              clear hy418
                              by_cases c14 : ([] : List Int).length + y418.length < 17592186044416
                              · rw [if_pos c14] at H
                                have LMc14 := Aside0.mk c14
                                clear c14
                                obtain ⟨y422, hy422⟩ : ∃ y_ : List Int, y_ = (([] : List Int) ++ y418) := ⟨_, rfl⟩
                                replace H : (if y422.length < 17592186044416 then ((some (y422 ++ [(rd l0 x13_1)] : List Int)).bind fun y425 => ((some (x3_1.drop (x6_2 : Int).toNat : List Int)).bind fun y428 => (if y425.length + y428.length < 17592186044416 then (spec_Recency.l0 k2 (y425 ++ y428) l0 (l0.length : Int) (wrap64 (x13_1 + 1))) else (none)))) else (none)) = some r := by first | (rw [hy422]; with_reducible exact H) | (have H2_ := (Option.bind_some _ _).symm.trans H; rw [hy422]; with_reducible exact H2_) | (have H2_ := (Option.bind_some _ _).symm.trans H; with_reducible exact H2_) | with_reducible exact H | (rw [hy422]; exact H) | exact H
                                have Ny422 := Aside0.mk hy422
                                clear hy422
                                by_cases c15 : y422.length < 17592186044416
                                · rw [if_pos c15] at H
                                  have LMc15 := Aside0.mk c15
                                  clear c15
                                  obtain ⟨y425, hy425⟩ : ∃ y_ : List Int, y_ = (y422 ++ [(rd l0 x13_1)]) := ⟨_, rfl⟩
                                  replace H : ((some (x3_1.drop (x6_2 : Int).toNat : List Int)).bind fun y428 => (if y425.length + y428.length < 17592186044416 then (spec_Recency.l0 k2 (y425 ++ y428) l0 (l0.length : Int) (wrap64 (x13_1 + 1))) else (none))) = some r := by first | (rw [hy425]; with_reducible exact H) | (have H2_ := (Option.bind_some _ _).symm.trans H; rw [hy425]; with_reducible exact H2_) | (have H2_ := (Option.bind_some _ _).symm.trans H; with_reducible exact H2_) | with_reducible exact H | (rw [hy425]; exact H) | exact H
                                  have Ny425 := Aside0.mk hy425
                                  clear hy425
                                  have c16b0 := eq_true (of_decide_eq_true (by first | (with_reducible assumption) | assumption) : 0 ≤ x6_2)
                                  have c17b0 := eq_true (of_decide_eq_true (by first | (with_reducible assumption) | assumption) : x6_2 ≤ (x3_1.length : Int))
                                  obtain ⟨y428, hy428⟩ : ∃ y_ : List Int, y_ = (x3_1.drop (x6_2 : Int).toNat) := ⟨_, rfl⟩
                                  replace H : (if y425.length + y428.length < 17592186044416 then (spec_Recency.l0 k2 (y425 ++ y428) l0 (l0.length : Int) (wrap64 (x13_1 + 1))) else (none)) = some r := by first | (rw [hy428]; with_reducible exact H) | (have H2_ := (Option.bind_some _ _).symm.trans H; rw [hy428]; with_reducible exact H2_) | (have H2_ := (Option.bind_some _ _).symm.trans H; with_reducible exact H2_) | with_reducible exact H | (rw [hy428]; exact H) | exact H
                                  have Ny428 := Aside0.mk hy428
                                  clear hy428
                                  by_cases c18 : y425.length + y428.length < 17592186044416
                                  · rw [if_pos c18] at H
                                    have LMc18 := Aside0.mk c18
                                    clear c18
                                    obtain ⟨y432, hy432⟩ : ∃ y_ : List Int, y_ = (y425 ++ y428) := ⟨_, rfl⟩
                                    replace H : (spec_Recency.l0 k2 y432 l0 (l0.length : Int) (wrap64 (x13_1 + 1))) = some r := by first | (rw [hy432]; with_reducible exact H) | (have H2_ := (Option.bind_some _ _).symm.trans H; rw [hy432]; with_reducible exact H2_) | (have H2_ := (Option.bind_some _ _).symm.trans H; with_reducible exact H2_) | with_reducible exact H | (rw [hy432]; exact H) | exact H
                                    have Ny432 := Aside0.mk hy432
                                    clear hy432
                                    have H' := Aside0.mk H
                                    clear H
                                    have p417 : 0 ≤ ((ji8) : Int) := of_decide_eq_true (by first | (with_reducible assumption) | assumption)
                                    have q417 : (ji8) < (x3_1.length : Int) := of_decide_eq_true (by first | (with_reducible assumption) | assumption)
                                    obtain ⟨ad417, e417, hx417_0⟩ := Kd.at_int (Kd.R_reads' HO_3.out).2.2 (ji8) p417 q417
                                    cases e417
                                    replace p417 := eq_true p417
                                    replace q417 := eq_true q417
                                    have q19 : (x6_2 : Int) ≤ ((x3_1.length : Int) : Int) := of_decide_eq_true (by first | (with_reducible assumption) | assumption)
                                    obtain ⟨i019, hi019, _, hsz19, _⟩ := info_parts info3
                                    have hroom19 : x3_1.length ≤ co6 := (Kd.R_reads' HO_3.out).2.1
                                    have hC19 : Kd.C (Kd.int .i64) _ (some ad417) x3_1.length x3_1 := (Kd.R_reads' HO_3.out).2.2
                                    have hcut19 := cut_to (P := Try.prog) 67 3 .i64 Try.underlying67 hi019 (some ad417) x3_1.length co6 x6_2 (of_decide_eq_true (by first | (with_reducible assumption) | assumption)) q19 hroom19
                                    have hr19 := Kd.C_take (m := (x6_2 : Int).toNat) hC19 (by omega)
                                    have hy19 : y418.length = (x6_2 : Int).toNat := (by rw [Ny418.out, List.length_take]; omega)
                                    rw [← Ny418.out] at hr19
                                    rw [← hy19] at hcut19
                                    have HR421 := Aside0.mk hr19
                                    have HC421 := Aside0.mk (show y418.length ≤ co6 from by omega)
                                    clear hr19 hC19 hroom19 hi019 hsz19
                                    have KY19 := Aside0.mk hy19
                                    clear hy19
                                    have KL19 := Aside0.mk (show (x6_2 : Int).toNat ≤ x3_1.length from by omega)
                                    replace q19 := eq_true q19
                                    go_wp2_with (first | ((with_reducible refine gate_builtin (b := .append) (xs := #[.tmp 32, .tmp 35]) rfl ?_); at_builtin; refine Kd.R_append_rows (Kd.int .i64) (w0 := w) w.heap.size rfl (.tmp 32) (.tmp 35) 67 3 (.int .i64 0) 8 rfl Try.underlying67 info3 rfl (by decide) (by omega) (.slice none 0 0) ([] : List Int) y418 _ _ _ (fun k_ => some k_ ≠ (.slice (some ad417) x3_1.length co6 : Value).ownBlock) (fun _ => False) rfl rfl ?aO ?aR (fun _ _ h => h) (fun _ h => h.elim) ?aF ?aB ?aS ?aL ?_; (case aR => repeat (first | exact (by repeat (first | (with_reducible exact HR421.out) | (with_reducible refine Kd.C_alloc ?_ _) | (with_reducible refine Kd.C_drewN ?_ _) | (with_reducible refine Kd.C_drew ?_) | exact HR421.out)) | (with_reducible refine Kd.C_alloc ?_ _) | (with_reducible refine Kd.C_drewN ?_ _) | (with_reducible refine Kd.C_drew ?_))); (case aB => exact (by repeat (first | (with_reducible first | exact HB.out | apply below_alloc | apply pw_below_drewN | apply below_drew1) | exact HB.out))); (case aF => exact (fun k_ hk => Kd.fresh' (Kd.R_lt (by (with_reducible repeat (first | apply Kd.R_alloc | apply Kd.R_drewN | apply Kd.R_drew)); exact HO_3.out)) k_ hk)); (case aO => exact ((Kd.R_nil _ _ _ _ (fun k_ => some k_ ≠ (.slice (some ad417) x3_1.length co6 : Value).ownBlock)))); (case aS => exact (below_size (by repeat (first | (with_reducible first | exact HB.out | apply below_alloc | apply pw_below_drewN | apply below_drew1) | exact HB.out)))); (case aL => have := LMc14.out; omega); intro v423 w20 ho hb hg hat; rw [← Ny422.out] at ho; have n0_ := Aside0.mk (Kd.R_after (Kd.R_apart_nil (by (with_reducible repeat (first | apply Kd.R_alloc | apply Kd.R_drewN | apply Kd.R_drew)); exact HO_3.out)) hg hat); have n1_ := Aside0.mk (hb); have n2_ := Aside0.mk ((show Kd.C (Kd.int .i64) w20 (some ad417) y418.length y418 from by rw [Ny418.out]; exact Kd.C_take (m := (x6_2 : Int).toNat) ((Kd.R_reads' (Kd.R_after (Kd.R_apart_nil (by (with_reducible repeat (first | apply Kd.R_alloc | apply Kd.R_drewN | apply Kd.R_drew)); exact HO_3.out)) hg hat)).2.2) KL19.out)); have n3_ := Aside0.mk (ho); clear HO_3; clear HB; clear HR421; have HO_3 := n0_; have HB := n1_; have HR421 := n2_; have HO424 := n3_; clear n0_ n1_ n2_ n3_; clear ho hb hg hat) | ((with_reducible refine gate_builtin (b := .append) (xs := #[.tmp 37, .tmp 39]) rfl ?_); at_builtin; refine Kd.R_append (Kd.int .i64) (w0 := w) w.heap.size rfl (.tmp 37) (.tmp 39) 67 3 (.int .i64 0) 8 rfl Try.underlying67 info3 rfl (by decide) (by omega) v423 y422 (rd l0 x13_1) [.int .i64 (rd l0 x13_1)] (fun k_ => some k_ ≠ (.slice (some ad417) x3_1.length co6 : Value).ownBlock) (fun _ => False) rfl rfl ?aP (fun _ hk => hk.elim) ?aF ?aO ?aB ?aS ?aL ?_; (case aP => exact rfl); (case aB => exact (by repeat (first | (with_reducible first | exact HB.out | apply below_alloc | apply pw_below_drewN | apply below_drew1) | exact HB.out))); (case aF => exact (fun k_ hk => Kd.fresh' (Kd.R_lt (by (with_reducible repeat (first | apply Kd.R_alloc | apply Kd.R_drewN | apply Kd.R_drew)); exact HO_3.out)) k_ hk)); (case aO => exact (by (with_reducible repeat (first | apply Kd.R_alloc | apply Kd.R_drewN | apply Kd.R_drew)); exact HO424.out)); (case aS => exact (below_size (by repeat (first | (with_reducible first | exact HB.out | apply below_alloc | apply pw_below_drewN | apply below_drew1) | exact HB.out)))); (case aL => have := LMc15.out; omega); intro v426 w21 ho hb hg hat; rw [← Ny425.out] at ho; have n0_ := Aside0.mk (Kd.R_after (ok := (fun _ => True)) (by (with_reducible repeat (first | apply Kd.R_alloc | apply Kd.R_drewN | apply Kd.R_drew)); exact HO_3.out) hg hat); have n1_ := Aside0.mk (hb); have n2_ := Aside0.mk ((show Kd.C (Kd.int .i64) w21 (some ad417) y418.length y418 from by rw [Ny418.out]; exact Kd.C_take (m := (x6_2 : Int).toNat) ((Kd.R_reads' (Kd.R_after (ok := (fun _ => True)) (by (with_reducible repeat (first | apply Kd.R_alloc | apply Kd.R_drewN | apply Kd.R_drew)); exact HO_3.out) hg hat)).2.2) KL19.out)); have n3_ := Aside0.mk (ho); clear HO_3; clear HB; clear HR421; clear HO424; have HO_3 := n0_; have HB := n1_; have HR421 := n2_; have HO427 := n3_; clear n0_ n1_ n2_ n3_; clear ho hb hg hat; have q22 : (x6_2 : Int) ≤ ((x3_1.length : Int) : Int) := of_decide_eq_true (by first | (with_reducible assumption) | assumption); obtain ⟨i022, hi022, _, hsz22, _⟩ := info_parts info3; have hroom22 : x3_1.length ≤ co6 := (Kd.R_reads' HO_3.out).2.1; have hC22 : Kd.C (Kd.int .i64) _ (some ad417) x3_1.length x3_1 := (Kd.R_reads' HO_3.out).2.2; have q022 : (0 : Int) ≤ (x6_2 : Int) := of_decide_eq_true (by first | (with_reducible assumption) | assumption); have hcut22 := cut_from (P := Try.prog) 67 3 .i64 Try.underlying67 hi022 1 hsz22 (some ad417) x3_1.length co6 x6_2 q022 q22; have hr22 := Kd.C_drop (m := (x6_2 : Int).toNat) (c := co6) hC22 (by omega) hroom22; obtain ⟨A22, hA22⟩ : ∃ A1, A1 = (if co6 = (x6_2 : Int).toNat then (some ad417) else ((some ad417) : Option Addr).map (·.add ((x6_2 : Int).toNat * 1))) := ⟨_, rfl⟩; obtain ⟨c22, hc22⟩ : ∃ c1, c1 = co6 - (x6_2 : Int).toNat := ⟨_, rfl⟩; have hy22 : y428.length = x3_1.length - (x6_2 : Int).toNat := (by rw [Ny428.out, List.length_drop] <;> omega); rw [show (x3_1).drop (x6_2 : Int).toNat = y428 from Ny428.out.symm] at hr22; replace hr22 : Kd.C (Kd.int .i64) _ A22 y428.length y428 := (by rw [hA22]; exact hr22); rw [← hy22, ← hA22, ← hc22] at hcut22; have HR431 := Aside0.mk hr22; have HC431 := Aside0.mk (show y428.length ≤ c22 from by rw [hy22, hc22]; exact Nat.sub_le_sub_right hroom22 _); clear hr22 hC22 hroom22 hi022 hsz22 hc22; have KY22 := Aside0.mk hy22; have KA22 := Aside0.mk hA22; clear hy22 hA22; have KL22 := Aside0.mk (show (x6_2 : Int).toNat ≤ x3_1.length from by omega); replace q22 := eq_true q22) | ((with_reducible refine gate_builtin (b := .append) (xs := #[.tmp 41, .tmp 44]) rfl ?_); at_builtin; refine Kd.R_append_rows (Kd.int .i64) (w0 := w) w.heap.size rfl (.tmp 41) (.tmp 44) 67 3 (.int .i64 0) 8 rfl Try.underlying67 info3 rfl (by decide) (by omega) v426 y425 y428 _ _ _ (fun k_ => some k_ ≠ (.slice (some ad417) x3_1.length co6 : Value).ownBlock) (fun _ => False) rfl rfl ?aO ?aR (fun _ _ h => h) (fun _ h => h.elim) ?aF ?aB ?aS ?aL ?_; (case aR => repeat (first | exact (by repeat (first | (with_reducible exact HR431.out) | (with_reducible refine Kd.C_alloc ?_ _) | (with_reducible refine Kd.C_drewN ?_ _) | (with_reducible refine Kd.C_drew ?_) | exact HR431.out)) | (with_reducible refine Kd.C_alloc ?_ _) | (with_reducible refine Kd.C_drewN ?_ _) | (with_reducible refine Kd.C_drew ?_))); (case aB => exact (by repeat (first | (with_reducible first | exact HB.out | apply below_alloc | apply pw_below_drewN | apply below_drew1) | exact HB.out))); (case aF => exact (fun k_ hk => Kd.fresh' (Kd.R_lt (by (with_reducible repeat (first | apply Kd.R_alloc | apply Kd.R_drewN | apply Kd.R_drew)); exact HO_3.out)) k_ hk)); (case aO => exact (by (with_reducible repeat (first | apply Kd.R_alloc | apply Kd.R_drewN | apply Kd.R_drew)); exact HO427.out)); (case aS => exact (below_size (by repeat (first | (with_reducible first | exact HB.out | apply below_alloc | apply pw_below_drewN | apply below_drew1) | exact HB.out)))); (case aL => have := LMc18.out; omega); intro v433 w23 ho hb hg hat; rw [← Ny432.out] at ho; have n0_ := Aside0.mk (Kd.R_after (ok := (fun _ => True)) (by (with_reducible repeat (first | apply Kd.R_alloc | apply Kd.R_drewN | apply Kd.R_drew)); exact HO_3.out) hg hat); have n1_ := Aside0.mk (hb); have n2_ := Aside0.mk ((show Kd.C (Kd.int .i64) w23 (some ad417) y418.length y418 from by rw [Ny418.out]; exact Kd.C_take (m := (x6_2 : Int).toNat) ((Kd.R_reads' (Kd.R_after (ok := (fun _ => True)) (by (with_reducible repeat (first | apply Kd.R_alloc | apply Kd.R_drewN | apply Kd.R_drew)); exact HO_3.out) hg hat)).2.2) KL19.out)); have n3_ := Aside0.mk ((show Kd.C (Kd.int .i64) w23 A22 y428.length y428 from by rw [Ny428.out, KA22.out]; exact Kd.C_drop (m := (x6_2 : Int).toNat) (c := co6) ((Kd.R_reads' (Kd.R_after (ok := (fun _ => True)) (by (with_reducible repeat (first | apply Kd.R_alloc | apply Kd.R_drewN | apply Kd.R_drew)); exact HO_3.out) hg hat)).2.2) KL22.out ((Kd.R_reads' (Kd.R_after (ok := (fun _ => True)) (by (with_reducible repeat (first | apply Kd.R_alloc | apply Kd.R_drewN | apply Kd.R_drew)); exact HO_3.out) hg hat)).2.1))); have n4_ := Aside0.mk (ho); clear HO_3; clear HB; clear HR421; clear HR431; clear HO427; have HO_3 := n0_; have HB := n1_; have HR421 := n2_; have HR431 := n3_; have HO434 := n4_; clear n0_ n1_ n2_ n3_ n4_; clear ho hb hg hat))
                                    go_roundg k2
                                    case measure => have := HK1.out; have := HK2.out; omega
                                    case rel => exact ⟨(y432), (wrap64 (x13_1 + 1)), (by first | rfl | (simp; done) | (simp [*]; done)), H', ⟨by have := HK1.out; have := HK2.out; omega⟩, ⟨by (with_reducible repeat (first | apply Kd.R_alloc | apply Kd.R_drewN | apply Kd.R_drew)); exact Kd.R_mono HO434.out (fun _ hk => trivial)⟩, ⟨by repeat (first | (with_reducible first | exact HB.out | apply below_alloc | apply pw_below_drewN | apply below_drew1) | exact HB.out)⟩⟩
                                  · rw [if_neg c18] at H
                                    exact absurd H (by simp)
                                · rw [if_neg c15] at H
                                  exact absurd H (by simp)
                              · rw [if_neg c14] at H
                                exact absurd H (by simp)
                            · rw [if_neg c13] at H
                              exact absurd H (by simp)
                          · rw [if_neg c12] at H
                            exact absurd H (by simp)
                      · rw [if_neg c10] at H
                        exact absurd H (by simp)
                    · rw [if_neg c9] at H
                      exact absurd H (by simp)
                  · rw [if_neg c7] at H
                    have c7b0 : decide (0 < x6_2) = false := decide_eq_false c7
                    clear c7
                    by_cases c24 : 0 ≤ x6_2
                    · rw [if_pos c24] at H
                      have c24b0 := eq_true c24
                      have c24b1 : decide (0 ≤ x6_2) = true := decide_eq_true c24
                      clear c24
                      by_cases c25 : x6_2 ≤ (x3_1.length : Int)
                      · rw [if_pos c25] at H
                        have c25b0 := eq_true c25
                        have c25b1 : decide (x6_2 ≤ (x3_1.length : Int)) = true := decide_eq_true c25
                        clear c25
                        obtain ⟨y435, hy435⟩ : ∃ y_ : List Int, y_ = (x3_1.take (x6_2 : Int).toNat) := ⟨_, rfl⟩
                        replace H : (if ([] : List Int).length + y435.length < 17592186044416 then ((some (([] : List Int) ++ y435 : List Int)).bind fun y439 => (if y439.length < 17592186044416 then ((some (y439 ++ [(rd l0 x13_1)] : List Int)).bind fun y442 => ((some (x3_1.drop (x6_2 : Int).toNat : List Int)).bind fun y445 => (if y442.length + y445.length < 17592186044416 then (spec_Recency.l0 k2 (y442 ++ y445) l0 (l0.length : Int) (wrap64 (x13_1 + 1))) else (none)))) else (none))) else (none)) = some r := by first | (rw [hy435]; with_reducible exact H) | (have H2_ := (Option.bind_some _ _).symm.trans H; rw [hy435]; with_reducible exact H2_) | (have H2_ := (Option.bind_some _ _).symm.trans H; with_reducible exact H2_) | with_reducible exact H | (rw [hy435]; exact H) | exact H
                        have Ny435 := Aside0.mk hy435
                        clear hy435
                        by_cases c26 : ([] : List Int).length + y435.length < 17592186044416
                        · rw [if_pos c26] at H
                          have LMc26 := Aside0.mk c26
                          clear c26
                          obtain ⟨y439, hy439⟩ : ∃ y_ : List Int, y_ = (([] : List Int) ++ y435) := ⟨_, rfl⟩
                          replace H : (if y439.length < 17592186044416 then ((some (y439 ++ [(rd l0 x13_1)] : List Int)).bind fun y442 => ((some (x3_1.drop (x6_2 : Int).toNat : List Int)).bind fun y445 => (if y442.length + y445.length < 17592186044416 then (spec_Recency.l0 k2 (y442 ++ y445) l0 (l0.length : Int) (wrap64 (x13_1 + 1))) else (none)))) else (none)) = some r := by first | (rw [hy439]; with_reducible exact H) | (have H2_ := (Option.bind_some _ _).symm.trans H; rw [hy439]; with_reducible exact H2_) | (have H2_ := (Option.bind_some _ _).symm.trans H; with_reducible exact H2_) | with_reducible exact H | (rw [hy439]; exact H) | exact H
                          have Ny439 := Aside0.mk hy439
                          clear hy439
                          by_cases c27 : y439.length < 17592186044416
                          · rw [if_pos c27] at H
                            have LMc27 := Aside0.mk c27
                            clear c27
                            obtain ⟨y442, hy442⟩ : ∃ y_ : List Int, y_ = (y439 ++ [(rd l0 x13_1)]) := ⟨_, rfl⟩
                            replace H : ((some (x3_1.drop (x6_2 : Int).toNat : List Int)).bind fun y445 => (if y442.length + y445.length < 17592186044416 then (spec_Recency.l0 k2 (y442 ++ y445) l0 (l0.length : Int) (wrap64 (x13_1 + 1))) else (none))) = some r := by first | (rw [hy442]; with_reducible exact H) | (have H2_ := (Option.bind_some _ _).symm.trans H; rw [hy442]; with_reducible exact H2_) | (have H2_ := (Option.bind_some _ _).symm.trans H; with_reducible exact H2_) | with_reducible exact H | (rw [hy442]; exact H) | exact H
                            have Ny442 := Aside0.mk hy442
                            clear hy442
                            have c28b0 := eq_true (of_decide_eq_true (by first | (with_reducible assumption) | assumption) : 0 ≤ x6_2)
                            have c29b0 := eq_true (of_decide_eq_true (by first | (with_reducible assumption) | assumption) : x6_2 ≤ (x3_1.length : Int))
                            obtain ⟨y445, hy445⟩ : ∃ y_ : List Int, y_ = (x3_1.drop (x6_2 : Int).toNat) := ⟨_, rfl⟩
                            replace H : (if y442.length + y445.length < 17592186044416 then (spec_Recency.l0 k2 (y442 ++ y445) l0 (l0.length : Int) (wrap64 (x13_1 + 1))) else (none)) = some r := by first | (rw [hy445]; with_reducible exact H) | (have H2_ := (Option.bind_some _ _).symm.trans H; rw [hy445]; with_reducible exact H2_) | (have H2_ := (Option.bind_some _ _).symm.trans H; with_reducible exact H2_) | with_reducible exact H | (rw [hy445]; exact H) | exact H
                            have Ny445 := Aside0.mk hy445
                            clear hy445
                            by_cases c30 : y442.length + y445.length < 17592186044416
                            · rw [if_pos c30] at H
                              have LMc30 := Aside0.mk c30
                              clear c30
                              obtain ⟨y449, hy449⟩ : ∃ y_ : List Int, y_ = (y442 ++ y445) := ⟨_, rfl⟩
                              replace H : (spec_Recency.l0 k2 y449 l0 (l0.length : Int) (wrap64 (x13_1 + 1))) = some r := by first | (rw [hy449]; with_reducible exact H) | (have H2_ := (Option.bind_some _ _).symm.trans H; rw [hy449]; with_reducible exact H2_) | (have H2_ := (Option.bind_some _ _).symm.trans H; with_reducible exact H2_) | with_reducible exact H | (rw [hy449]; exact H) | exact H
                              have Ny449 := Aside0.mk hy449
                              clear hy449
                              have H' := Aside0.mk H
                              clear H
                              have q31 : (x6_2 : Int) ≤ ((x3_1.length : Int) : Int) := of_decide_eq_true (by first | (with_reducible assumption) | assumption)
                              obtain ⟨i031, hi031, _, hsz31, _⟩ := info_parts info3
                              have hroom31 : x3_1.length ≤ co6 := (Kd.R_reads' HO_3.out).2.1
                              have hC31 : Kd.C (Kd.int .i64) _ Ao6 x3_1.length x3_1 := (Kd.R_reads' HO_3.out).2.2
                              have hcut31 := cut_to (P := Try.prog) 67 3 .i64 Try.underlying67 hi031 Ao6 x3_1.length co6 x6_2 (of_decide_eq_true (by first | (with_reducible assumption) | assumption)) q31 hroom31
                              have hr31 := Kd.C_take (m := (x6_2 : Int).toNat) hC31 (by omega)
                              have hy31 : y435.length = (x6_2 : Int).toNat := (by rw [Ny435.out, List.length_take]; omega)
                              rw [← Ny435.out] at hr31
                              rw [← hy31] at hcut31
                              have HR438 := Aside0.mk hr31
                              have HC438 := Aside0.mk (show y435.length ≤ co6 from by omega)
                              clear hr31 hC31 hroom31 hi031 hsz31
                              have KY31 := Aside0.mk hy31
                              clear hy31
                              have KL31 := Aside0.mk (show (x6_2 : Int).toNat ≤ x3_1.length from by omega)
                              replace q31 := eq_true q31
                              go_wp2_with (first | ((with_reducible refine gate_builtin (b := .append) (xs := #[.tmp 32, .tmp 35]) rfl ?_); at_builtin; refine Kd.R_append_rows (Kd.int .i64) (w0 := w) w.heap.size rfl (.tmp 32) (.tmp 35) 67 3 (.int .i64 0) 8 rfl Try.underlying67 info3 rfl (by decide) (by omega) (.slice none 0 0) ([] : List Int) y435 _ _ _ (fun k_ => some k_ ≠ (.slice Ao6 x3_1.length co6 : Value).ownBlock) (fun _ => False) rfl rfl ?aO ?aR (fun _ _ h => h) (fun _ h => h.elim) ?aF ?aB ?aS ?aL ?_; (case aR => repeat (first | exact (by repeat (first | (with_reducible exact HR438.out) | (with_reducible refine Kd.C_alloc ?_ _) | (with_reducible refine Kd.C_drewN ?_ _) | (with_reducible refine Kd.C_drew ?_) | exact HR438.out)) | (with_reducible refine Kd.C_alloc ?_ _) | (with_reducible refine Kd.C_drewN ?_ _) | (with_reducible refine Kd.C_drew ?_))); (case aB => exact (by repeat (first | (with_reducible first | exact HB.out | apply below_alloc | apply pw_below_drewN | apply below_drew1) | exact HB.out))); (case aF => exact (fun k_ hk => Kd.fresh' (Kd.R_lt (by (with_reducible repeat (first | apply Kd.R_alloc | apply Kd.R_drewN | apply Kd.R_drew)); exact HO_3.out)) k_ hk)); (case aO => exact ((Kd.R_nil _ _ _ _ (fun k_ => some k_ ≠ (.slice Ao6 x3_1.length co6 : Value).ownBlock)))); (case aS => exact (below_size (by repeat (first | (with_reducible first | exact HB.out | apply below_alloc | apply pw_below_drewN | apply below_drew1) | exact HB.out)))); (case aL => have := LMc26.out; omega); intro v440 w32 ho hb hg hat; rw [← Ny439.out] at ho; have n0_ := Aside0.mk (Kd.R_after (Kd.R_apart_nil (by (with_reducible repeat (first | apply Kd.R_alloc | apply Kd.R_drewN | apply Kd.R_drew)); exact HO_3.out)) hg hat); have n1_ := Aside0.mk (hb); have n2_ := Aside0.mk ((show Kd.C (Kd.int .i64) w32 Ao6 y435.length y435 from by rw [Ny435.out]; exact Kd.C_take (m := (x6_2 : Int).toNat) ((Kd.R_reads' (Kd.R_after (Kd.R_apart_nil (by (with_reducible repeat (first | apply Kd.R_alloc | apply Kd.R_drewN | apply Kd.R_drew)); exact HO_3.out)) hg hat)).2.2) KL31.out)); have n3_ := Aside0.mk (ho); clear HO_3; clear HB; clear HR438; have HO_3 := n0_; have HB := n1_; have HR438 := n2_; have HO441 := n3_; clear n0_ n1_ n2_ n3_; clear ho hb hg hat) | ((with_reducible refine gate_builtin (b := .append) (xs := #[.tmp 37, .tmp 39]) rfl ?_); at_builtin; refine Kd.R_append (Kd.int .i64) (w0 := w) w.heap.size rfl (.tmp 37) (.tmp 39) 67 3 (.int .i64 0) 8 rfl Try.underlying67 info3 rfl (by decide) (by omega) v440 y439 (rd l0 x13_1) [.int .i64 (rd l0 x13_1)] (fun k_ => some k_ ≠ (.slice Ao6 x3_1.length co6 : Value).ownBlock) (fun _ => False) rfl rfl ?aP (fun _ hk => hk.elim) ?aF ?aO ?aB ?aS ?aL ?_; (case aP => exact rfl); (case aB => exact (by repeat (first | (with_reducible first | exact HB.out | apply below_alloc | apply pw_below_drewN | apply below_drew1) | exact HB.out))); (case aF => exact (fun k_ hk => Kd.fresh' (Kd.R_lt (by (with_reducible repeat (first | apply Kd.R_alloc | apply Kd.R_drewN | apply Kd.R_drew)); exact HO_3.out)) k_ hk)); (case aO => exact (by (with_reducible repeat (first | apply Kd.R_alloc | apply Kd.R_drewN | apply Kd.R_drew)); exact HO441.out)); (case aS => exact (below_size (by repeat (first | (with_reducible first | exact HB.out | apply below_alloc | apply pw_below_drewN | apply below_drew1) | exact HB.out)))); (case aL => have := LMc27.out; omega); intro v443 w33 ho hb hg hat; rw [← Ny442.out] at ho; have n0_ := Aside0.mk (Kd.R_after (ok := (fun _ => True)) (by (with_reducible repeat (first | apply Kd.R_alloc | apply Kd.R_drewN | apply Kd.R_drew)); exact HO_3.out) hg hat); have n1_ := Aside0.mk (hb); have n2_ := Aside0.mk ((show Kd.C (Kd.int .i64) w33 Ao6 y435.length y435 from by rw [Ny435.out]; exact Kd.C_take (m := (x6_2 : Int).toNat) ((Kd.R_reads' (Kd.R_after (ok := (fun _ => True)) (by (with_reducible repeat (first | apply Kd.R_alloc | apply Kd.R_drewN | apply Kd.R_drew)); exact HO_3.out) hg hat)).2.2) KL31.out)); have n3_ := Aside0.mk (ho); clear HO_3; clear HB; clear HR438; clear HO441; have HO_3 := n0_; have HB := n1_; have HR438 := n2_; have HO444 := n3_; clear n0_ n1_ n2_ n3_; clear ho hb hg hat; have q34 : (x6_2 : Int) ≤ ((x3_1.length : Int) : Int) := of_decide_eq_true (by first | (with_reducible assumption) | assumption); obtain ⟨i034, hi034, _, hsz34, _⟩ := info_parts info3; have hroom34 : x3_1.length ≤ co6 := (Kd.R_reads' HO_3.out).2.1; have hC34 : Kd.C (Kd.int .i64) _ Ao6 x3_1.length x3_1 := (Kd.R_reads' HO_3.out).2.2; have q034 : (0 : Int) ≤ (x6_2 : Int) := of_decide_eq_true (by first | (with_reducible assumption) | assumption); have hcut34 := cut_from (P := Try.prog) 67 3 .i64 Try.underlying67 hi034 1 hsz34 Ao6 x3_1.length co6 x6_2 q034 q34; have hr34 := Kd.C_drop (m := (x6_2 : Int).toNat) (c := co6) hC34 (by omega) hroom34; obtain ⟨A34, hA34⟩ : ∃ A1, A1 = (if co6 = (x6_2 : Int).toNat then Ao6 else (Ao6 : Option Addr).map (·.add ((x6_2 : Int).toNat * 1))) := ⟨_, rfl⟩; obtain ⟨c34, hc34⟩ : ∃ c1, c1 = co6 - (x6_2 : Int).toNat := ⟨_, rfl⟩; have hy34 : y445.length = x3_1.length - (x6_2 : Int).toNat := (by rw [Ny445.out, List.length_drop] <;> omega); rw [show (x3_1).drop (x6_2 : Int).toNat = y445 from Ny445.out.symm] at hr34; replace hr34 : Kd.C (Kd.int .i64) _ A34 y445.length y445 := (by rw [hA34]; exact hr34); rw [← hy34, ← hA34, ← hc34] at hcut34; have HR448 := Aside0.mk hr34; have HC448 := Aside0.mk (show y445.length ≤ c34 from by rw [hy34, hc34]; exact Nat.sub_le_sub_right hroom34 _); clear hr34 hC34 hroom34 hi034 hsz34 hc34; have KY34 := Aside0.mk hy34; have KA34 := Aside0.mk hA34; clear hy34 hA34; have KL34 := Aside0.mk (show (x6_2 : Int).toNat ≤ x3_1.length from by omega); replace q34 := eq_true q34) | ((with_reducible refine gate_builtin (b := .append) (xs := #[.tmp 41, .tmp 44]) rfl ?_); at_builtin; refine Kd.R_append_rows (Kd.int .i64) (w0 := w) w.heap.size rfl (.tmp 41) (.tmp 44) 67 3 (.int .i64 0) 8 rfl Try.underlying67 info3 rfl (by decide) (by omega) v443 y442 y445 _ _ _ (fun k_ => some k_ ≠ (.slice Ao6 x3_1.length co6 : Value).ownBlock) (fun _ => False) rfl rfl ?aO ?aR (fun _ _ h => h) (fun _ h => h.elim) ?aF ?aB ?aS ?aL ?_; (case aR => repeat (first | exact (by repeat (first | (with_reducible exact HR448.out) | (with_reducible refine Kd.C_alloc ?_ _) | (with_reducible refine Kd.C_drewN ?_ _) | (with_reducible refine Kd.C_drew ?_) | exact HR448.out)) | (with_reducible refine Kd.C_alloc ?_ _) | (with_reducible refine Kd.C_drewN ?_ _) | (with_reducible refine Kd.C_drew ?_))); (case aB => exact (by repeat (first | (with_reducible first | exact HB.out | apply below_alloc | apply pw_below_drewN | apply below_drew1) | exact HB.out))); (case aF => exact (fun k_ hk => Kd.fresh' (Kd.R_lt (by (with_reducible repeat (first | apply Kd.R_alloc | apply Kd.R_drewN | apply Kd.R_drew)); exact HO_3.out)) k_ hk)); (case aO => exact (by (with_reducible repeat (first | apply Kd.R_alloc | apply Kd.R_drewN | apply Kd.R_drew)); exact HO444.out)); (case aS => exact (below_size (by repeat (first | (with_reducible first | exact HB.out | apply below_alloc | apply pw_below_drewN | apply below_drew1) | exact HB.out)))); (case aL => have := LMc30.out; omega); intro v450 w35 ho hb hg hat; rw [← Ny449.out] at ho; have n0_ := Aside0.mk (Kd.R_after (ok := (fun _ => True)) (by (with_reducible repeat (first | apply Kd.R_alloc | apply Kd.R_drewN | apply Kd.R_drew)); exact HO_3.out) hg hat); have n1_ := Aside0.mk (hb); have n2_ := Aside0.mk ((show Kd.C (Kd.int .i64) w35 Ao6 y435.length y435 from by rw [Ny435.out]; exact Kd.C_take (m := (x6_2 : Int).toNat) ((Kd.R_reads' (Kd.R_after (ok := (fun _ => True)) (by (with_reducible repeat (first | apply Kd.R_alloc | apply Kd.R_drewN | apply Kd.R_drew)); exact HO_3.out) hg hat)).2.2) KL31.out)); have n3_ := Aside0.mk ((show Kd.C (Kd.int .i64) w35 A34 y445.length y445 from by rw [Ny445.out, KA34.out]; exact Kd.C_drop (m := (x6_2 : Int).toNat) (c := co6) ((Kd.R_reads' (Kd.R_after (ok := (fun _ => True)) (by (with_reducible repeat (first | apply Kd.R_alloc | apply Kd.R_drewN | apply Kd.R_drew)); exact HO_3.out) hg hat)).2.2) KL34.out ((Kd.R_reads' (Kd.R_after (ok := (fun _ => True)) (by (with_reducible repeat (first | apply Kd.R_alloc | apply Kd.R_drewN | apply Kd.R_drew)); exact HO_3.out) hg hat)).2.1))); have n4_ := Aside0.mk (ho); clear HO_3; clear HB; clear HR438; clear HR448; clear HO444; have HO_3 := n0_; have HB := n1_; have HR438 := n2_; have HR448 := n3_; have HO451 := n4_; clear n0_ n1_ n2_ n3_ n4_; clear ho hb hg hat))
                              go_roundg k2
                              case measure => have := HK1.out; have := HK2.out; omega
                              case rel => exact ⟨(y449), (wrap64 (x13_1 + 1)), (by first | rfl | (simp; done) | (simp [*]; done)), H', ⟨by have := HK1.out; have := HK2.out; omega⟩, ⟨by (with_reducible repeat (first | apply Kd.R_alloc | apply Kd.R_drewN | apply Kd.R_drew)); exact Kd.R_mono HO451.out (fun _ hk => trivial)⟩, ⟨by repeat (first | (with_reducible first | exact HB.out | apply below_alloc | apply pw_below_drewN | apply below_drew1) | exact HB.out)⟩⟩
                            · rw [if_neg c30] at H
                              exact absurd H (by simp)
                          · rw [if_neg c27] at H
                            exact absurd H (by simp)
                        · rw [if_neg c26] at H
                          exact absurd H (by simp)
                      · rw [if_neg c25] at H
                        exact absurd H (by simp)
                    · rw [if_neg c24] at H
                      exact absurd H (by simp)
            · rw [if_neg c5] at H
              exact absurd H (by simp)
          · rw [if_neg c4] at H
            exact absurd H (by simp)
        · rw [if_neg c3] at H
          have c3b0 : decide (x13_1 < (l0.length : Int)) = false := decide_eq_false c3
          clear c3
          obtain rfl := Option.some.inj H
          go_wp2
          go_ret
          exact ⟨_, by first | rfl | (simp [errW_none, errW_some] <;> rfl) | (simp [*, errW_none, errW_some] <;> rfl), by (with_reducible repeat (first | apply Kd.R_alloc | apply Kd.R_drewN | apply Kd.R_drew)); exact HO_3.out, by repeat (first | (with_reducible first | exact HB.out | apply below_alloc | apply pw_below_drewN | apply below_drew1) | exact HB.out)⟩
def laws_toIntS.l0 : Nat → List Int → List Int → Int → Option (List Int)
  | 0, _, _, _ => none
  | k + 1, x0, x3, x4 => if x4 < (x0.length : Int) then (if 0 ≤ x4 then (if x4 < (x3.length : Int) then (laws_toIntS.l0 k x0 (x3.set (x4 : Int).toNat (rd x0 x4)) (wrap64 (x4 + 1))) else (none)) else (none)) else (some x3)
def laws_toIntS.f (k : Nat) (l0 : List Int) : Option (List Int) := if 0 ≤ (l0.length : Int) then (if ((l0.length : Int) : Int).toNat ≤ 35184372088832 then (laws_toIntS.l0 k l0 (List.replicate ((l0.length : Int) : Int).toNat 0) 0) else (none)) else (none)
theorem laws_toIntS.mono_l : ∀ k, (∀ y0 y1 y2, LeO (laws_toIntS.l0 k y0 y1 y2) (laws_toIntS.l0 (k + 1) y0 y1 y2))
  | 0 => fun _ _ _ r h => by simp [laws_toIntS.l0] at h
  | k + 1 => by
    have ih0 := laws_toIntS.mono_l k
    · intro y0 y1 y2
      unfold laws_toIntS.l0
      repeat' first
      | (with_reducible exact ih0 _ _ _)
      | (with_reducible exact LeO.refl _)
      | (with_reducible exact LeO.none _)
      | (with_reducible refine LeO.ite ?_ ?_)
      | (with_reducible refine LeO.bind ?_ (fun _ => ?_))
      | exact ih0 _ _ _
      | exact LeO.none _
      | refine LeO.ite ?_ ?_
      | refine LeO.bind ?_ (fun _ => ?_)
theorem laws_toIntS.mono : ∀ a0 k, LeO (laws_toIntS.f k a0) (laws_toIntS.f (k + 1) a0) := by
  intro a0 k
  have ih0 := laws_toIntS.mono_l k
  unfold laws_toIntS.f
  repeat' first
      | (with_reducible exact ih0 _ _ _)
      | (with_reducible exact LeO.refl _)
      | (with_reducible exact LeO.none _)
      | (with_reducible refine LeO.ite ?_ ?_)
      | (with_reducible refine LeO.bind ?_ (fun _ => ?_))
      | exact ih0 _ _ _
      | exact LeO.none _
      | refine LeO.ite ?_ ?_
      | refine LeO.bind ?_ (fun _ => ?_)
set_option maxHeartbeats 8000000 in
set_option maxRecDepth 100000 in
theorem laws_toIntS.calls (k : Nat) (A0 : Option Addr) (c0 : Nat) (l0 : List Int) (r : List Int) (w : World) (hr0 : Kd.C (Kd.int .i64) w A0 l0.length l0) (hc0 : l0.length ≤ c0) (h : laws_toIntS.f k l0 = some r) :
    Calls Try.prog 32 #[.slice A0 l0.length c0] w fun e w' => ∃ v0_ : Value, e = .returned (v0_) ∧ Kd.R (Kd.int .i64) 3 w' w.heap.size (fun _ => True) v0_ r ∧ Below w.heap.size w w' := by
  have HR0 := Aside0.mk hr0
  have HC0 := Aside0.mk hc0
  clear hr0 hc0
  have HB := Aside0.mk (Below.refl w.heap.size w)
  have H : (if 0 ≤ (l0.length : Int) then (if ((l0.length : Int) : Int).toNat ≤ 35184372088832 then (laws_toIntS.l0 k l0 (List.replicate ((l0.length : Int) : Int).toNat 0) 0) else (none)) else (none)) = some r := h
  clear h
  by_cases c2 : 0 ≤ (l0.length : Int)
  · rw [if_pos c2] at H
    have c2b0 := eq_true c2
    have c2b1 : decide (0 ≤ (l0.length : Int)) = true := decide_eq_true c2
    clear c2
    by_cases c3 : ((l0.length : Int) : Int).toNat ≤ 35184372088832
    · rw [if_pos c3] at H
      have c3b0 := eq_true c3
      have c3b1 : decide (((l0.length : Int) : Int).toNat ≤ 35184372088832) = true := decide_eq_true c3
      clear c3
      obtain ⟨y452, hy452⟩ : ∃ y_ : List Int, y_ = (List.replicate ((l0.length : Int) : Int).toNat 0) := ⟨_, rfl⟩
      replace H : (laws_toIntS.l0 k l0 y452 0) = some r := by first | (rw [hy452]; with_reducible exact H) | (have H2_ := (Option.bind_some _ _).symm.trans H; rw [hy452]; with_reducible exact H2_) | (have H2_ := (Option.bind_some _ _).symm.trans H; with_reducible exact H2_) | with_reducible exact H | (rw [hy452]; exact H) | exact H
      have Ny452 := Aside0.mk hy452
      clear hy452
      have H' := Aside0.mk H
      clear H
      go_enter Try.func32, Try.ntmps32
      go_wp2_with (first | ((with_reducible refine gate_dst (N := 7) rfl ?_); refine Kd.R_make (Kd.int .i64) _ 3 rfl (N := 7) rfl 67 _ _ rfl (l0.length : Int) rfl rfl Try.underlying67 (.int .i64 0) 8 info3 rfl (by decide) (by omega) 0 (ok := fun _ => True) (okp := fun _ => True) rfl (fun _ hk => hk) trivial (of_decide_eq_true (by first | (with_reducible assumption) | assumption)) (Nat.le_trans (Nat.mul_le_mul_right _ (of_decide_eq_true (by first | (with_reducible assumption) | assumption) : (l0.length : Int).toNat ≤ 35184372088832)) (by omega)) (Below.refl _ _) (Nat.le_refl _) ?_; intro v453 w4 ho5 hb hg_ hnew_; clear hg_ hnew_; (first | rw [← Ny452.out] at ho5 | (simp only [Int.reduceToNat] at ho5; rw [← Ny452.out] at ho5)); have n0_ := Aside0.mk (Kd.R_lower ho5 (below_size (by repeat (first | (with_reducible first | exact HB.out | apply below_alloc | apply pw_below_drewN | apply below_drew1) | exact HB.out)))); have n1_ := Aside0.mk (below_step (by repeat (first | (with_reducible first | exact HB.out | apply below_alloc | apply pw_below_drewN | apply below_drew1) | exact HB.out)) hb); clear HB; have HO454 := n0_; have HB := n1_; clear n0_ n1_; clear hb ho5))
      go_loopg [4] k (fun kq v4 w' => ∃ (x3_1 : List Int) (x4_1 : Int), v4 = .int .i64 x4_1 ∧ Aside0 (laws_toIntS.l0 kq l0 x3_1 x4_1 = some r) ∧ Aside0 (kq ≤ k) ∧ Aside0 (Kd.R (Kd.int .i64) 3 w' w.heap.size (fun _ => True) v453 x3_1) ∧ Aside0 (Below w.heap.size w w'))
      case atStart => exact ⟨(y452), (0), (by first | rfl | (simp; done) | (simp [*]; done)), H', ⟨Nat.le_refl _⟩, ⟨by (with_reducible repeat (first | apply Kd.R_alloc | apply Kd.R_drewN | apply Kd.R_drew)); exact HO454.out⟩, ⟨by repeat (first | (with_reducible first | exact HB.out | apply below_alloc | apply pw_below_drewN | apply below_drew1) | exact HB.out)⟩⟩
      case round =>
        clear H'
        try clear c2
        try clear c2b0
        try clear c2b1
        try clear p2
        try clear c3
        try clear c3b0
        try clear c3b1
        obtain ⟨x3_1, x4_1, rfl, HA, HK1, HO_3, HB⟩ := hrel
        cases gk with
        | zero => exact absurd HA.out (by simp [laws_toIntS.l0])
        | succ k1 =>
          have H := HA.out
          clear HA
          simp only [laws_toIntS.l0] at H
          by_cases c6 : x4_1 < (l0.length : Int)
          · rw [if_pos c6] at H
            have c6b0 : decide (x4_1 < (l0.length : Int)) = true := decide_eq_true c6
            clear c6
            by_cases c7 : 0 ≤ x4_1
            · rw [if_pos c7] at H
              have c7b0 : decide (0 ≤ x4_1) = true := decide_eq_true c7
              clear c7
              by_cases c8 : x4_1 < (x3_1.length : Int)
              · rw [if_pos c8] at H
                have c8b0 : decide (x4_1 < (x3_1.length : Int)) = true := decide_eq_true c8
                clear c8
                obtain ⟨y456, hy456⟩ : ∃ y_ : List Int, y_ = (x3_1.set (x4_1 : Int).toNat (rd l0 x4_1)) := ⟨_, rfl⟩
                replace H : (laws_toIntS.l0 k1 l0 y456 (wrap64 (x4_1 + 1))) = some r := by first | (rw [hy456]; with_reducible exact H) | (have H2_ := (Option.bind_some _ _).symm.trans H; rw [hy456]; with_reducible exact H2_) | (have H2_ := (Option.bind_some _ _).symm.trans H; with_reducible exact H2_) | with_reducible exact H | (rw [hy456]; exact H) | exact H
                have Ny456 := Aside0.mk hy456
                clear hy456
                have H' := Aside0.mk H
                clear H
                have p455 : 0 ≤ (x4_1 : Int) := of_decide_eq_true (by first | (with_reducible assumption) | assumption)
                have q455 : x4_1 < (l0.length : Int) := of_decide_eq_true (by first | (with_reducible assumption) | assumption)
                obtain ⟨ad455, e455, hx455_0⟩ := Kd.at_int HR0.out x4_1 p455 q455
                cases e455
                replace hx455_0 := (HB.out.cell (World.block_lt_of_cell? w _ hx455_0)).trans hx455_0
                replace p455 := eq_true p455
                replace q455 := eq_true q455
                have p9 : 0 ≤ (x4_1 : Int) := of_decide_eq_true (by first | (with_reducible assumption) | assumption)
                have q9 : (x4_1 : Int) < ((x3_1.length : Int) : Int) := of_decide_eq_true (by first | (with_reducible assumption) | assumption)
                obtain ⟨go9, co9, eo9, gb9, gl9, cl9, HG9⟩ := Kd.R_form HO_3.out (by omega)
                (first | cases eo9 | (injection eo9 with ea_ en_ ec_; (first | subst ea_ | (injection ea_ with ea_; subst ea_)); subst ec_; clear en_))
                have GB9 := Aside0.mk gb9
                have GG9 := Aside0.mk HG9
                clear gb9 gl9 HG9
                obtain ⟨hx9_0, hf9_0⟩ := Kd.R_celln 0 HO_3.out (x4_1 : Int) p9 q9
                replace p9 := eq_true p9
                replace q9 := eq_true q9
                have HP10 := Kd.R_putg HO_3.out (x4_1 : Int) (rd l0 x4_1)
                go_wp2_with (first | ((with_reducible refine gate_store (t := 3) (p := 20) rfl ?_); refine store_event (t := 3) (p := 20) (v := ?vo_w11) (w1 := (wr.setCell ⟨go9, (x4_1 : Int).toNat, none⟩ (.int .i64 (rd l0 x4_1)))) ?hg ?ho ?hn ?hr ?_; (case ho => rfl); (case hg => rfl); (case hn => rfl); (case hr => first | (go_simp; done) | (go_simp; rfl)); intro w11 hw; have hg : wr.grownBy w11 (some go9) := (by rw [hw]; exact HP10.2); have hp_ : Kd.R (Kd.int .i64) 3 w11 w.heap.size (fun _ => True) (.slice (some ⟨go9, 0, none⟩) x3_1.length co9) y456 := (by rw [hw, Ny456.out]; exact HP10.1); clear HP10; have n0_ := Aside0.mk (hp_); have n1_ := Aside0.mk ((by rw [hw]; exact below_set (HB.out) GB9.out : Below w.heap.size w w11)); clear HO_3; clear HB; have HO_3 := n0_; have HB := n1_; clear n0_ n1_; clear hg hw hp_))
                go_roundg k1
                case measure => have := HK1.out; omega
                case rel => exact ⟨(y456), (wrap64 (x4_1 + 1)), (by first | rfl | (simp; done) | (simp [*]; done)), H', ⟨by have := HK1.out; omega⟩, ⟨by (with_reducible repeat (first | apply Kd.R_alloc | apply Kd.R_drewN | apply Kd.R_drew)); exact HO_3.out⟩, ⟨by repeat (first | (with_reducible first | exact HB.out | apply below_alloc | apply pw_below_drewN | apply below_drew1) | exact HB.out)⟩⟩
              · rw [if_neg c8] at H
                exact absurd H (by simp)
            · rw [if_neg c7] at H
              exact absurd H (by simp)
          · rw [if_neg c6] at H
            have c6b0 : decide (x4_1 < (l0.length : Int)) = false := decide_eq_false c6
            clear c6
            obtain rfl := Option.some.inj H
            go_wp2
            go_ret
            exact ⟨_, by first | rfl | (simp [errW_none, errW_some] <;> rfl) | (simp [*, errW_none, errW_some] <;> rfl), by (with_reducible repeat (first | apply Kd.R_alloc | apply Kd.R_drewN | apply Kd.R_drew)); exact HO_3.out, by repeat (first | (with_reducible first | exact HB.out | apply below_alloc | apply pw_below_drewN | apply below_drew1) | exact HB.out)⟩
    · rw [if_neg c3] at H
      exact absurd H (by simp)
  · rw [if_neg c2] at H
    exact absurd H (by simp)
def cmp_isNaN_int.f (a0 : Int) : Option (Bool) := some (a0 != a0)
def cmp_Less_int.f (a0 : Int) (a1 : Int) : Option (Bool) := (cmp_isNaN_int.f a0).bind fun t457 => (if t457 = true then ((cmp_isNaN_int.f a1).bind fun t458 => (if t458 = true then (some (decide (a0 < a1))) else (some true))) else (some (decide (a0 < a1))))
end Go.Proofs.Ytoncacdehhmpaaa.P
namespace Go.Proofs
open Go.Shelf
def Try.lays189_ren : Go.Shelf.Ren := ⟨fun | 189 => 80 | 125 => 122 | 257 => 121 | 128 => 154 | 129 => 155 | 294 => 145 | 295 => 146 | 296 => 147 | 297 => 148 | 298 => 149 | 299 => 150 | 216 => 151 | 300 => 152 | 301 => 153 | 328 => 166 | 329 => 167 | 330 => 168 | 331 => 169 | 332 => 170 | 215 => 171 | 343 => 173 | n => n, fun | 28 => 67 | 3 => 3 | 46 => 181 | 0 => 0 | 51 => 218 | 53 => 220 | 4 => 4 | 183 => 211 | 182 => 210 | 131 => 124 | 5 => 5 | 9 => 9 | 218 => 233 | 222 => 188 | 228 => 239 | 229 => 240 | n => n, fun | n => n⟩
theorem Try.lays189 : Go.Proofs.Lays.n189 Try.prog Try.lays189_ren := {
  mixed := by kernel_rfl
  f125 := Try.func122.trans (congrArg some (by kernel_rfl))
  f128 := Try.func154.trans (congrArg some (by kernel_rfl))
  f129 := Try.func155.trans (congrArg some (by kernel_rfl))
  f189 := Try.func80.trans (congrArg some (by kernel_rfl))
  f215 := Try.func171.trans (congrArg some (by kernel_rfl))
  f216 := Try.func151.trans (congrArg some (by kernel_rfl))
  f257 := Try.func121.trans (congrArg some (by kernel_rfl))
  f294 := Try.func145.trans (congrArg some (by kernel_rfl))
  f295 := Try.func146.trans (congrArg some (by kernel_rfl))
  f296 := Try.func147.trans (congrArg some (by kernel_rfl))
  f297 := Try.func148.trans (congrArg some (by kernel_rfl))
  f298 := Try.func149.trans (congrArg some (by kernel_rfl))
  f299 := Try.func150.trans (congrArg some (by kernel_rfl))
  f300 := Try.func152.trans (congrArg some (by kernel_rfl))
  f301 := Try.func153.trans (congrArg some (by kernel_rfl))
  f328 := Try.func166.trans (congrArg some (by kernel_rfl))
  f329 := Try.func167.trans (congrArg some (by kernel_rfl))
  f330 := Try.func168.trans (congrArg some (by kernel_rfl))
  f331 := Try.func169.trans (congrArg some (by kernel_rfl))
  f332 := Try.func170.trans (congrArg some (by kernel_rfl))
  f343 := Try.func173.trans (congrArg some (by kernel_rfl))
  t0 := Try.underlying0
  a0 := Try.isAgg0
  z0 := Try.sizeOf0
  v0 := Try.zeroValue0
  t3 := Try.underlying3
  a3 := Try.isAgg3
  z3 := Try.sizeOf3
  v3 := Try.zeroValue3
  t4 := Try.underlying4
  a4 := Try.isAgg4
  z4 := Try.sizeOf4
  v4 := Try.zeroValue4
  t5 := Try.underlying5
  a5 := Try.isAgg5
  z5 := Try.sizeOf5
  v5 := Try.zeroValue5
  t9 := Try.underlying9
  a9 := Try.isAgg9
  z9 := Try.sizeOf9
  v9 := Try.zeroValue9
  t28 := Try.underlying67
  a28 := Try.isAgg67
  z28 := Try.sizeOf67
  v28 := Try.zeroValue67
  t46 := Try.underlying181
  a46 := Try.isAgg181
  z46 := Try.sizeOf181
  v46 := Try.zeroValue181
  t51 := Try.underlying218
  a51 := Try.isAgg218
  z51 := Try.sizeOf218
  v51 := Try.zeroValue218
  t53 := Try.underlying220
  a53 := Try.isAgg220
  z53 := Try.sizeOf220
  v53 := Try.zeroValue220
  t131 := Try.underlying124
  a131 := Try.isAgg124
  z131 := Try.sizeOf124
  v131 := Try.zeroValue124
  t182 := Try.underlying210
  a182 := Try.isAgg210
  z182 := Try.sizeOf210
  v182 := Try.zeroValue210
  t183 := Try.underlying211
  a183 := Try.isAgg211
  z183 := Try.sizeOf211
  v183 := Try.zeroValue211
  t218 := Try.underlying233
  a218 := Try.isAgg233
  z218 := Try.sizeOf233
  v218 := Try.zeroValue233
  t222 := Try.underlying188
  a222 := Try.isAgg188
  z222 := Try.sizeOf188
  v222 := Try.zeroValue188
  t228 := Try.underlying239
  a228 := Try.isAgg239
  z228 := Try.sizeOf239
  v228 := Try.zeroValue239
  t229 := Try.underlying240
  a229 := Try.isAgg240
  z229 := Try.sizeOf240
  v229 := Try.zeroValue240 }
open Go.Sort Go.RowKit in
theorem Try.slices_Sort_int (blk off cap : Nat) (zs : List Int) (w : World) (hH : Holds (Value.int .i64) w blk off zs.toArray) (hblk : blk < w.heap.size) (hsz : zs.length < 4611686018427387904) :
    Calls Try.prog 80 #[.slice (some ⟨blk, off, none⟩) zs.length cap] w fun e w' =>
      e = .returned (.tuple #[]) ∧ ∃ n os, w' = grow (putRow (Value.int .i64) (Sort.ahead w n) blk off (zs.mergeSort fun x y => decide (x ≤ y)).toArray) os := Any.slices_Sort_int Try.lays189 blk off cap zs w hH hblk hsz
def Try.lays112_ren : Go.Shelf.Ren := ⟨fun | 112 => 81 | n => n, fun | 28 => 67 | 3 => 3 | 4 => 4 | 0 => 0 | n => n, fun | n => n⟩
theorem Try.lays112 : Go.Proofs.Lays.n112 Try.prog Try.lays112_ren := {
  mixed := by kernel_rfl
  f112 := Try.func81.trans (congrArg some (by kernel_rfl))
  t0 := Try.underlying0
  a0 := Try.isAgg0
  z0 := Try.sizeOf0
  v0 := Try.zeroValue0
  t3 := Try.underlying3
  a3 := Try.isAgg3
  z3 := Try.sizeOf3
  v3 := Try.zeroValue3
  t4 := Try.underlying4
  a4 := Try.isAgg4
  z4 := Try.sizeOf4
  v4 := Try.zeroValue4
  t28 := Try.underlying67
  a28 := Try.isAgg67
  z28 := Try.sizeOf67
  v28 := Try.zeroValue67 }
open Go.RowKit Go.Lib Go.Sort in
theorem Try.slices_Reverse_int (blk off cap : Nat) (zs : List Int) (w : World) (hH : Holds (Value.int .i64) w blk off zs.toArray) (hsz : zs.length ≤ 9223372036854775807) :
    Calls Try.prog 81 #[.slice (some ⟨blk, off, none⟩) zs.length cap] w fun e w' => e = .returned (.tuple #[]) ∧ ∃ n, w' = putRow (Value.int .i64) (Sort.ahead w n) blk off zs.reverse.toArray := Any.slices_Reverse_int Try.lays112 blk off cap zs w hH hsz
open Go.RowKit Go.Lib Go.Sort in
theorem Try.slices_Reverse_int_empty (a : Option Addr) (cap : Nat) (w : World) :
    Calls Try.prog 81 #[.slice a 0 cap] w fun e w' => e = .returned (.tuple #[]) ∧ w' = w := Any.slices_Reverse_int_empty Try.lays112 a cap w
def Try.laysNm215_ren : Go.Shelf.Ren := ⟨fun | 15 => 79 | n => n, fun | 22 => 67 | 3 => 3 | 4 => 4 | n => n, fun | n => n⟩
theorem Try.laysNm215 : Go.Proofs.Lays2.n15 Try.prog Try.laysNm215_ren := {
  mixed := by kernel_rfl
  f15 := Try.func79.trans (congrArg some (by kernel_rfl))
  t3 := Try.underlying3
  a3 := Try.isAgg3
  z3 := Try.sizeOf3
  v3 := Try.zeroValue3
  t4 := Try.underlying4
  a4 := Try.isAgg4
  z4 := Try.sizeOf4
  v4 := Try.zeroValue4
  t22 := Try.underlying67
  a22 := Try.isAgg67
  z22 := Try.sizeOf67
  v22 := Try.zeroValue67
  i3 := by kernel_rfl }
open Go.RowKit Go.Lib in
theorem Try.slices_Clone_int (b off n c : Nat) (zs : List Int) (w : World) (hz : n ≤ zs.length) (hbig : n * 8 ≤ 140737488355328) (hc : ∀ j, j < zs.length → w.cell? ⟨b, off + j, none⟩ = some (.int .i64 (zs.getD j 0))) :
    Calls Try.prog 79 #[.slice (some ⟨b, off, none⟩) n c] w fun e w' => ∃ v', e = .returned v' ∧ w'.ownsRow w.heap.size 3 1 v' n ((zs.take n).map (Value.int .i64)) ∧ v' ≠ .slice none 0 0 ∧ Below w.heap.size w w' := Any.slices_Clone_int Try.laysNm215 b off n c zs w hz hbig hc
open Go.RowKit Go.Lib in
theorem Try.slices_Clone_int_nil (n c : Nat) (w : World) :
    Calls Try.prog 79 #[.slice none n c] w fun e w' => e = .returned (.slice none 0 0) ∧ w' = w := Any.slices_Clone_int_nil Try.laysNm215 n c w
open Go.RowKit Go.Lib in
theorem Try.slices_Clone_int_zero (a : Addr) (c : Nat) (w : World) :
    Calls Try.prog 79 #[.slice (some a) 0 c] w fun e w' => ∃ v', e = .returned v' ∧ w'.ownsRow w.heap.size 3 1 v' 0 [] ∧ v' ≠ .slice none 0 0 ∧ Below w.heap.size w w' := Any.slices_Clone_int_zero Try.laysNm215 a c w
open Go.RowKit Go.Sort in
theorem Try.slices_Sort_int_none (p : Option Addr) (cap : Nat) (w : World) :
    Calls Try.prog 80 #[.slice p 0 cap] w fun e w' => e = .returned (.tuple #[]) ∧ w' = w := Any.slices_Sort_int_none Try.lays189 p cap w
end Go.Proofs
namespace Go.Proofs.YtoncacdehhmpaaaX
open Go.RowKit Go.Proofs.YtoncacdehhmpaaaW.PrintWords
set_option linter.unusedVariables false
set_option linter.unusedSimpArgs false
theorem wrap_succ {i n : Nat} (h : i < n) (hn : n ≤ 9223372036854775807) : wrap64 ((i : Int) + 1) = ((i + 1 : Nat) : Int) := by
  unfold wrap64
  omega
theorem up_ind {n : Nat} {P : Nat → Prop} (he : P n) (hs : ∀ i, i < n → P (i + 1) → P i) : ∀ i, i ≤ n → P i := by
  intro i hi
  obtain ⟨d, hd⟩ : ∃ d, n = i + d := ⟨n - i, by omega⟩
  induction d generalizing i with
  | zero => rw [show i = n by omega]; exact he
  | succ d ih => exact hs i (by omega) (ih (i + 1) (by omega) (by omega))
theorem getD_lt {α : Type} {xs : List α} {i : Nat} (z : α) (h : i < xs.length) : xs.getD i z = xs[i] := by
  rw [List.getD_eq_getElem?_getD, List.getElem?_eq_getElem h]
  rfl
theorem drop_getD {α : Type} {xs : List α} {i : Nat} (z : α) (h : i < xs.length) : xs.drop i = xs.getD i z :: xs.drop (i + 1) := by
  rw [getD_lt z h]
  exact List.drop_eq_getElem_cons h
theorem to_loop {α β : Type} (xs : List α) (z : α) (f : α → β) (L : Nat → List β → Int → Option (List β))
    (hstep : ∀ (i : Nat) (out r : List β), i < xs.length → out.length = xs.length → Ev (fun k => L k (out.set i (f (xs.getD i z))) ((i + 1 : Nat) : Int)) r → Ev (fun k => L k out (i : Int)) r)
    (hend : ∀ out, out.length = xs.length → Ev (fun k => L k out (xs.length : Int)) out) : ∀ out, out.length = xs.length → Ev (fun k => L k out 0) (xs.map f) := by
  have key : ∀ i, i ≤ xs.length → ∀ out : List β, out.length = xs.length → Ev (fun k => L k out (i : Int)) (out.take i ++ (xs.drop i).map f) := by
    refine up_ind ?_ ?_
    · intro out ho
      rw [List.drop_length, List.map_nil, List.append_nil, ← ho, List.take_length, ho]
      exact hend out ho
    · intro i hi ih out ho
      refine hstep i out _ hi ho ?_
      have := ih (out.set i (f (xs.getD i z))) (by simpa using ho)
      have e : (out.set i (f (xs.getD i z))).take (i + 1) ++ (xs.drop (i + 1)).map f = out.take i ++ (xs.drop i).map f := by
        rw [drop_getD z hi, List.map_cons, List.take_succ_eq_append_getElem (by simpa [ho] using hi), List.take_set_of_le (Nat.le_refl i)]
        simp
      rw [e] at this
      exact this
  intro out ho
  have := key 0 (Nat.zero_le _) out ho
  simpa using this
theorem eq_loop (n : Nat) (L : Nat → Int → Option Bool) (hstep : ∀ i : Nat, i < n → Ev (fun k => L k ((i + 1 : Nat) : Int)) true → Ev (fun k => L k (i : Int)) true)
    (hend : Ev (fun k => L k (n : Int)) true) : Ev (fun k => L k 0) true := by
  have := up_ind (P := fun i => Ev (fun k => L k (i : Int)) true) hend (fun i hi h => hstep i hi h) 0 (Nat.zero_le _)
  exact this
end Go.Proofs.YtoncacdehhmpaaaX
namespace Go.Proofs.Ytoncacdehhmpaaa.P
open Go.RowKit Go.Proofs.YtoncacdehhmpaaaW.PrintWords Go.Proofs.YtoncacdehhmpaaaW.PrintLast Go.Proofs.YtoncacdehhmpaaaW.PrintMore
attribute [local go_sem] max2_int min2_int max_two min_two max_three min_three max_four min_four
set_option linter.unusedVariables false
set_option linter.unusedSimpArgs false
def recencyL (l : List Int) : List Int := if 1000 < l.length then [] else (l.mergeSort fun x y => decide (x ≤ y)).reverse
def impl_Recency.f (l0 : List Int) : Option (List Int) := some (recencyL l0)
theorem spot_none {w : World} {a : Addr} {v : Value} (h : w.cell? a = some v) : a = ⟨a.block, a.off, none⟩ := by
  cases a with
  | mk b o s =>
    cases s with
    | none => rfl
    | some k =>
      simp [World.cell?] at h
      split at h <;> cases h
open Go.Sort Go.Lib in
theorem own_sorted {w : World} {base : Nat} {v : Value} {zs : List Int} (h : w.ownsRow base 3 1 v zs.length (zs.map (Value.int .i64))) (hv : v ≠ .slice none 0 0) (hz : zs.length < 4611686018427387904) :
    ∃ g cap, v = .slice (some ⟨g, 0, none⟩) zs.length cap ∧ base ≤ g ∧ g < w.heap.size ∧
      Calls Try.prog 80 #[v] w fun e w' => e = .returned (.tuple #[]) ∧ w'.ownsRow base 3 1 v zs.length ((zs.mergeSort fun x y => decide (x ≤ y)).map (Value.int .i64)) ∧ w.grownBy w' (some g) := by
  obtain ⟨g, cap, rfl, hb, hlt, hn, hm, hl, hH⟩ := holds_of_ownsRow h hv
  refine ⟨g, cap, rfl, hb, hlt, ?_⟩
  refine (Try.slices_Sort_int g 0 cap zs w hH hlt hz).mono ?_
  rintro e w' ⟨rfl, n, os, rfl⟩
  refine ⟨rfl, ?_, grownBy_sortedI _⟩
  rcases h.2 with ⟨h0, _⟩ | ⟨g', cap', cur, hv', hg', hh, h1, h2, h3, h4⟩
  · cases h0
  · cases hv'
    exact ownsRow_sortedI (by simp) hb hh h1 h2 h3
open Go.Proofs.YtoncacdehhmpaaaX Go.Sort Go.Lib in
set_option maxHeartbeats 4000000 in
set_option maxRecDepth 100000 in
theorem impl_Recency.calls (A0 : Option Addr) (c0 : Nat) (l0 : List Int) (r : List Int) (w : World) (hr0 : Kd.C (Kd.int .i64) w A0 l0.length l0) (hc0 : l0.length ≤ c0) (h : impl_Recency.f l0 = some r) :
    Calls Try.prog 33 #[.slice A0 l0.length c0] w fun e w' => ∃ v0_ : Value, e = .returned (v0_) ∧ Kd.R (Kd.int .i64) 3 w' w.heap.size (fun _ => True) v0_ r ∧ Below w.heap.size w w' := by
  have h := Option.some.inj h
  subst h
  have HB := Aside0.mk (Below.refl w.heap.size w)
  by_cases h1 : 1000 < l0.length
  · have q1 : decide (1000 < (l0.length : Int)) = true := decide_eq_true (by omega)
    rw [show recencyL l0 = [] by unfold recencyL; rw [if_pos h1]]
    clear h1 hr0 hc0
    go_enter Try.func33, Try.ntmps33
    go_wp2
    go_ret
    exact ⟨_, rfl, Kd.R_nil _ _ _ _ _, HB.out⟩
  have q1 : decide (1000 < (l0.length : Int)) = false := decide_eq_false (by omega)
  have hv : recencyL l0 = (l0.mergeSort fun x y => decide (x ≤ y)).reverse := by unfold recencyL; rw [if_neg h1]
  have HV := Aside0.mk hv
  have hl : l0.length ≤ 1000 := by omega
  have hcl : Calls Try.prog 79 #[.slice A0 l0.length c0] w fun e w' => ∃ v', e = .returned v' ∧ w'.ownsRow w.heap.size 3 1 v' l0.length (l0.map (Value.int .i64)) ∧ (v' = .slice none 0 0 → l0 = []) ∧ Below w.heap.size w w' := by
    cases l0 with
    | nil =>
      cases A0 with
      | none =>
        refine (Try.slices_Clone_int_nil 0 c0 w).mono ?_
        rintro e w' ⟨rfl, rfl⟩
        exact ⟨_, rfl, own_nil _ _ _ _, fun _ => rfl, Below.refl _ _⟩
      | some a =>
        refine (Try.slices_Clone_int_zero a c0 w).mono ?_
        rintro e w' ⟨v', rfl, ho, hn, hb⟩
        exact ⟨_, rfl, ho, fun _ => rfl, hb⟩
    | cons x xs =>
      obtain ⟨ad, c, e0, hs, hk, hcell⟩ := Kd.C_get hr0 (0 : Int) 0 (by omega) (by simp)
      obtain ⟨ad', e1, hall⟩ := hr0.2.2 (by simp)
      rw [e0] at e1
      have e1 := Option.some.inj e1
      subst e1
      have hat : ∀ j, j < (x :: xs).length → w.cell? (ad.add j) = some (.int .i64 ((x :: xs).getD j 0)) := by
        intro j hj
        obtain ⟨c', hs', hk', hc'⟩ := hall j _ (List.getElem?_eq_getElem hj)
        have hk'' : c' = [Value.int .i64 (x :: xs)[j]] := hk'
        subst hk''
        have := hc' 0 _ rfl
        rw [Go.Proofs.YtoncacdehhmpaaaX.getD_lt (0 : Int) hj]
        simpa [Kd.int, Kd.scalar] using this
      have h0 := hat 0 (by simp)
      have hsp : ad = ⟨ad.block, ad.off, none⟩ := by
        refine spot_none (w := w) (v := .int .i64 ((x :: xs).getD 0 0)) ?_
        simpa [Addr.add] using h0
      rw [e0, hsp]
      rw [hsp] at hat
      refine (Try.slices_Clone_int ad.block ad.off (x :: xs).length c0 (x :: xs) w (Nat.le_refl _) (by omega) (fun j hj => ?_)).mono ?_
      · have := hat j hj
        rw [Addr.add_lit] at this
        exact this
      · rintro e w' ⟨v', rfl, ho, hn, hb⟩
        rw [List.take_length] at ho
        exact ⟨_, rfl, ho, fun h => absurd h hn, hb⟩
  have HCL := Aside0.mk hcl
  have HL := Aside0.mk hl
  clear hcl hr0 hc0 h1 hv hl
  go_enter Try.func33, Try.ntmps33
  go_wp2_with (go_at_call 79; refine HCL.out.mono ?_; rintro e w1 ⟨v', rfl, ho, hn, hb⟩)
  by_cases hnil : v' = .slice none 0 0
  · have h0 := hn hnil
    subst h0
    subst hnil
    refine (Try.slices_Sort_int_none none 0 w1).mono ?_
    rintro e w2 ⟨rfl, rfl⟩
    go_wp2_with fail
    refine (Try.slices_Reverse_int_empty none 0 _).mono ?_
    rintro e w3 ⟨rfl, rfl⟩
    go_wp2
    go_ret
    exact ⟨_, rfl, by rw [HV.out, List.mergeSort_nil, List.reverse_nil]; exact Kd.R_nil _ _ _ _ _, hb⟩
  · obtain ⟨g, cap, rfl, hbg, hlt, hsort⟩ := own_sorted ho hnil (by have := HL.out; omega)
    refine hsort.mono ?_
    rintro e w2 ⟨rfl, ho2, hg2⟩
    have hb2 : Below w.heap.size w w2 := pw_below_grown hb _ hb.size hg2 (fun k hk => by cases hk; exact hbg)
    have HS2 := Aside0.mk ho2
    obtain ⟨g', cap', e1, _, _, _, _, hlen, hH⟩ := holds_of_ownsRow ho2 hnil
    have HB2 := Aside0.mk hb2
    have HBG := Aside0.mk hbg
    injection e1 with e2 _ e4
    injection e2 with e2
    injection e2 with e2 _ _
    subst e2
    subst e4
    have hrev := Try.slices_Reverse_int g 0 cap (l0.mergeSort fun x y => decide (x ≤ y)) w2 hH (by rw [hlen]; have := HL.out; omega)
    rw [hlen] at hrev
    have HR := Aside0.mk hrev
    have HN := Aside0.mk hlen
    clear hrev hH hb2 hbg ho ho2 hn hnil hsort hlen hb hg2 hlt
    go_wp2_with fail
    refine HR.out.mono ?_
    rintro e w3 ⟨rfl, n, rfl⟩
    go_wp2
    go_ret
    refine ⟨_, rfl, ?_, below_putRow HB2.out HBG.out⟩
    have ho3 := ownsRow_putRow (q := n) (ys := (l0.mergeSort fun x y => decide (x ≤ y)).reverse) (k := l0.length) HS2.out (by rw [List.length_reverse]; exact HN.out) (Nat.le_refl _)
    rw [HV.out]
    have hl3 : (l0.mergeSort fun x y => decide (x ≤ y)).reverse.length = l0.length := by rw [List.length_reverse]; exact HN.out
    rw [List.take_of_length_le (by omega)] at ho3
    refine Kd.R_of_own (enc := Value.int .i64) ?_ (fun _ _ => trivial)
    rw [hl3]
    exact ho3
end Go.Proofs.Ytoncacdehhmpaaa.P
namespace Go.Proofs.Ytoncacdehhmpaaa.P
open Go.RowKit Go.Proofs.YtoncacdehhmpaaaW.PrintWords Go.Proofs.YtoncacdehhmpaaaW.PrintLast Go.Proofs.YtoncacdehhmpaaaW.PrintMore
attribute [local go_sem] max2_int min2_int max_two min_two max_three min_three max_four min_four
set_option linter.unusedVariables false
set_option linter.unusedSimpArgs false
def laws_eqIntS.l0 : Nat → List Int → List Int → Int → Option (Bool)
  | 0, _, _, _ => none
  | k + 1, x0, x1, x5 => if x5 < (x0.length : Int) then (if 0 ≤ x5 then (if x5 < (x1.length : Int) then (if (rd x0 x5) = (rd x1 x5) then (laws_eqIntS.l0 k x0 x1 (wrap64 (x5 + 1))) else (some false)) else (none)) else (none)) else (some true)
def laws_eqIntS.f (k : Nat) (l0 : List Int) (l1 : List Int) : Option (Bool) := if (l0.length : Int) = (l1.length : Int) then (laws_eqIntS.l0 k l0 l1 0) else (some false)
theorem laws_eqIntS.mono_l : ∀ k, (∀ y0 y1 y2, LeO (laws_eqIntS.l0 k y0 y1 y2) (laws_eqIntS.l0 (k + 1) y0 y1 y2))
  | 0 => fun _ _ _ r h => by simp [laws_eqIntS.l0] at h
  | k + 1 => by
    have ih0 := laws_eqIntS.mono_l k
    · intro y0 y1 y2
      unfold laws_eqIntS.l0
      repeat' first
      | (with_reducible exact ih0 _ _ _)
      | (with_reducible exact LeO.refl _)
      | (with_reducible exact LeO.none _)
      | (with_reducible refine LeO.ite ?_ ?_)
      | (with_reducible refine LeO.bind ?_ (fun _ => ?_))
      | exact ih0 _ _ _
      | exact LeO.none _
      | refine LeO.ite ?_ ?_
      | refine LeO.bind ?_ (fun _ => ?_)
theorem laws_eqIntS.mono : ∀ a0 a1 k, LeO (laws_eqIntS.f k a0 a1) (laws_eqIntS.f (k + 1) a0 a1) := by
  intro a0 a1 k
  have ih0 := laws_eqIntS.mono_l k
  unfold laws_eqIntS.f
  repeat' first
      | (with_reducible exact ih0 _ _ _)
      | (with_reducible exact LeO.refl _)
      | (with_reducible exact LeO.none _)
      | (with_reducible refine LeO.ite ?_ ?_)
      | (with_reducible refine LeO.bind ?_ (fun _ => ?_))
      | exact ih0 _ _ _
      | exact LeO.none _
      | refine LeO.ite ?_ ?_
      | refine LeO.bind ?_ (fun _ => ?_)
set_option maxHeartbeats 8000000 in
set_option maxRecDepth 100000 in
theorem laws_eqIntS.calls (k : Nat) (A0 : Option Addr) (c0 : Nat) (l0 : List Int) (A1 : Option Addr) (c1 : Nat) (l1 : List Int) (r : Bool) (w : World) (hr0 : Kd.C (Kd.int .i64) w A0 l0.length l0) (hc0 : l0.length ≤ c0) (hr1 : Kd.C (Kd.int .i64) w A1 l1.length l1) (hc1 : l1.length ≤ c1) (h : laws_eqIntS.f k l0 l1 = some r) (hT_ : r = true := by first | rfl | assumption) :
    Calls Try.prog 34 #[.slice A0 l0.length c0, .slice A1 l1.length c1] w fun e w' => e = .returned (.bool r) ∧ Drawn0 w w' := by
  subst hT_
  have HR0 := Aside0.mk hr0
  have HC0 := Aside0.mk hc0
  clear hr0 hc0
  have HR1 := Aside0.mk hr1
  have HC1 := Aside0.mk hc1
  clear hr1 hc1
  have H : (if (l0.length : Int) = (l1.length : Int) then (laws_eqIntS.l0 k l0 l1 0) else (some false)) = some true := h
  clear h
  by_cases c3 : (l0.length : Int) = (l1.length : Int)
  · rw [if_pos c3] at H
    have c3b0 : ((l0.length : Int) == (l1.length : Int)) = true := beq_iff_eq.mpr c3
    have c3b1 : ((l0.length : Int) != (l1.length : Int)) = false := bne_eq_false_iff_eq.mpr c3
    have c3b2 : (l0.length == l1.length) = true := by first | simpa using c3 | (simp at c3 ⊢; omega)
    clear c3
    have H' := Aside0.mk H
    clear H
    go_enter Try.func34, Try.ntmps34
    go_wp2
    repeat (go_quiet (fail); try go_wp2)
    go_loopg [5] k (fun kq v5 w' => ∃ (x5_1 : Int), v5 = .int .i64 x5_1 ∧ Aside0 (laws_eqIntS.l0 kq l0 l1 x5_1 = some true) ∧ Aside0 (kq ≤ k) ∧ Drawn0 w w')
    case atStart => exact ⟨(0), (by first | rfl | (simp; done) | (simp [*]; done)), H', ⟨Nat.le_refl _⟩, by repeat (first | exact Drawn0.refl _ | apply Drawn0.step)⟩
    case round =>
      clear H'
      try clear c1
      try clear p2
      try clear c3
      try clear c3b0
      try clear c3b1
      try clear c3b2
      obtain ⟨x5_1, rfl, HA, HK1, ⟨m1, rfl⟩⟩ := hrel
      cases gk with
      | zero => exact absurd HA.out (by simp [laws_eqIntS.l0])
      | succ k1 =>
        have H := HA.out
        clear HA
        simp only [laws_eqIntS.l0] at H
        by_cases c4 : x5_1 < (l0.length : Int)
        · rw [if_pos c4] at H
          have c4b0 : decide (x5_1 < (l0.length : Int)) = true := decide_eq_true c4
          clear c4
          by_cases c5 : 0 ≤ x5_1
          · rw [if_pos c5] at H
            have c5b0 : decide (0 ≤ x5_1) = true := decide_eq_true c5
            clear c5
            by_cases c6 : x5_1 < (l1.length : Int)
            · rw [if_pos c6] at H
              have c6b0 : decide (x5_1 < (l1.length : Int)) = true := decide_eq_true c6
              clear c6
              by_cases c7 : (rd l0 x5_1) = (rd l1 x5_1)
              · rw [if_pos c7] at H
                have c7b0 : ((rd l0 x5_1) == (rd l1 x5_1)) = true := beq_iff_eq.mpr c7
                have c7b1 : ((rd l0 x5_1) != (rd l1 x5_1)) = false := bne_eq_false_iff_eq.mpr c7
                clear c7
                have H' := Aside0.mk H
                clear H
                have p581 : 0 ≤ (x5_1 : Int) := of_decide_eq_true (by first | (with_reducible assumption) | assumption)
                have q581 : x5_1 < (l0.length : Int) := of_decide_eq_true (by first | (with_reducible assumption) | assumption)
                obtain ⟨ad581, e581, hx581_0⟩ := Kd.at_int HR0.out x5_1 p581 q581
                cases e581
                replace p581 := eq_true p581
                replace q581 := eq_true q581
                have p582 : 0 ≤ (x5_1 : Int) := of_decide_eq_true (by first | (with_reducible assumption) | assumption)
                have q582 : x5_1 < (l1.length : Int) := of_decide_eq_true (by first | (with_reducible assumption) | assumption)
                obtain ⟨ad582, e582, hx582_0⟩ := Kd.at_int HR1.out x5_1 p582 q582
                cases e582
                replace p582 := eq_true p582
                replace q582 := eq_true q582
                go_wp2
                repeat (go_quiet (fail); try go_wp2)
                go_roundg k1
                case measure => have := HK1.out; omega
                case rel => exact ⟨(wrap64 (x5_1 + 1)), (by first | rfl | (simp; done) | (simp [*]; done)), H', ⟨by have := HK1.out; omega⟩, by repeat (first | exact Drawn0.refl _ | apply Drawn0.step)⟩
              · rw [if_neg c7] at H
                have c7b0 : ((rd l0 x5_1) == (rd l1 x5_1)) = false := beq_eq_false_iff_ne.mpr c7
                have c7b1 : ((rd l0 x5_1) != (rd l1 x5_1)) = true := bne_iff_ne.mpr c7
                exact absurd (Option.some.inj H) (by decide)
            · rw [if_neg c6] at H
              exact absurd H (by simp)
          · rw [if_neg c5] at H
            exact absurd H (by simp)
        · rw [if_neg c4] at H
          have c4b0 : decide (x5_1 < (l0.length : Int)) = false := decide_eq_false c4
          clear c4
          clear H
          go_wp2
          repeat (go_quiet (fail); try go_wp2)
          go_ret
          exact ⟨by first | rfl | (simp; done) | (simp [*]; done), by repeat (first | exact Drawn0.refl _ | apply Drawn0.step)⟩
  · rw [if_neg c3] at H
    have c3b0 : ((l0.length : Int) == (l1.length : Int)) = false := beq_eq_false_iff_ne.mpr c3
    have c3b1 : ((l0.length : Int) != (l1.length : Int)) = true := bne_iff_ne.mpr c3
    have c3b2 : (l0.length == l1.length) = false := by first | simpa using c3 | (simp at c3 ⊢; omega)
    exact absurd (Option.some.inj H) (by decide)
def laws_markIntS.l0 : Nat → List Int → Int → Int → Option (Int × List Int)
  | 0, _, _, _ => none
  | k + 1, x0, x1, x5 => if x5 < (x0.length : Int) then (if 0 ≤ x5 then (laws_markIntS.l0 k (x0.set (x5 : Int).toNat x1) (wrap64 (x1 + 1)) (wrap64 (x5 + 1))) else (none)) else (some (x1, x0))
def laws_markIntS.f (k : Nat) (l0 : List Int) (a1 : Int) : Option (Int × List Int) := laws_markIntS.l0 k l0 a1 0
theorem laws_markIntS.mono_l : ∀ k, (∀ y0 y1 y2, LeO (laws_markIntS.l0 k y0 y1 y2) (laws_markIntS.l0 (k + 1) y0 y1 y2))
  | 0 => fun _ _ _ r h => by simp [laws_markIntS.l0] at h
  | k + 1 => by
    have ih0 := laws_markIntS.mono_l k
    · intro y0 y1 y2
      unfold laws_markIntS.l0
      repeat' first
      | (with_reducible exact ih0 _ _ _)
      | (with_reducible exact LeO.refl _)
      | (with_reducible exact LeO.none _)
      | (with_reducible refine LeO.ite ?_ ?_)
      | (with_reducible refine LeO.bind ?_ (fun _ => ?_))
      | exact ih0 _ _ _
      | exact LeO.none _
      | refine LeO.ite ?_ ?_
      | refine LeO.bind ?_ (fun _ => ?_)
theorem laws_markIntS.mono : ∀ a0 a1 k, LeO (laws_markIntS.f k a0 a1) (laws_markIntS.f (k + 1) a0 a1) := by
  intro a0 a1 k
  have ih0 := laws_markIntS.mono_l k
  unfold laws_markIntS.f
  repeat' first
      | (with_reducible exact ih0 _ _ _)
      | (with_reducible exact LeO.refl _)
      | (with_reducible exact LeO.none _)
      | (with_reducible refine LeO.ite ?_ ?_)
      | (with_reducible refine LeO.bind ?_ (fun _ => ?_))
      | exact ih0 _ _ _
      | exact LeO.none _
      | refine LeO.ite ?_ ?_
      | refine LeO.bind ?_ (fun _ => ?_)
set_option maxHeartbeats 8000000 in
set_option maxRecDepth 100000 in
theorem laws_markIntS.calls (k : Nat) (P0_ : Nat → Prop) (u9000_ : Value) (l0 : List Int) (a1 : Int) (r1 : Int) (r2 : List Int) (w0 w : World) (hB : Below w0.heap.size w0 w) (ho0 : Kd.R (Kd.int .i64) 3 w w0.heap.size P0_ u9000_ l0) (h : laws_markIntS.f k l0 a1 = some (r1, r2)) :
    Calls Try.prog 35 #[u9000_, .int .i64 a1] w fun e w' => e = .returned (.int .i64 r1) ∧ Kd.R (Kd.int .i64) 3 w' w0.heap.size (fun k_ => (P0_ k_ ∨ w.heap.size ≤ k_)) u9000_ r2 ∧ Below w0.heap.size w0 w' ∧ Kept w w' (fun k_ => P0_ k_) := by
  have HO0 := Aside0.mk (show Kd.R (Kd.int .i64) 3 w w0.heap.size (fun k_ => (P0_ k_ ∨ w.heap.size ≤ k_)) u9000_ l0 from Kd.R_mono ho0 (fun k_ hk => (.inl hk)))
  have HK := Aside0.mk (Kept.refl w (fun k_ => P0_ k_))
  have HW0 := Aside0.mk hB.size
  have HB := Aside0.mk hB
  clear hB
  have H : (laws_markIntS.l0 k l0 a1 0) = some (r1, r2) := h
  clear h
  have H' := Aside0.mk H
  clear H
  go_enter Try.func35, Try.ntmps35
  go_wp2
  go_loopg [1, 5] k (fun kq v1 v5 w' => ∃ (x0_1 : List Int) (x1_1 : Int) (x5_1 : Int), v1 = .int .i64 x1_1 ∧ v5 = .int .i64 x5_1 ∧ Aside0 (laws_markIntS.l0 kq x0_1 x1_1 x5_1 = some (r1, r2)) ∧ Aside0 (kq ≤ k) ∧ Aside0 (Kd.R (Kd.int .i64) 3 w' w0.heap.size (fun k_ => (P0_ k_ ∨ w.heap.size ≤ k_)) u9000_ x0_1) ∧ Aside0 (Kept w w' (fun k_ => P0_ k_)) ∧ Aside0 (Below w0.heap.size w0 w'))
  case atStart => exact ⟨(l0), (a1), (0), (by first | rfl | (simp; done) | (simp [*]; done)), (by first | rfl | (simp; done) | (simp [*]; done)), H', ⟨Nat.le_refl _⟩, ⟨by (with_reducible repeat (first | apply Kd.R_alloc | apply Kd.R_drewN | apply Kd.R_drew)); exact HO0.out⟩, ⟨by repeat (first | (with_reducible first | exact HK.out | apply Kept.alloc | apply Kept.drewN | apply Kept.drew) | exact HK.out)⟩, ⟨by repeat (first | (with_reducible first | exact HB.out | apply below_alloc | apply pw_below_drewN | apply below_drew1) | exact HB.out)⟩⟩
  case round =>
    clear H'
    try clear p2
    obtain ⟨x0_1, x1_1, x5_1, rfl, rfl, HA, HK1, HO_0, HK, HB⟩ := hrel
    cases gk with
    | zero => exact absurd HA.out (by simp [laws_markIntS.l0])
    | succ k1 =>
      have H := HA.out
      clear HA
      simp only [laws_markIntS.l0] at H
      by_cases c3 : x5_1 < (x0_1.length : Int)
      · rw [if_pos c3] at H
        have c3b0 : decide (x5_1 < (x0_1.length : Int)) = true := decide_eq_true c3
        clear c3
        by_cases c4 : 0 ≤ x5_1
        · rw [if_pos c4] at H
          have c4b0 : decide (0 ≤ x5_1) = true := decide_eq_true c4
          clear c4
          obtain ⟨y583, hy583⟩ : ∃ y_ : List Int, y_ = (x0_1.set (x5_1 : Int).toNat x1_1) := ⟨_, rfl⟩
          replace H : (laws_markIntS.l0 k1 y583 (wrap64 (x1_1 + 1)) (wrap64 (x5_1 + 1))) = some (r1, r2) := by first | (rw [hy583]; with_reducible exact H) | (have H2_ := (Option.bind_some _ _).symm.trans H; rw [hy583]; with_reducible exact H2_) | (have H2_ := (Option.bind_some _ _).symm.trans H; with_reducible exact H2_) | with_reducible exact H | (rw [hy583]; exact H) | exact H
          have Ny583 := Aside0.mk hy583
          clear hy583
          have H' := Aside0.mk H
          clear H
          obtain ⟨Ao6, co6, eo6⟩ := Kd.R_slice HO_0.out
          subst eo6
          have p5 : 0 ≤ (x5_1 : Int) := of_decide_eq_true (by first | (with_reducible assumption) | assumption)
          have q5 : (x5_1 : Int) < ((x0_1.length : Int) : Int) := of_decide_eq_true (by first | (with_reducible assumption) | assumption)
          obtain ⟨go5, co5, eo5, gb5, gl5, cl5, HG5⟩ := Kd.R_form HO_0.out (by omega)
          (first | cases eo5 | (injection eo5 with ea_ en_ ec_; (first | subst ea_ | (injection ea_ with ea_; subst ea_)); subst ec_; clear en_))
          have GB5 := Aside0.mk gb5
          have GG5 := Aside0.mk HG5
          clear gb5 gl5 HG5
          have HMgo5 := Aside0.mk (show (P0_ go5 ∨ w.heap.size ≤ go5) from (HO_0.out.1 _ rfl))
          obtain ⟨hx5_0, hf5_0⟩ := Kd.R_celln 0 HO_0.out (x5_1 : Int) p5 q5
          replace p5 := eq_true p5
          replace q5 := eq_true q5
          have HP7 := Kd.R_putg HO_0.out (x5_1 : Int) x1_1
          go_wp2_with (first | ((with_reducible refine gate_store (t := 3) (p := 15) rfl ?_); refine store_event (t := 3) (p := 15) (v := ?vo_w8) (w1 := (wr.setCell ⟨go5, (x5_1 : Int).toNat, none⟩ (.int .i64 x1_1))) ?hg ?ho ?hn ?hr ?_; (case ho => rfl); (case hg => rfl); (case hn => rfl); (case hr => first | (go_simp; done) | (go_simp; rfl)); intro w8 hw; have hg : wr.grownBy w8 (some go5) := (by rw [hw]; exact HP7.2); have hp_ : Kd.R (Kd.int .i64) 3 w8 w0.heap.size (fun k_ => (P0_ k_ ∨ w.heap.size ≤ k_)) (.slice (some ⟨go5, 0, none⟩) x0_1.length co6) y583 := (by rw [hw, Ny583.out]; exact HP7.1); clear HP7; have n0_ := Aside0.mk (hp_); have n1_ := Aside0.mk ((by rw [hw]; exact below_set (HB.out) GB5.out : Below w0.heap.size w0 w8)); have n2_ := Aside0.mk (Kept.of_grown (S := (fun k_ => P0_ k_)) hg (by repeat (first | (with_reducible first | exact HK.out | apply Kept.alloc | apply Kept.drewN | apply Kept.drew) | exact HK.out)) (fun k_ e_ => (HO_0.out.1 k_ e_))); clear HO_0; clear HB; clear HK; have HO_0 := n0_; have HB := n1_; have HK := n2_; clear n0_ n1_ n2_; clear hg hw hp_))
          go_roundg k1
          case measure => have := HK1.out; omega
          case rel => exact ⟨(y583), (wrap64 (x1_1 + 1)), (wrap64 (x5_1 + 1)), (by first | rfl | (simp; done) | (simp [*]; done)), (by first | rfl | (simp; done) | (simp [*]; done)), H', ⟨by have := HK1.out; omega⟩, ⟨by (with_reducible repeat (first | apply Kd.R_alloc | apply Kd.R_drewN | apply Kd.R_drew)); exact HO_0.out⟩, ⟨by repeat (first | (with_reducible first | exact HK.out | apply Kept.alloc | apply Kept.drewN | apply Kept.drew) | exact HK.out)⟩, ⟨by repeat (first | (with_reducible first | exact HB.out | apply below_alloc | apply pw_below_drewN | apply below_drew1) | exact HB.out)⟩⟩
        · rw [if_neg c4] at H
          exact absurd H (by simp)
      · rw [if_neg c3] at H
        have c3b0 : decide (x5_1 < (x0_1.length : Int)) = false := decide_eq_false c3
        clear c3
        simp only [Option.some.injEq, Prod.mk.injEq] at H
        obtain ⟨rfl, rfl⟩ := H
        obtain ⟨Ao9, co9, eo9⟩ := Kd.R_slice HO_0.out
        subst eo9
        go_wp2
        go_ret
        exact ⟨by first | rfl | (simp [errW_none, errW_some] <;> rfl) | (simp [*, errW_none, errW_some] <;> rfl), by (with_reducible repeat (first | apply Kd.R_alloc | apply Kd.R_drewN | apply Kd.R_drew)); exact HO_0.out, by repeat (first | (with_reducible first | exact HB.out | apply below_alloc | apply pw_below_drewN | apply below_drew1) | exact HB.out), by repeat (first | (with_reducible first | exact HK.out | apply Kept.alloc | apply Kept.drewN | apply Kept.drew) | exact HK.out)⟩
def laws_heldIntS.l0 : Nat → List Int → Int → Int → Option (Int)
  | 0, _, _, _ => none
  | k + 1, x0, x1, x5 => if x5 < (x0.length : Int) then (if 0 ≤ x5 then (if (rd x0 x5) = x1 then (laws_heldIntS.l0 k x0 (wrap64 (x1 + 1)) (wrap64 (x5 + 1))) else (some (-1))) else (none)) else (some x1)
def laws_heldIntS.f (k : Nat) (l0 : List Int) (a1 : Int) : Option (Int) := laws_heldIntS.l0 k l0 a1 0
theorem laws_heldIntS.mono_l : ∀ k, (∀ y0 y1 y2, LeO (laws_heldIntS.l0 k y0 y1 y2) (laws_heldIntS.l0 (k + 1) y0 y1 y2))
  | 0 => fun _ _ _ r h => by simp [laws_heldIntS.l0] at h
  | k + 1 => by
    have ih0 := laws_heldIntS.mono_l k
    · intro y0 y1 y2
      unfold laws_heldIntS.l0
      repeat' first
      | (with_reducible exact ih0 _ _ _)
      | (with_reducible exact LeO.refl _)
      | (with_reducible exact LeO.none _)
      | (with_reducible refine LeO.ite ?_ ?_)
      | (with_reducible refine LeO.bind ?_ (fun _ => ?_))
      | exact ih0 _ _ _
      | exact LeO.none _
      | refine LeO.ite ?_ ?_
      | refine LeO.bind ?_ (fun _ => ?_)
theorem laws_heldIntS.mono : ∀ a0 a1 k, LeO (laws_heldIntS.f k a0 a1) (laws_heldIntS.f (k + 1) a0 a1) := by
  intro a0 a1 k
  have ih0 := laws_heldIntS.mono_l k
  unfold laws_heldIntS.f
  repeat' first
      | (with_reducible exact ih0 _ _ _)
      | (with_reducible exact LeO.refl _)
      | (with_reducible exact LeO.none _)
      | (with_reducible refine LeO.ite ?_ ?_)
      | (with_reducible refine LeO.bind ?_ (fun _ => ?_))
      | exact ih0 _ _ _
      | exact LeO.none _
      | refine LeO.ite ?_ ?_
      | refine LeO.bind ?_ (fun _ => ?_)
set_option maxHeartbeats 8000000 in
set_option maxRecDepth 100000 in
theorem laws_heldIntS.calls (k : Nat) (A0 : Option Addr) (c0 : Nat) (l0 : List Int) (a1 : Int) (r : Int) (w : World) (hr0 : Kd.C (Kd.int .i64) w A0 l0.length l0) (hc0 : l0.length ≤ c0) (h : laws_heldIntS.f k l0 a1 = some r) :
    Calls Try.prog 36 #[.slice A0 l0.length c0, .int .i64 a1] w fun e w' => e = .returned (.int .i64 r) ∧ Drawn0 w w' := by
  have HR0 := Aside0.mk hr0
  have HC0 := Aside0.mk hc0
  clear hr0 hc0
  have H : (laws_heldIntS.l0 k l0 a1 0) = some r := h
  clear h
  have H' := Aside0.mk H
  clear H
  go_enter Try.func36, Try.ntmps36
  go_wp2
  go_loopg [1, 5] k (fun kq v1 v5 w' => ∃ (x1_1 : Int) (x5_1 : Int), v1 = .int .i64 x1_1 ∧ v5 = .int .i64 x5_1 ∧ Aside0 (laws_heldIntS.l0 kq l0 x1_1 x5_1 = some r) ∧ Aside0 (kq ≤ k) ∧ Drawn0 w w')
  case atStart => exact ⟨(a1), (0), (by first | rfl | (simp; done) | (simp [*]; done)), (by first | rfl | (simp; done) | (simp [*]; done)), H', ⟨Nat.le_refl _⟩, by repeat (first | exact Drawn0.refl _ | apply Drawn0.step)⟩
  case round =>
    clear H'
    try clear p2
    obtain ⟨x1_1, x5_1, rfl, rfl, HA, HK1, ⟨m1, rfl⟩⟩ := hrel
    cases gk with
    | zero => exact absurd HA.out (by simp [laws_heldIntS.l0])
    | succ k1 =>
      have H := HA.out
      clear HA
      simp only [laws_heldIntS.l0] at H
      by_cases c3 : x5_1 < (l0.length : Int)
      · rw [if_pos c3] at H
        have c3b0 : decide (x5_1 < (l0.length : Int)) = true := decide_eq_true c3
        clear c3
        by_cases c4 : 0 ≤ x5_1
        · rw [if_pos c4] at H
          have c4b0 : decide (0 ≤ x5_1) = true := decide_eq_true c4
          clear c4
          by_cases c5 : (rd l0 x5_1) = x1_1
          · rw [if_pos c5] at H
            have c5b0 : ((rd l0 x5_1) == x1_1) = true := beq_iff_eq.mpr c5
            have c5b1 : ((rd l0 x5_1) != x1_1) = false := bne_eq_false_iff_eq.mpr c5
            clear c5
            have H' := Aside0.mk H
            clear H
            have p584 : 0 ≤ (x5_1 : Int) := of_decide_eq_true (by first | (with_reducible assumption) | assumption)
            have q584 : x5_1 < (l0.length : Int) := of_decide_eq_true (by first | (with_reducible assumption) | assumption)
            obtain ⟨ad584, e584, hx584_0⟩ := Kd.at_int HR0.out x5_1 p584 q584
            cases e584
            replace p584 := eq_true p584
            replace q584 := eq_true q584
            go_wp2
            go_roundg k1
            case measure => have := HK1.out; omega
            case rel => exact ⟨(wrap64 (x1_1 + 1)), (wrap64 (x5_1 + 1)), (by first | rfl | (simp; done) | (simp [*]; done)), (by first | rfl | (simp; done) | (simp [*]; done)), H', ⟨by have := HK1.out; omega⟩, by repeat (first | exact Drawn0.refl _ | apply Drawn0.step)⟩
          · rw [if_neg c5] at H
            have c5b0 : ((rd l0 x5_1) == x1_1) = false := beq_eq_false_iff_ne.mpr c5
            have c5b1 : ((rd l0 x5_1) != x1_1) = true := bne_iff_ne.mpr c5
            obtain rfl := Option.some.inj H
            have p584 : 0 ≤ (x5_1 : Int) := of_decide_eq_true (by first | (with_reducible assumption) | assumption)
            have q584 : x5_1 < (l0.length : Int) := of_decide_eq_true (by first | (with_reducible assumption) | assumption)
            obtain ⟨ad584, e584, hx584_0⟩ := Kd.at_int HR0.out x5_1 p584 q584
            cases e584
            replace p584 := eq_true p584
            replace q584 := eq_true q584
            go_wp2
            go_ret
            exact ⟨by first | rfl | (simp; done) | (simp [*]; done), by repeat (first | exact Drawn0.refl _ | apply Drawn0.step)⟩
        · rw [if_neg c4] at H
          exact absurd H (by simp)
      · rw [if_neg c3] at H
        have c3b0 : decide (x5_1 < (l0.length : Int)) = false := decide_eq_false c3
        clear c3
        obtain rfl := Option.some.inj H
        go_wp2
        go_ret
        exact ⟨by first | rfl | (simp; done) | (simp [*]; done), by repeat (first | exact Drawn0.refl _ | apply Drawn0.step)⟩
def laws_FnExactRecency.j0 : Nat → List Int → List Int → List Int → Bool → Option (Bool)
  | 0, _, _, _, _ => none
  | k + 1, x0, x3, x5, x39 => if x39 = true then (some false) else ((laws_markIntS.f k x5 1).bind fun bt605 => ((laws_heldIntS.f k bt605.2 1).bind fun t607 => (if t607 < 0 then (some false) else (if t607 = bt605.1 then ((laws_toIntS.f k x0).bind fun t608 => ((impl_Recency.f t608).bind fun t611 => ((laws_eqIntS.f k t611 x3).bind fun t614 => (if t614 = true then ((laws_heldIntS.f k bt605.2 1).bind fun t615 => (if t615 < 0 then (some false) else (if t615 = bt605.1 then (some true) else (some false)))) else (some false))))) else (some false)))))
def laws_FnExactRecency.f (k : Nat) (l0 : List Int) : Option (Bool) := if (l0.length : Int) > 1048576 then (some true) else ((laws_toIntS.f k l0).bind fun t585 => ((spec_Recency.f k t585).bind fun t588 => ((laws_toIntS.f k l0).bind fun t591 => ((impl_Recency.f t591).bind fun t594 => ((laws_eqIntS.f k t594 t588).bind fun t597 => (if t597 = true then ((laws_toIntS.f k l0).bind fun t598 => ((laws_eqIntS.f k t591 t598).bind fun t601 => (if t601 = true then ((laws_markIntS.f k t591 1).bind fun bt602 => (if bt602.1 < 0 then (laws_FnExactRecency.j0 k l0 t588 t594 true) else ((laws_eqIntS.f k t594 t588).bind fun t604 => (laws_FnExactRecency.j0 k l0 t588 t594 (!t604))))) else (some false)))) else (some false)))))))
theorem laws_FnExactRecency.mono_l : ∀ k, (∀ y0 y1 y2 y3, LeO (laws_FnExactRecency.j0 k y0 y1 y2 y3) (laws_FnExactRecency.j0 (k + 1) y0 y1 y2 y3))
  | 0 => fun _ _ _ _ r h => by simp [laws_FnExactRecency.j0] at h
  | k + 1 => by
    have ih0 := laws_FnExactRecency.mono_l k
    · intro y0 y1 y2 y3
      unfold laws_FnExactRecency.j0
      repeat' first
      | (with_reducible exact ih0 _ _ _ _)
      | (with_reducible exact laws_eqIntS.mono _ _ _)
      | (with_reducible exact laws_heldIntS.mono _ _ _)
      | (with_reducible exact laws_markIntS.mono _ _ _)
      | (with_reducible exact laws_toIntS.mono _ _)
      | (with_reducible exact spec_Recency.mono _ _)
      | (with_reducible exact LeO.refl _)
      | (with_reducible exact LeO.none _)
      | (with_reducible refine LeO.ite ?_ ?_)
      | (with_reducible refine LeO.bind ?_ (fun _ => ?_))
      | exact ih0 _ _ _ _
      | exact laws_eqIntS.mono _ _ _
      | exact laws_heldIntS.mono _ _ _
      | exact laws_markIntS.mono _ _ _
      | exact laws_toIntS.mono _ _
      | exact spec_Recency.mono _ _
      | exact LeO.none _
      | refine LeO.ite ?_ ?_
      | refine LeO.bind ?_ (fun _ => ?_)
theorem laws_FnExactRecency.mono : ∀ a0 k, LeO (laws_FnExactRecency.f k a0) (laws_FnExactRecency.f (k + 1) a0) := by
  intro a0 k
  have ih0 := laws_FnExactRecency.mono_l k
  unfold laws_FnExactRecency.f
  repeat' first
      | (with_reducible exact ih0 _ _ _ _)
      | (with_reducible exact laws_eqIntS.mono _ _ _)
      | (with_reducible exact laws_heldIntS.mono _ _ _)
      | (with_reducible exact laws_markIntS.mono _ _ _)
      | (with_reducible exact laws_toIntS.mono _ _)
      | (with_reducible exact spec_Recency.mono _ _)
      | (with_reducible exact LeO.refl _)
      | (with_reducible exact LeO.none _)
      | (with_reducible refine LeO.ite ?_ ?_)
      | (with_reducible refine LeO.bind ?_ (fun _ => ?_))
      | exact ih0 _ _ _ _
      | exact laws_eqIntS.mono _ _ _
      | exact laws_heldIntS.mono _ _ _
      | exact laws_markIntS.mono _ _ _
      | exact laws_toIntS.mono _ _
      | exact spec_Recency.mono _ _
      | exact LeO.none _
      | refine LeO.ite ?_ ?_
      | refine LeO.bind ?_ (fun _ => ?_)
set_option maxHeartbeats 8000000 in
set_option maxRecDepth 100000 in
theorem laws_FnExactRecency.calls (k : Nat) (A0 : Option Addr) (c0 : Nat) (l0 : List Int) (r : Bool) (w : World) (hr0 : Kd.C (Kd.int .i64) w A0 l0.length l0) (hc0 : l0.length ≤ c0) (h : laws_FnExactRecency.f k l0 = some r) (hT_ : r = true := by first | rfl | assumption) :
    Calls Try.prog 7 #[.slice A0 l0.length c0] w fun e w' => e = .returned (.bool r) ∧ Below w.heap.size w w' := by
  subst hT_
  have HR0 := Aside0.mk hr0
  have HC0 := Aside0.mk hc0
  clear hr0 hc0
  have HB := Aside0.mk (Below.refl w.heap.size w)
  have H : (if (l0.length : Int) > 1048576 then (some true) else ((laws_toIntS.f k l0).bind fun t585 => ((spec_Recency.f k t585).bind fun t588 => ((laws_toIntS.f k l0).bind fun t591 => ((impl_Recency.f t591).bind fun t594 => ((laws_eqIntS.f k t594 t588).bind fun t597 => (if t597 = true then ((laws_toIntS.f k l0).bind fun t598 => ((laws_eqIntS.f k t591 t598).bind fun t601 => (if t601 = true then ((laws_markIntS.f k t591 1).bind fun bt602 => (if bt602.1 < 0 then (laws_FnExactRecency.j0 k l0 t588 t594 true) else ((laws_eqIntS.f k t594 t588).bind fun t604 => (laws_FnExactRecency.j0 k l0 t588 t594 (!t604))))) else (some false)))) else (some false)))))))) = some true := h
  clear h
  by_cases c2 : (l0.length : Int) > 1048576
  · rw [if_pos c2] at H
    have c2b0 : decide (1048576 < (l0.length : Int)) = true := decide_eq_true c2
    have c2b1 : decide (1048576 < l0.length) = true := decide_eq_true (by omega)
    clear c2
    clear H
    go_enter Try.func7, Try.ntmps7
    go_wp2
    go_ret
    exact ⟨by first | rfl | (simp [errW_none, errW_some] <;> rfl) | (simp [*, errW_none, errW_some] <;> rfl), by repeat (first | (with_reducible first | exact HB.out | apply below_alloc | apply pw_below_drewN | apply below_drew1) | exact HB.out)⟩
  · rw [if_neg c2] at H
    have c2b0 : decide (1048576 < (l0.length : Int)) = false := decide_eq_false c2
    have c2b1 : decide (1048576 < l0.length) = false := decide_eq_false (by omega)
    clear c2
    replace H := Option.bind_eq_some_iff.mp H
    obtain ⟨t585, A30, H⟩ := H
    replace H : ((spec_Recency.f k t585).bind fun t588 => ((laws_toIntS.f k l0).bind fun t591 => ((impl_Recency.f t591).bind fun t594 => ((laws_eqIntS.f k t594 t588).bind fun t597 => (if t597 = true then ((laws_toIntS.f k l0).bind fun t598 => ((laws_eqIntS.f k t591 t598).bind fun t601 => (if t601 = true then ((laws_markIntS.f k t591 1).bind fun bt602 => (if bt602.1 < 0 then (laws_FnExactRecency.j0 k l0 t588 t594 true) else ((laws_eqIntS.f k t594 t588).bind fun t604 => (laws_FnExactRecency.j0 k l0 t588 t594 (!t604))))) else (some false)))) else (some false)))))) = some true := H
    have A3 := Aside0.mk A30
    clear A30
    replace H := Option.bind_eq_some_iff.mp H
    obtain ⟨t588, A40, H⟩ := H
    replace H : ((laws_toIntS.f k l0).bind fun t591 => ((impl_Recency.f t591).bind fun t594 => ((laws_eqIntS.f k t594 t588).bind fun t597 => (if t597 = true then ((laws_toIntS.f k l0).bind fun t598 => ((laws_eqIntS.f k t591 t598).bind fun t601 => (if t601 = true then ((laws_markIntS.f k t591 1).bind fun bt602 => (if bt602.1 < 0 then (laws_FnExactRecency.j0 k l0 t588 t594 true) else ((laws_eqIntS.f k t594 t588).bind fun t604 => (laws_FnExactRecency.j0 k l0 t588 t594 (!t604))))) else (some false)))) else (some false))))) = some true := H
    have A4 := Aside0.mk A40
    clear A40
    replace H := Option.bind_eq_some_iff.mp H
    obtain ⟨t591, A50, H⟩ := H
    replace H : ((impl_Recency.f t591).bind fun t594 => ((laws_eqIntS.f k t594 t588).bind fun t597 => (if t597 = true then ((laws_toIntS.f k l0).bind fun t598 => ((laws_eqIntS.f k t591 t598).bind fun t601 => (if t601 = true then ((laws_markIntS.f k t591 1).bind fun bt602 => (if bt602.1 < 0 then (laws_FnExactRecency.j0 k l0 t588 t594 true) else ((laws_eqIntS.f k t594 t588).bind fun t604 => (laws_FnExactRecency.j0 k l0 t588 t594 (!t604))))) else (some false)))) else (some false)))) = some true := H
    have A5 := Aside0.mk A50
    clear A50
    replace H := Option.bind_eq_some_iff.mp H
    obtain ⟨t594, A60, H⟩ := H
    replace H : ((laws_eqIntS.f k t594 t588).bind fun t597 => (if t597 = true then ((laws_toIntS.f k l0).bind fun t598 => ((laws_eqIntS.f k t591 t598).bind fun t601 => (if t601 = true then ((laws_markIntS.f k t591 1).bind fun bt602 => (if bt602.1 < 0 then (laws_FnExactRecency.j0 k l0 t588 t594 true) else ((laws_eqIntS.f k t594 t588).bind fun t604 => (laws_FnExactRecency.j0 k l0 t588 t594 (!t604))))) else (some false)))) else (some false))) = some true := H
    have A6 := Aside0.mk A60
    clear A60
    replace H := Option.bind_eq_some_iff.mp H
    obtain ⟨t597, A70, H⟩ := H
    replace H : (if t597 = true then ((laws_toIntS.f k l0).bind fun t598 => ((laws_eqIntS.f k t591 t598).bind fun t601 => (if t601 = true then ((laws_markIntS.f k t591 1).bind fun bt602 => (if bt602.1 < 0 then (laws_FnExactRecency.j0 k l0 t588 t594 true) else ((laws_eqIntS.f k t594 t588).bind fun t604 => (laws_FnExactRecency.j0 k l0 t588 t594 (!t604))))) else (some false)))) else (some false)) = some true := H
    have A7 := Aside0.mk A70
    clear A70
    by_cases c8 : t597 = true
    · subst c8
      have H1 : ((laws_toIntS.f k l0).bind fun t598 => ((laws_eqIntS.f k t591 t598).bind fun t601 => (if t601 = true then ((laws_markIntS.f k t591 1).bind fun bt602 => (if bt602.1 < 0 then (laws_FnExactRecency.j0 k l0 t588 t594 true) else ((laws_eqIntS.f k t594 t588).bind fun t604 => (laws_FnExactRecency.j0 k l0 t588 t594 (!t604))))) else (some false)))) = some true := by first | (rw [if_pos rfl] at H; exact H) | rfl
      clear H
      have H := H1
      clear H1
      replace H := Option.bind_eq_some_iff.mp H
      obtain ⟨t598, A90, H⟩ := H
      replace H : ((laws_eqIntS.f k t591 t598).bind fun t601 => (if t601 = true then ((laws_markIntS.f k t591 1).bind fun bt602 => (if bt602.1 < 0 then (laws_FnExactRecency.j0 k l0 t588 t594 true) else ((laws_eqIntS.f k t594 t588).bind fun t604 => (laws_FnExactRecency.j0 k l0 t588 t594 (!t604))))) else (some false))) = some true := H
      have A9 := Aside0.mk A90
      clear A90
      replace H := Option.bind_eq_some_iff.mp H
      obtain ⟨t601, A100, H⟩ := H
      replace H : (if t601 = true then ((laws_markIntS.f k t591 1).bind fun bt602 => (if bt602.1 < 0 then (laws_FnExactRecency.j0 k l0 t588 t594 true) else ((laws_eqIntS.f k t594 t588).bind fun t604 => (laws_FnExactRecency.j0 k l0 t588 t594 (!t604))))) else (some false)) = some true := H
      have A10 := Aside0.mk A100
      clear A100
      by_cases c11 : t601 = true
      · subst c11
        have H1 : ((laws_markIntS.f k t591 1).bind fun bt602 => (if bt602.1 < 0 then (laws_FnExactRecency.j0 k l0 t588 t594 true) else ((laws_eqIntS.f k t594 t588).bind fun t604 => (laws_FnExactRecency.j0 k l0 t588 t594 (!t604))))) = some true := by first | (rw [if_pos rfl] at H; exact H) | rfl
        clear H
        have H := H1
        clear H1
        replace H := Option.bind_eq_some_iff.mp H
        obtain ⟨⟨t602, t603⟩, A120, H⟩ := H
        replace H : (if t602 < 0 then (laws_FnExactRecency.j0 k l0 t588 t594 true) else ((laws_eqIntS.f k t594 t588).bind fun t604 => (laws_FnExactRecency.j0 k l0 t588 t594 (!t604)))) = some true := H
        have A12 := Aside0.mk A120
        clear A120
        have HC13 := Aside0.mk H
        clear H
        go_enter Try.func7, Try.ntmps7
        go_upto_region 12 with (first | ((with_reducible refine gate_callee (f := 32) rfl ?_); refine goesL_ (some 14) rfl rfl Try.func32 (by kernel_rfl) rfl #[.slice A0 l0.length c0] rfl (by (try simp only [List.map_toArray, List.map_cons, List.map_nil]); first | done | rfl | (simp only [List.length_drop, List.length_take]; rfl)) ?_; (with_reducible refine (laws_toIntS.calls k _ _ l0 t585 _ ?side1 ?side2 A3.out).mono ?_); (case side1 => repeat (first | exact HR0.out | (with_reducible refine Kd.C_alloc ?_ _) | (with_reducible refine Kd.C_drewN ?_ _) | (with_reducible refine Kd.C_drew ?_))); (case side2 => exact HC0.out); rintro e w14 ⟨v586, rfl, ho0, hb⟩; refine ⟨_, rfl, ?_⟩; have n0_ := Aside0.mk (Kd.R_lower ho0 (below_size (by repeat (first | (with_reducible first | exact HB.out | apply below_alloc | apply pw_below_drewN | apply below_drew1) | exact HB.out)))); have n1_ := Aside0.mk (below_step (by repeat (first | (with_reducible first | exact HB.out | apply below_alloc | apply pw_below_drewN | apply below_drew1) | exact HB.out)) hb); clear HB; have HO587 := n0_; have HB := n1_; clear n0_ n1_; (try clear hb); (try clear hb2); (try clear hk); (try clear hi); (try clear ho0); obtain ⟨Ao15, co15, eo15⟩ := Kd.R_slice HO587.out; subst eo15) | ((with_reducible refine gate_callee (f := 31) rfl ?_); refine goesL_ (some 15) rfl rfl Try.func31 (by kernel_rfl) rfl #[.slice Ao15 t585.length co15] rfl (by (try simp only [List.map_toArray, List.map_cons, List.map_nil]); first | done | rfl | (simp only [List.length_drop, List.length_take]; rfl)) ?_; (with_reducible refine (spec_Recency.calls k _ _ t585 t588 _ ?side1 ?side2 A4.out).mono ?_); (case side1 => repeat (first | exact (Kd.R_reads' HO587.out).2.2 | (with_reducible refine Kd.C_alloc ?_ _) | (with_reducible refine Kd.C_drewN ?_ _) | (with_reducible refine Kd.C_drew ?_))); (case side2 => exact (Kd.R_reads' HO587.out).2.1); rintro e w16 ⟨v589, rfl, ho0, hb⟩; refine ⟨_, rfl, ?_⟩; have n0_ := Aside0.mk (Kd.R_elder' (by (with_reducible repeat (first | apply Kd.R_alloc | apply Kd.R_drewN | apply Kd.R_drew)); exact HO587.out) (Kd.R_base ho0) hb); have n1_ := Aside0.mk (Kd.R_lower (Kd.R_new' ho0 (Kd.R_lt (by (with_reducible repeat (first | apply Kd.R_alloc | apply Kd.R_drewN | apply Kd.R_drew)); exact HO587.out))) (below_size (by repeat (first | (with_reducible first | exact HB.out | apply below_alloc | apply pw_below_drewN | apply below_drew1) | exact HB.out)))); have n2_ := Aside0.mk (below_step (by repeat (first | (with_reducible first | exact HB.out | apply below_alloc | apply pw_below_drewN | apply below_drew1) | exact HB.out)) hb); clear HO587; clear HB; have HO587 := n0_; have HO590 := n1_; have HB := n2_; clear n0_ n1_ n2_; (try clear hb); (try clear hb2); (try clear hk); (try clear hi); (try clear ho0)) | ((with_reducible refine gate_callee (f := 32) rfl ?_); refine goesL_ (some 17) rfl rfl Try.func32 (by kernel_rfl) rfl #[.slice A0 l0.length c0] rfl (by (try simp only [List.map_toArray, List.map_cons, List.map_nil]); first | done | rfl | (simp only [List.length_drop, List.length_take]; rfl)) ?_; (with_reducible refine (laws_toIntS.calls k _ _ l0 t591 _ ?side1 ?side2 A5.out).mono ?_); (case side1 => repeat (first | exact (Kd.C_below HR0.out HB.out) | (with_reducible refine Kd.C_alloc ?_ _) | (with_reducible refine Kd.C_drewN ?_ _) | (with_reducible refine Kd.C_drew ?_))); (case side2 => exact HC0.out); rintro e w17 ⟨v592, rfl, ho0, hb⟩; refine ⟨_, rfl, ?_⟩; have n0_ := Aside0.mk (Kd.R_elder' (by (with_reducible repeat (first | apply Kd.R_alloc | apply Kd.R_drewN | apply Kd.R_drew)); exact HO587.out) (Kd.R_base ho0) hb); have n1_ := Aside0.mk (Kd.R_elder' (by (with_reducible repeat (first | apply Kd.R_alloc | apply Kd.R_drewN | apply Kd.R_drew)); exact HO590.out) (Kd.R_base ho0) hb); have n2_ := Aside0.mk (Kd.R_lower (Kd.R_new' (Kd.R_new' ho0 (Kd.R_lt (by (with_reducible repeat (first | apply Kd.R_alloc | apply Kd.R_drewN | apply Kd.R_drew)); exact HO587.out))) (Kd.R_lt (by (with_reducible repeat (first | apply Kd.R_alloc | apply Kd.R_drewN | apply Kd.R_drew)); exact HO590.out))) (below_size (by repeat (first | (with_reducible first | exact HB.out | apply below_alloc | apply pw_below_drewN | apply below_drew1) | exact HB.out)))); have n3_ := Aside0.mk (below_step (by repeat (first | (with_reducible first | exact HB.out | apply below_alloc | apply pw_below_drewN | apply below_drew1) | exact HB.out)) hb); clear HO587; clear HO590; clear HB; have HO587 := n0_; have HO590 := n1_; have HO593 := n2_; have HB := n3_; clear n0_ n1_ n2_ n3_; (try clear hb); (try clear hb2); (try clear hk); (try clear hi); (try clear ho0); obtain ⟨Ao18, co18, eo18⟩ := Kd.R_slice HO593.out; subst eo18) | ((with_reducible refine gate_callee (f := 33) rfl ?_); refine goesL_ (some 19) rfl rfl Try.func33 (by kernel_rfl) rfl #[.slice Ao18 t591.length co18] rfl (by (try simp only [List.map_toArray, List.map_cons, List.map_nil]); first | done | rfl | (simp only [List.length_drop, List.length_take]; rfl)) ?_; (with_reducible refine (impl_Recency.calls _ _ t591 t594 _ ?side1 ?side2 A6.out).mono ?_); (case side1 => repeat (first | exact (Kd.R_reads' HO593.out).2.2 | (with_reducible refine Kd.C_alloc ?_ _) | (with_reducible refine Kd.C_drewN ?_ _) | (with_reducible refine Kd.C_drew ?_))); (case side2 => exact (Kd.R_reads' HO593.out).2.1); rintro e w19 ⟨v595, rfl, ho0, hb⟩; refine ⟨_, rfl, ?_⟩; have n0_ := Aside0.mk (Kd.R_elder' (by (with_reducible repeat (first | apply Kd.R_alloc | apply Kd.R_drewN | apply Kd.R_drew)); exact HO587.out) (Kd.R_base ho0) hb); have n1_ := Aside0.mk (Kd.R_elder' (by (with_reducible repeat (first | apply Kd.R_alloc | apply Kd.R_drewN | apply Kd.R_drew)); exact HO590.out) (Kd.R_base ho0) hb); have n2_ := Aside0.mk (Kd.R_elder' (by (with_reducible repeat (first | apply Kd.R_alloc | apply Kd.R_drewN | apply Kd.R_drew)); exact HO593.out) (Kd.R_base ho0) hb); have n3_ := Aside0.mk (Kd.R_lower (Kd.R_new' (Kd.R_new' (Kd.R_new' ho0 (Kd.R_lt (by (with_reducible repeat (first | apply Kd.R_alloc | apply Kd.R_drewN | apply Kd.R_drew)); exact HO587.out))) (Kd.R_lt (by (with_reducible repeat (first | apply Kd.R_alloc | apply Kd.R_drewN | apply Kd.R_drew)); exact HO590.out))) (Kd.R_lt (by (with_reducible repeat (first | apply Kd.R_alloc | apply Kd.R_drewN | apply Kd.R_drew)); exact HO593.out))) (below_size (by repeat (first | (with_reducible first | exact HB.out | apply below_alloc | apply pw_below_drewN | apply below_drew1) | exact HB.out)))); have n4_ := Aside0.mk (below_step (by repeat (first | (with_reducible first | exact HB.out | apply below_alloc | apply pw_below_drewN | apply below_drew1) | exact HB.out)) hb); clear HO587; clear HO590; clear HO593; clear HB; have HO587 := n0_; have HO590 := n1_; have HO593 := n2_; have HO596 := n3_; have HB := n4_; clear n0_ n1_ n2_ n3_ n4_; (try clear hb); (try clear hb2); (try clear hk); (try clear hi); (try clear ho0); obtain ⟨Ao20, co20, eo20⟩ := Kd.R_slice HO596.out; subst eo20; obtain ⟨Ao21, co21, eo21⟩ := Kd.R_slice HO590.out; subst eo21) | ((with_reducible refine gate_callee (f := 34) rfl ?_); refine goesL_ (some 22) rfl rfl Try.func34 (by kernel_rfl) rfl #[.slice Ao20 t594.length co20, .slice Ao21 t588.length co21] rfl (by (try simp only [List.map_toArray, List.map_cons, List.map_nil]); first | done | rfl | (simp only [List.length_drop, List.length_take]; rfl)) ?_; (with_reducible refine (laws_eqIntS.calls k _ _ t594 _ _ t588 true _ ?side1 ?side2 ?side3 ?side4 A7.out).mono ?_); (case side1 => repeat (first | exact (Kd.R_reads' HO596.out).2.2 | (with_reducible refine Kd.C_alloc ?_ _) | (with_reducible refine Kd.C_drewN ?_ _) | (with_reducible refine Kd.C_drew ?_))); (case side2 => exact (Kd.R_reads' HO596.out).2.1); (case side3 => repeat (first | exact (Kd.R_reads' HO590.out).2.2 | (with_reducible refine Kd.C_alloc ?_ _) | (with_reducible refine Kd.C_drewN ?_ _) | (with_reducible refine Kd.C_drew ?_))); (case side4 => exact (Kd.R_reads' HO590.out).2.1); rintro e w' ⟨rfl, ⟨nd, rfl⟩⟩; refine ⟨_, rfl, ?_⟩) | ((with_reducible refine gate_callee (f := 32) rfl ?_); refine goesL_ (some 26) rfl rfl Try.func32 (by kernel_rfl) rfl #[.slice A0 l0.length c0] rfl (by (try simp only [List.map_toArray, List.map_cons, List.map_nil]); first | done | rfl | (simp only [List.length_drop, List.length_take]; rfl)) ?_; (with_reducible refine (laws_toIntS.calls k _ _ l0 t598 _ ?side1 ?side2 A9.out).mono ?_); (case side1 => repeat (first | exact (Kd.C_below HR0.out (by repeat (first | (with_reducible first | exact HB.out | apply below_alloc | apply pw_below_drewN | apply below_drew1) | exact HB.out))) | (with_reducible refine Kd.C_alloc ?_ _) | (with_reducible refine Kd.C_drewN ?_ _) | (with_reducible refine Kd.C_drew ?_))); (case side2 => exact HC0.out); rintro e w22 ⟨v599, rfl, ho0, hb⟩; refine ⟨_, rfl, ?_⟩; have n0_ := Aside0.mk (Kd.R_elder' (by (with_reducible repeat (first | apply Kd.R_alloc | apply Kd.R_drewN | apply Kd.R_drew)); exact HO587.out) (Kd.R_base ho0) hb); have n1_ := Aside0.mk (Kd.R_elder' (by (with_reducible repeat (first | apply Kd.R_alloc | apply Kd.R_drewN | apply Kd.R_drew)); exact HO590.out) (Kd.R_base ho0) hb); have n2_ := Aside0.mk (Kd.R_elder' (by (with_reducible repeat (first | apply Kd.R_alloc | apply Kd.R_drewN | apply Kd.R_drew)); exact HO593.out) (Kd.R_base ho0) hb); have n3_ := Aside0.mk (Kd.R_elder' (by (with_reducible repeat (first | apply Kd.R_alloc | apply Kd.R_drewN | apply Kd.R_drew)); exact HO596.out) (Kd.R_base ho0) hb); have n4_ := Aside0.mk (Kd.R_lower (Kd.R_new' (Kd.R_new' (Kd.R_new' (Kd.R_new' ho0 (Kd.R_lt (by (with_reducible repeat (first | apply Kd.R_alloc | apply Kd.R_drewN | apply Kd.R_drew)); exact HO587.out))) (Kd.R_lt (by (with_reducible repeat (first | apply Kd.R_alloc | apply Kd.R_drewN | apply Kd.R_drew)); exact HO590.out))) (Kd.R_lt (by (with_reducible repeat (first | apply Kd.R_alloc | apply Kd.R_drewN | apply Kd.R_drew)); exact HO593.out))) (Kd.R_lt (by (with_reducible repeat (first | apply Kd.R_alloc | apply Kd.R_drewN | apply Kd.R_drew)); exact HO596.out))) (below_size (by repeat (first | (with_reducible first | exact HB.out | apply below_alloc | apply pw_below_drewN | apply below_drew1) | exact HB.out)))); have n5_ := Aside0.mk (below_step (by repeat (first | (with_reducible first | exact HB.out | apply below_alloc | apply pw_below_drewN | apply below_drew1) | exact HB.out)) hb); clear HO587; clear HO590; clear HO593; clear HO596; clear HB; have HO587 := n0_; have HO590 := n1_; have HO593 := n2_; have HO596 := n3_; have HO600 := n4_; have HB := n5_; clear n0_ n1_ n2_ n3_ n4_ n5_; (try clear hb); (try clear hb2); (try clear hk); (try clear hi); (try clear ho0); obtain ⟨Ao23, co23, eo23⟩ := Kd.R_slice HO600.out; subst eo23) | ((with_reducible refine gate_callee (f := 34) rfl ?_); refine goesL_ (some 27) rfl rfl Try.func34 (by kernel_rfl) rfl #[.slice Ao18 t591.length co18, .slice Ao23 t598.length co23] rfl (by (try simp only [List.map_toArray, List.map_cons, List.map_nil]); first | done | rfl | (simp only [List.length_drop, List.length_take]; rfl)) ?_; (with_reducible refine (laws_eqIntS.calls k _ _ t591 _ _ t598 true _ ?side1 ?side2 ?side3 ?side4 A10.out).mono ?_); (case side1 => repeat (first | exact (Kd.R_reads' HO593.out).2.2 | (with_reducible refine Kd.C_alloc ?_ _) | (with_reducible refine Kd.C_drewN ?_ _) | (with_reducible refine Kd.C_drew ?_))); (case side2 => exact (Kd.R_reads' HO593.out).2.1); (case side3 => repeat (first | exact (Kd.R_reads' HO600.out).2.2 | (with_reducible refine Kd.C_alloc ?_ _) | (with_reducible refine Kd.C_drewN ?_ _) | (with_reducible refine Kd.C_drew ?_))); (case side4 => exact (Kd.R_reads' HO600.out).2.1); rintro e w' ⟨rfl, ⟨nd, rfl⟩⟩; refine ⟨_, rfl, ?_⟩) | ((with_reducible refine gate_callee (f := 35) rfl ?_); refine goesL_ (some 31) rfl rfl Try.func35 (by kernel_rfl) rfl #[.slice Ao18 t591.length co18, .int .i64 1] rfl (by (try simp only [List.map_toArray, List.map_cons, List.map_nil]); first | done | rfl | (simp only [List.length_drop, List.length_take]; rfl)) ?_; (with_reducible refine (laws_markIntS.calls k (fun k_ => some k_ = (.slice Ao18 t591.length co18 : Value).ownBlock) (.slice Ao18 t591.length co18) t591 1 t602 t603 w _ ?side1 ?side2 A12.out).mono ?_); (case side1 => repeat (first | (with_reducible first | exact HB.out | apply below_alloc | apply pw_below_drewN | apply below_drew1) | exact HB.out)); (case side2 => exact Kd.R_tight rfl HO593.out); rintro e w24 ⟨rfl, hy0, hb, hkp⟩; refine ⟨_, rfl, ?_⟩; have n0_ := Aside0.mk (Kd.R_mono (ok' := fun k_ => some k_ ≠ (.slice Ao21 t588.length co21 : Value).ownBlock ∧ some k_ ≠ (.slice Ao18 t591.length co18 : Value).ownBlock ∧ some k_ ≠ (.slice Ao20 t594.length co20 : Value).ownBlock ∧ some k_ ≠ (.slice Ao23 t598.length co23 : Value).ownBlock) (Kd.R_keptB (HO587.out) hkp (fun k_ hk_ hs_ => (hk_.1.1.2) hs_)) (fun k_ hk_ => ⟨hk_.1.1.1.1.2, hk_.1.1.1.2, hk_.1.1.2, hk_.1.2⟩)); have n1_ := Aside0.mk (Kd.R_mono (ok' := fun k_ => some k_ ≠ (.slice Ao15 t585.length co15 : Value).ownBlock ∧ some k_ ≠ (.slice Ao18 t591.length co18 : Value).ownBlock ∧ some k_ ≠ (.slice Ao20 t594.length co20 : Value).ownBlock ∧ some k_ ≠ (.slice Ao23 t598.length co23 : Value).ownBlock) (Kd.R_keptB (HO590.out) hkp (fun k_ hk_ hs_ => (hk_.1.1.2) hs_)) (fun k_ hk_ => ⟨hk_.1.1.1.1.2, hk_.1.1.1.2, hk_.1.1.2, hk_.1.2⟩)); have n2_ := Aside0.mk (Kd.R_reok rfl hy0 (fun k_ e_ => HO593.out.1 k_ e_)); have n3_ := Aside0.mk (Kd.R_mono (ok' := fun k_ => some k_ ≠ (.slice Ao15 t585.length co15 : Value).ownBlock ∧ some k_ ≠ (.slice Ao21 t588.length co21 : Value).ownBlock ∧ some k_ ≠ (.slice Ao18 t591.length co18 : Value).ownBlock ∧ some k_ ≠ (.slice Ao23 t598.length co23 : Value).ownBlock) (Kd.R_keptB (HO596.out) hkp (fun k_ hk_ hs_ => (hk_.1.2) hs_)) (fun k_ hk_ => ⟨hk_.1.1.1.1.2, hk_.1.1.1.2, hk_.1.1.2, hk_.1.2⟩)); have n4_ := Aside0.mk (Kd.R_mono (ok' := fun k_ => some k_ ≠ (.slice Ao15 t585.length co15 : Value).ownBlock ∧ some k_ ≠ (.slice Ao21 t588.length co21 : Value).ownBlock ∧ some k_ ≠ (.slice Ao18 t591.length co18 : Value).ownBlock ∧ some k_ ≠ (.slice Ao20 t594.length co20 : Value).ownBlock) (Kd.R_keptB (HO600.out) hkp (fun k_ hk_ hs_ => (hk_.1.2) hs_)) (fun k_ hk_ => ⟨hk_.1.1.1.1.2, hk_.1.1.1.2, hk_.1.1.2, hk_.1.2⟩)); have n5_ := Aside0.mk (hb); clear HO587; clear HO590; clear HO593; clear HO596; clear HO600; clear HB; have HO587 := n0_; have HO590 := n1_; have HO593 := n2_; have HO596 := n3_; have HO600 := n4_; have HB := n5_; clear n0_ n1_ n2_ n3_ n4_ n5_; (try clear hb); (try clear hkp); (try clear hy0)))
        (try simp only [Act.put, List.setIfInBounds_toArray, List.set_cons_zero, List.set_cons_succ])
        go_cut [39] (fun v39 wc => ∃ (kq : Nat) (x39_12 : Bool), v39 = .bool x39_12 ∧ Aside0 (laws_FnExactRecency.j0 kq l0 t588 t594 x39_12 = some true) ∧ Aside0 (kq ≤ k) ∧ Aside0 (Kd.R (Kd.int .i64) 3 wc w.heap.size (fun k_ => some k_ ≠ ((.slice Ao20 t594.length co20) : Value).ownBlock) (.slice Ao21 t588.length co21) t588) ∧ Aside0 (Kd.R (Kd.int .i64) 3 wc w.heap.size (fun k_ => some k_ ≠ ((.slice Ao21 t588.length co21) : Value).ownBlock) (.slice Ao20 t594.length co20) t594) ∧ Aside0 (Below w.heap.size w wc))
        case first =>
          have H := HC13.out
          clear HC13
          by_cases c25 : t602 < 0
          · rw [if_pos c25] at H
            have c25b0 : decide (t602 < 0) = true := decide_eq_true c25
            clear c25
            (first | rw [c25b0] | (simp only [i64_w, i32_w]; rw [c25b0]) | skip)
            have H' := Aside0.mk H
            clear H
            go_wp2
            go_meet
            case rel => exact ⟨_, (true), (by first | rfl | (simp; done) | (simp [*]; done)), H', ⟨by first | omega | exact Nat.le_refl _⟩, ⟨by (with_reducible repeat (first | apply Kd.R_alloc | apply Kd.R_drewN | apply Kd.R_drew)); exact Kd.R_mono HO590.out (fun _ hk => hk.2.2.1)⟩, ⟨by (with_reducible repeat (first | apply Kd.R_alloc | apply Kd.R_drewN | apply Kd.R_drew)); exact Kd.R_mono HO596.out (fun _ hk => hk.2.1)⟩, ⟨by repeat (first | (with_reducible first | exact HB.out | apply below_alloc | apply pw_below_drewN | apply below_drew1) | exact HB.out)⟩⟩
          · rw [if_neg c25] at H
            have c25b0 : decide (t602 < 0) = false := decide_eq_false c25
            clear c25
            (first | rw [c25b0] | (simp only [i64_w, i32_w]; rw [c25b0]) | skip)
            replace H := Option.bind_eq_some_iff.mp H
            obtain ⟨t604, A260, H⟩ := H
            replace H : (laws_FnExactRecency.j0 k l0 t588 t594 (!t604)) = some true := H
            have hTt604_ : t604 = true := by
              cases t604 with
              | true => rfl
              | false => exact absurd H (by cases k <;> simp [laws_FnExactRecency.j0])
            have A26 := Aside0.mk A260
            clear A260
            have H' := Aside0.mk H
            clear H
            go_wp2_with (first | (go_at_call 34; (with_reducible refine (laws_eqIntS.calls k _ _ t594 _ _ t588 t604 _ ?side1 ?side2 ?side3 ?side4 A26.out).mono ?_); (case side1 => repeat (first | exact (Kd.R_reads' HO596.out).2.2 | (with_reducible refine Kd.C_alloc ?_ _) | (with_reducible refine Kd.C_drewN ?_ _) | (with_reducible refine Kd.C_drew ?_))); (case side2 => exact (Kd.R_reads' HO596.out).2.1); (case side3 => repeat (first | exact (Kd.R_reads' HO590.out).2.2 | (with_reducible refine Kd.C_alloc ?_ _) | (with_reducible refine Kd.C_drewN ?_ _) | (with_reducible refine Kd.C_drew ?_))); (case side4 => exact (Kd.R_reads' HO590.out).2.1); rintro e w' ⟨rfl, ⟨nd, rfl⟩⟩))
            go_meet
            case rel => exact ⟨_, (!t604), (by first | rfl | (simp; done) | (simp [*]; done)), H', ⟨by first | omega | exact Nat.le_refl _⟩, ⟨by (with_reducible repeat (first | apply Kd.R_alloc | apply Kd.R_drewN | apply Kd.R_drew)); exact Kd.R_mono HO590.out (fun _ hk => hk.2.2.1)⟩, ⟨by (with_reducible repeat (first | apply Kd.R_alloc | apply Kd.R_drewN | apply Kd.R_drew)); exact Kd.R_mono HO596.out (fun _ hk => hk.2.1)⟩, ⟨by repeat (first | (with_reducible first | exact HB.out | apply below_alloc | apply pw_below_drewN | apply below_drew1) | exact HB.out)⟩⟩
        case rest =>
          clear HC13
          try clear c1
          try clear c2
          try clear c2b0
          try clear c2b1
          try clear p2
          try clear c3
          try clear c7
          try clear c8
          try clear c11
          try clear c25
          try clear c25b0
          obtain ⟨kq, x39_12, rfl, HA, HJ12, HO_3, HO_5, HB⟩ := hcut
          cases kq with
          | zero => exact absurd HA.out (by simp [laws_FnExactRecency.j0])
          | succ kj12 =>
            have H := HA.out
            clear HA
            simp only [laws_FnExactRecency.j0] at H
            by_cases c27 : x39_12 = true
            · subst c27
              have H1 : (some false) = some true := by first | (rw [if_pos rfl] at H; exact H) | rfl
              clear H
              have H := H1
              clear H1
              exact absurd (Option.some.inj H) (by decide)
            · replace c27 := Bool.eq_false_iff.mpr c27
              subst c27
              have H1 : ((laws_markIntS.f kj12 t594 1).bind fun bt605 => ((laws_heldIntS.f kj12 bt605.2 1).bind fun t607 => (if t607 < 0 then (some false) else (if t607 = bt605.1 then ((laws_toIntS.f kj12 l0).bind fun t608 => ((impl_Recency.f t608).bind fun t611 => ((laws_eqIntS.f kj12 t611 t588).bind fun t614 => (if t614 = true then ((laws_heldIntS.f kj12 bt605.2 1).bind fun t615 => (if t615 < 0 then (some false) else (if t615 = bt605.1 then (some true) else (some false)))) else (some false))))) else (some false))))) = some true := by first | (rw [if_neg (show ¬ (false = true) by decide)] at H; exact H) | rfl
              clear H
              have H := H1
              clear H1
              replace H := Option.bind_eq_some_iff.mp H
              obtain ⟨⟨t605, t606⟩, A280, H⟩ := H
              replace H : ((laws_heldIntS.f kj12 t606 1).bind fun t607 => (if t607 < 0 then (some false) else (if t607 = t605 then ((laws_toIntS.f kj12 l0).bind fun t608 => ((impl_Recency.f t608).bind fun t611 => ((laws_eqIntS.f kj12 t611 t588).bind fun t614 => (if t614 = true then ((laws_heldIntS.f kj12 t606 1).bind fun t615 => (if t615 < 0 then (some false) else (if t615 = t605 then (some true) else (some false)))) else (some false))))) else (some false)))) = some true := H
              have A28 := Aside0.mk A280
              clear A280
              replace H := Option.bind_eq_some_iff.mp H
              obtain ⟨t607, A290, H⟩ := H
              replace H : (if t607 < 0 then (some false) else (if t607 = t605 then ((laws_toIntS.f kj12 l0).bind fun t608 => ((impl_Recency.f t608).bind fun t611 => ((laws_eqIntS.f kj12 t611 t588).bind fun t614 => (if t614 = true then ((laws_heldIntS.f kj12 t606 1).bind fun t615 => (if t615 < 0 then (some false) else (if t615 = t605 then (some true) else (some false)))) else (some false))))) else (some false))) = some true := H
              have A29 := Aside0.mk A290
              clear A290
              by_cases c30 : t607 < 0
              · rw [if_pos c30] at H
                have c30b0 : decide (t607 < 0) = true := decide_eq_true c30
                clear c30
                exact absurd (Option.some.inj H) (by decide)
              · rw [if_neg c30] at H
                have c30b0 : decide (t607 < 0) = false := decide_eq_false c30
                clear c30
                by_cases c31 : t607 = t605
                · rw [if_pos c31] at H
                  have c31b0 : (t607 == t605) = true := beq_iff_eq.mpr c31
                  have c31b1 : (t607 != t605) = false := bne_eq_false_iff_eq.mpr c31
                  clear c31
                  replace H := Option.bind_eq_some_iff.mp H
                  obtain ⟨t608, A320, H⟩ := H
                  replace H : ((impl_Recency.f t608).bind fun t611 => ((laws_eqIntS.f kj12 t611 t588).bind fun t614 => (if t614 = true then ((laws_heldIntS.f kj12 t606 1).bind fun t615 => (if t615 < 0 then (some false) else (if t615 = t605 then (some true) else (some false)))) else (some false)))) = some true := H
                  have A32 := Aside0.mk A320
                  clear A320
                  replace H := Option.bind_eq_some_iff.mp H
                  obtain ⟨t611, A330, H⟩ := H
                  replace H : ((laws_eqIntS.f kj12 t611 t588).bind fun t614 => (if t614 = true then ((laws_heldIntS.f kj12 t606 1).bind fun t615 => (if t615 < 0 then (some false) else (if t615 = t605 then (some true) else (some false)))) else (some false))) = some true := H
                  have A33 := Aside0.mk A330
                  clear A330
                  replace H := Option.bind_eq_some_iff.mp H
                  obtain ⟨t614, A340, H⟩ := H
                  replace H : (if t614 = true then ((laws_heldIntS.f kj12 t606 1).bind fun t615 => (if t615 < 0 then (some false) else (if t615 = t605 then (some true) else (some false)))) else (some false)) = some true := H
                  have A34 := Aside0.mk A340
                  clear A340
                  by_cases c35 : t614 = true
                  · subst c35
                    have H1 : ((laws_heldIntS.f kj12 t606 1).bind fun t615 => (if t615 < 0 then (some false) else (if t615 = t605 then (some true) else (some false)))) = some true := by first | (rw [if_pos rfl] at H; exact H) | rfl
                    clear H
                    have H := H1
                    clear H1
                    replace H := Option.bind_eq_some_iff.mp H
                    obtain ⟨t615, A360, H⟩ := H
                    replace H : (if t615 < 0 then (some false) else (if t615 = t605 then (some true) else (some false))) = some true := H
                    have A36 := Aside0.mk A360
                    clear A360
                    by_cases c37 : t615 < 0
                    · rw [if_pos c37] at H
                      have c37b0 : decide (t615 < 0) = true := decide_eq_true c37
                      clear c37
                      exact absurd (Option.some.inj H) (by decide)
                    · rw [if_neg c37] at H
                      have c37b0 : decide (t615 < 0) = false := decide_eq_false c37
                      clear c37
                      by_cases c38 : t615 = t605
                      · rw [if_pos c38] at H
                        have c38b0 : (t615 == t605) = true := beq_iff_eq.mpr c38
                        have c38b1 : (t615 != t605) = false := bne_eq_false_iff_eq.mpr c38
                        clear c38
                        clear H
                        go_wp2_with (first | ((with_reducible refine gate_callee (f := 35) rfl ?_); refine goesL_ (some 42) rfl rfl Try.func35 (by kernel_rfl) rfl #[.slice Ao20 t594.length co20, .int .i64 1] rfl (by (try simp only [List.map_toArray, List.map_cons, List.map_nil]); first | done | rfl | (simp only [List.length_drop, List.length_take]; rfl)) ?_; (with_reducible refine (laws_markIntS.calls kj12 (fun k_ => some k_ = (.slice Ao20 t594.length co20 : Value).ownBlock) (.slice Ao20 t594.length co20) t594 1 t605 t606 w _ ?side1 ?side2 A28.out).mono ?_); (case side1 => repeat (first | (with_reducible first | exact HB.out | apply below_alloc | apply pw_below_drewN | apply below_drew1) | exact HB.out)); (case side2 => exact Kd.R_tight rfl HO_5.out); rintro e w39 ⟨rfl, hy0, hb, hkp⟩; refine ⟨_, rfl, ?_⟩; have n0_ := Aside0.mk (Kd.R_mono (ok' := fun k_ => some k_ ≠ (.slice Ao20 t594.length co20 : Value).ownBlock) (Kd.R_keptB (HO_3.out) hkp (fun k_ hk_ hs_ => (hk_) hs_)) (fun k_ hk_ => hk_.1)); have n1_ := Aside0.mk (Kd.R_reok rfl hy0 (fun k_ e_ => HO_5.out.1 k_ e_)); have n2_ := Aside0.mk (hb); clear HO_3; clear HO_5; clear HB; have HO_3 := n0_; have HO_5 := n1_; have HB := n2_; clear n0_ n1_ n2_; (try clear hb); (try clear hkp); (try clear hy0)) | ((with_reducible refine gate_callee (f := 36) rfl ?_); refine goesL_ (some 45) rfl rfl Try.func36 (by kernel_rfl) rfl #[.slice Ao20 t606.length co20, .int .i64 1] rfl (by (try simp only [List.map_toArray, List.map_cons, List.map_nil]); first | done | (rw [show t606.length = t594.length from (Kd.R_reads' HO_5.out).1.symm] <;> rfl) | rfl | (simp only [List.length_drop, List.length_take]; rfl)) ?_; (with_reducible refine (laws_heldIntS.calls kj12 _ _ t606 1 t607 _ ?side1 ?side2 A29.out).mono ?_); (case side1 => repeat (first | exact (Kd.R_reads' HO_5.out).2.2 | (with_reducible refine Kd.C_alloc ?_ _) | (with_reducible refine Kd.C_drewN ?_ _) | (with_reducible refine Kd.C_drew ?_))); (case side2 => rw [show t606.length = t594.length from (Kd.R_reads' HO_5.out).1.symm]; exact (Kd.R_reads' HO_5.out).2.1); rintro e w' ⟨rfl, ⟨nd, rfl⟩⟩; refine ⟨_, rfl, ?_⟩) | ((with_reducible refine gate_callee (f := 32) rfl ?_); refine goesL_ (some 52) rfl rfl Try.func32 (by kernel_rfl) rfl #[.slice A0 l0.length c0] rfl (by (try simp only [List.map_toArray, List.map_cons, List.map_nil]); first | done | rfl | (simp only [List.length_drop, List.length_take]; rfl)) ?_; (with_reducible refine (laws_toIntS.calls kj12 _ _ l0 t608 _ ?side1 ?side2 A32.out).mono ?_); (case side1 => repeat (first | exact (Kd.C_below HR0.out (by repeat (first | (with_reducible first | exact HB.out | apply below_alloc | apply pw_below_drewN | apply below_drew1) | exact HB.out))) | (with_reducible refine Kd.C_alloc ?_ _) | (with_reducible refine Kd.C_drewN ?_ _) | (with_reducible refine Kd.C_drew ?_))); (case side2 => exact HC0.out); rintro e w40 ⟨v609, rfl, ho0, hb⟩; refine ⟨_, rfl, ?_⟩; have n0_ := Aside0.mk (Kd.R_elder' (by (with_reducible repeat (first | apply Kd.R_alloc | apply Kd.R_drewN | apply Kd.R_drew)); exact HO_3.out) (Kd.R_base ho0) hb); have n1_ := Aside0.mk (Kd.R_elder' (by (with_reducible repeat (first | apply Kd.R_alloc | apply Kd.R_drewN | apply Kd.R_drew)); exact HO_5.out) (Kd.R_base ho0) hb); have n2_ := Aside0.mk (Kd.R_lower (Kd.R_new' (Kd.R_new' ho0 (Kd.R_lt (by (with_reducible repeat (first | apply Kd.R_alloc | apply Kd.R_drewN | apply Kd.R_drew)); exact HO_3.out))) (Kd.R_lt (by (with_reducible repeat (first | apply Kd.R_alloc | apply Kd.R_drewN | apply Kd.R_drew)); exact HO_5.out))) (below_size (by repeat (first | (with_reducible first | exact HB.out | apply below_alloc | apply pw_below_drewN | apply below_drew1) | exact HB.out)))); have n3_ := Aside0.mk (below_step (by repeat (first | (with_reducible first | exact HB.out | apply below_alloc | apply pw_below_drewN | apply below_drew1) | exact HB.out)) hb); clear HO_3; clear HO_5; clear HB; have HO_3 := n0_; have HO_5 := n1_; have HO610 := n2_; have HB := n3_; clear n0_ n1_ n2_ n3_; (try clear hb); (try clear hb2); (try clear hk); (try clear hi); (try clear ho0); obtain ⟨Ao41, co41, eo41⟩ := Kd.R_slice HO610.out; subst eo41) | ((with_reducible refine gate_callee (f := 33) rfl ?_); refine goesL_ (some 53) rfl rfl Try.func33 (by kernel_rfl) rfl #[.slice Ao41 t608.length co41] rfl (by (try simp only [List.map_toArray, List.map_cons, List.map_nil]); first | done | rfl | (simp only [List.length_drop, List.length_take]; rfl)) ?_; (with_reducible refine (impl_Recency.calls _ _ t608 t611 _ ?side1 ?side2 A33.out).mono ?_); (case side1 => repeat (first | exact (Kd.R_reads' HO610.out).2.2 | (with_reducible refine Kd.C_alloc ?_ _) | (with_reducible refine Kd.C_drewN ?_ _) | (with_reducible refine Kd.C_drew ?_))); (case side2 => exact (Kd.R_reads' HO610.out).2.1); rintro e w42 ⟨v612, rfl, ho0, hb⟩; refine ⟨_, rfl, ?_⟩; have n0_ := Aside0.mk (Kd.R_elder' (by (with_reducible repeat (first | apply Kd.R_alloc | apply Kd.R_drewN | apply Kd.R_drew)); exact HO_3.out) (Kd.R_base ho0) hb); have n1_ := Aside0.mk (Kd.R_elder' (by (with_reducible repeat (first | apply Kd.R_alloc | apply Kd.R_drewN | apply Kd.R_drew)); exact HO_5.out) (Kd.R_base ho0) hb); have n2_ := Aside0.mk (Kd.R_elder' (by (with_reducible repeat (first | apply Kd.R_alloc | apply Kd.R_drewN | apply Kd.R_drew)); exact HO610.out) (Kd.R_base ho0) hb); have n3_ := Aside0.mk (Kd.R_lower (Kd.R_new' (Kd.R_new' (Kd.R_new' ho0 (Kd.R_lt (by (with_reducible repeat (first | apply Kd.R_alloc | apply Kd.R_drewN | apply Kd.R_drew)); exact HO_3.out))) (Kd.R_lt (by (with_reducible repeat (first | apply Kd.R_alloc | apply Kd.R_drewN | apply Kd.R_drew)); exact HO_5.out))) (Kd.R_lt (by (with_reducible repeat (first | apply Kd.R_alloc | apply Kd.R_drewN | apply Kd.R_drew)); exact HO610.out))) (below_size (by repeat (first | (with_reducible first | exact HB.out | apply below_alloc | apply pw_below_drewN | apply below_drew1) | exact HB.out)))); have n4_ := Aside0.mk (below_step (by repeat (first | (with_reducible first | exact HB.out | apply below_alloc | apply pw_below_drewN | apply below_drew1) | exact HB.out)) hb); clear HO_3; clear HO_5; clear HO610; clear HB; have HO_3 := n0_; have HO_5 := n1_; have HO610 := n2_; have HO613 := n3_; have HB := n4_; clear n0_ n1_ n2_ n3_ n4_; (try clear hb); (try clear hb2); (try clear hk); (try clear hi); (try clear ho0); obtain ⟨Ao43, co43, eo43⟩ := Kd.R_slice HO613.out; subst eo43) | ((with_reducible refine gate_callee (f := 34) rfl ?_); refine goesL_ (some 56) rfl rfl Try.func34 (by kernel_rfl) rfl #[.slice Ao43 t611.length co43, .slice Ao21 t588.length co21] rfl (by (try simp only [List.map_toArray, List.map_cons, List.map_nil]); first | done | rfl | (simp only [List.length_drop, List.length_take]; rfl)) ?_; (with_reducible refine (laws_eqIntS.calls kj12 _ _ t611 _ _ t588 true _ ?side1 ?side2 ?side3 ?side4 A34.out).mono ?_); (case side1 => repeat (first | exact (Kd.R_reads' HO613.out).2.2 | (with_reducible refine Kd.C_alloc ?_ _) | (with_reducible refine Kd.C_drewN ?_ _) | (with_reducible refine Kd.C_drew ?_))); (case side2 => exact (Kd.R_reads' HO613.out).2.1); (case side3 => repeat (first | exact (Kd.R_reads' HO_3.out).2.2 | (with_reducible refine Kd.C_alloc ?_ _) | (with_reducible refine Kd.C_drewN ?_ _) | (with_reducible refine Kd.C_drew ?_))); (case side4 => exact (Kd.R_reads' HO_3.out).2.1); rintro e w' ⟨rfl, ⟨nd, rfl⟩⟩; refine ⟨_, rfl, ?_⟩) | ((with_reducible refine gate_callee (f := 36) rfl ?_); refine goesL_ (some 60) rfl rfl Try.func36 (by kernel_rfl) rfl #[.slice Ao20 t606.length co20, .int .i64 1] rfl (by (try simp only [List.map_toArray, List.map_cons, List.map_nil]); first | done | (rw [show t606.length = t594.length from (Kd.R_reads' HO_5.out).1.symm] <;> rfl) | rfl | (simp only [List.length_drop, List.length_take]; rfl)) ?_; (with_reducible refine (laws_heldIntS.calls kj12 _ _ t606 1 t615 _ ?side1 ?side2 A36.out).mono ?_); (case side1 => repeat (first | exact (Kd.R_reads' HO_5.out).2.2 | (with_reducible refine Kd.C_alloc ?_ _) | (with_reducible refine Kd.C_drewN ?_ _) | (with_reducible refine Kd.C_drew ?_))); (case side2 => rw [show t606.length = t594.length from (Kd.R_reads' HO_5.out).1.symm]; exact (Kd.R_reads' HO_5.out).2.1); rintro e w' ⟨rfl, ⟨nd, rfl⟩⟩; refine ⟨_, rfl, ?_⟩))
                        go_ret
                        exact ⟨by first | rfl | (simp [errW_none, errW_some] <;> rfl) | (simp [*, errW_none, errW_some] <;> rfl), by repeat (first | (with_reducible first | exact HB.out | apply below_alloc | apply pw_below_drewN | apply below_drew1) | exact HB.out)⟩
                      · rw [if_neg c38] at H
                        have c38b0 : (t615 == t605) = false := beq_eq_false_iff_ne.mpr c38
                        have c38b1 : (t615 != t605) = true := bne_iff_ne.mpr c38
                        exact absurd (Option.some.inj H) (by decide)
                  · replace c35 := Bool.eq_false_iff.mpr c35
                    subst c35
                    have H1 : (some false) = some true := by first | (rw [if_neg (show ¬ (false = true) by decide)] at H; exact H) | rfl
                    clear H
                    have H := H1
                    clear H1
                    exact absurd (Option.some.inj H) (by decide)
                · rw [if_neg c31] at H
                  have c31b0 : (t607 == t605) = false := beq_eq_false_iff_ne.mpr c31
                  have c31b1 : (t607 != t605) = true := bne_iff_ne.mpr c31
                  exact absurd (Option.some.inj H) (by decide)
      · replace c11 := Bool.eq_false_iff.mpr c11
        subst c11
        have H1 : (some false) = some true := by first | (rw [if_neg (show ¬ (false = true) by decide)] at H; exact H) | rfl
        clear H
        have H := H1
        clear H1
        exact absurd (Option.some.inj H) (by decide)
    · replace c8 := Bool.eq_false_iff.mpr c8
      subst c8
      have H1 : (some false) = some true := by first | (rw [if_neg (show ¬ (false = true) by decide)] at H; exact H) | rfl
      clear H
      have H := H1
      clear H1
      exact absurd (Option.some.inj H) (by decide)
def laws_FnExactRecency.Pure : Prop := ∀ (l0 : List Int), l0.length ≤ maxLen → l0.length * 8 ≤ 140737488351232 → (∀ x ∈ l0, (Lit.int .i64 x).wf = true) → ∃ k, laws_FnExactRecency.f k l0 = some true
theorem laws_FnExactRecency.walk (P : laws_FnExactRecency.Pure) (a0 : Option Addr) (len0 cap0 : Nat) (z0 : List Int) (w : World) (w0 : (a0 = none ∧ len0 = 0 ∧ cap0 = 0 ∧ z0 = []) ∨ ∃ x, a0 = some x ∧ len0 ≤ cap0 ∧ cap0 ≤ maxLen ∧ z0.length = cap0 ∧ (∀ i, i < z0.length → w.cell? (x.add i) = some (.int .i64 (z0.getD i 0))) ∧ ∀ n ∈ z0, (Lit.int .i64 n).wf = true) (y0 : len0 * 8 ≤ 140737488351232) :
    Calls Try.prog 7 #[.slice a0 len0 cap0] w fun e w' => e = .returned (.bool true) ∧ Below w.heap.size w w' := by
  obtain ⟨l0, rfl, hr0, hm0, hw0, hc0⟩ := ReadsInt.ofRowC w0
  obtain ⟨k, h⟩ := P l0 hm0 y0 hw0
  refine (laws_FnExactRecency.calls k _ _ l0 true w (Kd.C_of_reads (d := (0 : Int)) (h1 := fun _ => rfl) hr0) hc0 h).mono ?_
  rintro e w' ⟨rfl, hd⟩
  exact ⟨rfl, hd⟩
end Go.Proofs.Ytoncacdehhmpaaa.P
namespace Go.Proofs.Ytoncacdehhmpaaa.Pure
open Go.RowKit Go.Proofs.Ytoncacdehhmpaaa.P Go.Proofs.YtoncacdehhmpaaaW.PrintWords Go.Proofs.YtoncacdehhmpaaaW.PrintLast Go.Proofs.YtoncacdehhmpaaaX
set_option linter.unusedVariables false
set_option linter.unusedSimpArgs false
theorem to_IntS (xs : List Int) (hs : xs.length ≤ 1048576) : Ev (fun k => laws_toIntS.f k xs) xs := by
  have key := to_loop xs (0 : Int) id (fun k out i => laws_toIntS.l0 k xs out i) ?_ ?_ (List.replicate xs.length (0 : Int)) List.length_replicate
  · obtain ⟨K, hK⟩ := key
    refine ⟨K, fun k hk => ?_⟩
    dsimp only
    unfold laws_toIntS.f
    rw [if_pos (by omega), if_pos (by rw [Int.toNat_natCast]; omega), Int.toNat_natCast]
    have := hK k hk
    rw [List.map_id] at this
    exact this
  · intro i out r hi ho h
    obtain ⟨K, hK⟩ := h
    have hrd : rd xs (i : Int) = xs.getD i 0 := by simp [rd]
    refine ⟨K + 1, fun k hk => ?_⟩
    dsimp only
    obtain ⟨m, rfl⟩ : ∃ m, k = m + 1 := ⟨k - 1, by omega⟩
    simp only [laws_toIntS.l0]
    rw [if_pos (by omega), if_pos (by omega), if_pos (by omega), hrd, wrap_succ hi (by omega), Int.toNat_natCast]
    exact hK m (by omega)
  · intro out ho
    refine ⟨1, fun k hk => ?_⟩
    dsimp only
    obtain ⟨m, rfl⟩ : ∃ m, k = m + 1 := ⟨k - 1, by omega⟩
    simp only [laws_toIntS.l0]
    rw [if_neg (by omega)]
theorem eq_IntS (xs : List Int) (hl : xs.length ≤ 9223372036854775807) : Ev (fun k => laws_eqIntS.f k xs xs) true := by
  have key := eq_loop xs.length (fun k i => laws_eqIntS.l0 k xs xs i) ?_ ?_
  · obtain ⟨K, hK⟩ := key
    refine ⟨K, fun k hk => ?_⟩
    dsimp only
    unfold laws_eqIntS.f
    rw [if_pos (by trivial)]
    exact hK k hk
  · intro i hi h
    obtain ⟨K, hK⟩ := h
    refine ⟨K + 1, fun k hk => ?_⟩
    dsimp only
    obtain ⟨m, rfl⟩ : ∃ m, k = m + 1 := ⟨k - 1, by omega⟩
    simp only [laws_eqIntS.l0]
    rw [if_pos (by omega), if_pos (by omega), if_pos (by omega), if_pos (by trivial), wrap_succ hi hl]
    exact hK m (by omega)
  · refine ⟨1, fun k hk => ?_⟩
    dsimp only
    obtain ⟨m, rfl⟩ : ∃ m, k = m + 1 := ⟨k - 1, by omega⟩
    simp only [laws_eqIntS.l0]
    rw [if_neg (by omega)]
def upL (k : Int) (n : Nat) : List Int := (List.range n).map fun (i : Nat) => k + (i : Int)
theorem upL_length (k : Int) (n : Nat) : (upL k n).length = n := by simp [upL]
theorem upL_get (k : Int) (n i : Nat) (h : i < n) : (upL k n).getD i 0 = k + (i : Int) := by
  rw [getD_lt 0 (by rw [upL_length]; exact h)]
  simp [upL]
theorem mark_IntS (xs : List Int) (a : Int) (h0 : 0 ≤ a) (h1 : a ≤ 1048577) (hl : xs.length ≤ 1048576) : Ev (fun k => laws_markIntS.f k xs a) (a + xs.length, upL a xs.length) := by
  have key : ∀ i, i ≤ xs.length → ∀ ys : List Int, ys.length = xs.length → (∀ j, j < i → ys.getD j 0 = a + (j : Int)) → Ev (fun k => laws_markIntS.l0 k ys (a + (i : Int)) (i : Int)) (a + xs.length, upL a xs.length) := by
    refine up_ind ?_ ?_
    · intro ys hy hj
      have e : ys = upL a xs.length := by
        apply List.ext_getElem (by rw [upL_length]; exact hy)
        intro n g1 g2
        have := hj n (by omega)
        rw [getD_lt 0 g1] at this
        rw [this]
        simp [upL]
      refine ⟨1, fun k hk => ?_⟩
      obtain ⟨m, rfl⟩ : ∃ m, k = m + 1 := ⟨k - 1, by omega⟩
      simp only [laws_markIntS.l0]
      rw [if_neg (by omega), e]
    · intro i hi ih ys hy hj
      obtain ⟨K, hK⟩ := ih (ys.set i (a + (i : Int))) (by rw [List.length_set]; exact hy) (by
        intro j hjj
        by_cases e : j = i
        · subst e
          rw [getD_lt 0 (by rw [List.length_set]; omega)]
          simp
        · have := hj j (by omega)
          rw [List.getD_eq_getElem?_getD, List.getElem?_set_ne (by omega), ← List.getD_eq_getElem?_getD]
          exact this)
      refine ⟨K + 1, fun k hk => ?_⟩
      obtain ⟨m, rfl⟩ : ∃ m, k = m + 1 := ⟨k - 1, by omega⟩
      simp only [laws_markIntS.l0]
      have hk2 := hK m (by omega)
      rw [if_pos (by omega), if_pos (by omega), Int.toNat_natCast, wrap_succ hi (by omega), show wrap64 (a + (i : Int) + 1) = a + ((i + 1 : Nat) : Int) by unfold wrap64; omega]
      exact hk2
  have := key 0 (Nat.zero_le _) xs rfl (fun j hj => absurd hj (Nat.not_lt_zero _))
  simpa [laws_markIntS.f] using this
theorem held_IntS (n : Nat) (a : Int) (h0 : 0 ≤ a) (h1 : a ≤ 1048577) (hl : n ≤ 1048576) : Ev (fun k => laws_heldIntS.f k (upL a n) a) (a + n) := by
  have key : ∀ i, i ≤ n → Ev (fun k => laws_heldIntS.l0 k (upL a n) (a + (i : Int)) (i : Int)) (a + n) := by
    refine up_ind ?_ ?_
    · refine ⟨1, fun k hk => ?_⟩
      obtain ⟨m, rfl⟩ : ∃ m, k = m + 1 := ⟨k - 1, by omega⟩
      simp only [laws_heldIntS.l0]
      rw [upL_length, if_neg (by omega)]
    · intro i hi ih
      obtain ⟨K, hK⟩ := ih
      refine ⟨K + 1, fun k hk => ?_⟩
      obtain ⟨m, rfl⟩ : ∃ m, k = m + 1 := ⟨k - 1, by omega⟩
      simp only [laws_heldIntS.l0]
      have hrd : rd (upL a n) (i : Int) = a + (i : Int) := by
        have := upL_get a n i hi
        simpa [rd] using this
      rw [upL_length, if_pos (by omega), if_pos (by omega), hrd, if_pos rfl, wrap_succ hi (by omega), show wrap64 (a + (i : Int) + 1) = a + ((i + 1 : Nat) : Int) by unfold wrap64; omega]
      exact hK m (by omega)
  have := key 0 (Nat.zero_le _)
  simpa [laws_heldIntS.f] using this
def Fall (l : List Int) : Prop := l.Pairwise fun x y => y ≤ x
theorem fall_unique : ∀ (a b : List Int), a.Perm b → Fall a → Fall b → a = b
  | [], b, h, _, _ => (List.Perm.eq_nil h.symm).symm
  | x :: xs, [], h, _, _ => List.Perm.eq_nil h
  | x :: xs, y :: ys, h, ha, hb => by
    have ha' := List.pairwise_cons.1 ha
    have hb' := List.pairwise_cons.1 hb
    have hx : x ∈ y :: ys := h.mem_iff.1 List.mem_cons_self
    have hy : y ∈ x :: xs := h.mem_iff.2 List.mem_cons_self
    have e1 : x ≤ y := by
      rcases List.mem_cons.1 hx with e | e
      · omega
      · exact hb'.1 x e
    have e2 : y ≤ x := by
      rcases List.mem_cons.1 hy with e | e
      · omega
      · exact ha'.1 y e
    have e : x = y := by omega
    subst e
    rw [fall_unique xs ys (List.Perm.cons_inv h) ha'.2 hb'.2]
theorem recency_fall (l : List Int) : Fall ((l.mergeSort fun x y => decide (x ≤ y)).reverse) := by
  unfold Fall
  rw [List.pairwise_reverse]
  have := List.pairwise_mergeSort (le := fun (x y : Int) => decide (x ≤ y)) (fun a b c h1 h2 => by simp at *; omega) (fun a b => by simp; omega) l
  exact this.imp (fun h => by simpa using h)
theorem recency_perm (l : List Int) : ((l.mergeSort fun x y => decide (x ≤ y)).reverse).Perm l := (List.reverse_perm _).trans (List.mergeSort_perm _ _)
def putAt (out : List Int) (t : Int) : Nat → Nat
  | 0 => 0
  | n + 1 => if out.getD n 0 < t then putAt out t n else n + 1
theorem putAt_le (out : List Int) (t : Int) : ∀ n, putAt out t n ≤ n
  | 0 => Nat.le_refl _
  | n + 1 => by unfold putAt; split; exact Nat.le_succ_of_le (putAt_le out t n); exact Nat.le_refl _
theorem putAt_above (out : List Int) (t : Int) : ∀ n j, putAt out t n ≤ j → j < n → out.getD j 0 < t
  | 0, j, _, h => absurd h (Nat.not_lt_zero _)
  | n + 1, j, h1, h2 => by
    unfold putAt at h1
    split at h1
    · rename_i h
      by_cases e : j = n
      · rw [e]; exact h
      · exact putAt_above out t n j h1 (by omega)
    · omega
theorem putAt_below (out : List Int) (t : Int) : ∀ n, putAt out t n ≠ 0 → t ≤ out.getD (putAt out t n - 1) 0
  | 0, h => absurd rfl h
  | n + 1, h => by
    unfold putAt at h ⊢
    split
    · rename_i g
      rw [if_pos g] at h
      exact putAt_below out t n h
    · rename_i g
      simp only [Nat.add_sub_cancel]
      omega
def insL (out : List Int) (t : Int) : List Int := (out.take (putAt out t out.length) ++ [t]) ++ out.drop (putAt out t out.length)
theorem insL_length (out : List Int) (t : Int) : (insL out t).length = out.length + 1 := by
  have := putAt_le out t out.length
  simp [insL]
  omega
theorem insL_perm (out : List Int) (t : Int) : (insL out t).Perm (t :: out) := by
  unfold insL
  have h1 : ((out.take (putAt out t out.length) ++ [t]) ++ out.drop (putAt out t out.length)).Perm (([t] ++ out.take (putAt out t out.length)) ++ out.drop (putAt out t out.length)) := List.Perm.append_right _ List.perm_append_comm
  refine h1.trans ?_
  rw [List.append_assoc, List.take_append_drop]
  exact List.Perm.refl _
theorem insL_fall (out : List Int) (t : Int) (h : Fall out) : Fall (insL out t) := by
  have hle := putAt_le out t out.length
  have hab := putAt_above out t out.length
  have hbe := putAt_below out t out.length
  unfold Fall at h ⊢
  unfold insL
  generalize putAt out t out.length = p at *
  have hsp : (out.take p ++ out.drop p).Pairwise fun x y => y ≤ x := by rw [List.take_append_drop]; exact h
  rw [List.pairwise_append] at hsp
  obtain ⟨s1, s2, s3⟩ := hsp
  have hge : ∀ x, x ∈ out.take p → t ≤ x := by
    intro x hx
    obtain ⟨j, hj, e⟩ := List.getElem_of_mem hx
    rw [List.length_take] at hj
    have h2 := hbe (by omega)
    have h3 : out.getD (p - 1) 0 ≤ x := by
      rw [getD_lt 0 (by omega)]
      rw [← e, List.getElem_take]
      rcases Nat.lt_or_ge j (p - 1) with g | g
      · exact List.pairwise_iff_getElem.1 h j (p - 1) (by omega) (by omega) g
      · have : j = p - 1 := by omega
        subst this
        exact Int.le_refl _
    omega
  have hlt : ∀ x, x ∈ out.drop p → x < t := by
    intro x hx
    obtain ⟨j, hj, e⟩ := List.getElem_of_mem hx
    rw [List.length_drop] at hj
    have := hab (p + j) (by omega) (by omega)
    rw [getD_lt 0 (by omega)] at this
    rw [← e, List.getElem_drop]
    exact this
  rw [List.pairwise_append]
  refine ⟨?_, s2, ?_⟩
  · rw [List.pairwise_append]
    exact ⟨s1, by simp, fun x hx y hy => by rw [List.mem_singleton.1 hy]; exact hge x hx⟩
  · intro x hx y hy
    rcases List.mem_append.1 hx with g | g
    · exact s3 x g y hy
    · rw [List.mem_singleton.1 g]
      have := hlt y hy
      omega
theorem spec_inner (out : List Int) (t : Int) (xs : List Int) (i : Nat) (hi : i < xs.length) (hx : xs.length ≤ 1048576) (ho : out.length ≤ 1048576) (r : List Int)
    (hnext : Ev (fun k => spec_Recency.l0 k (insL out t) xs (xs.length : Int) ((i + 1 : Nat) : Int)) r) :
    Ev (fun k => spec_Recency.l1 k out t (out.length : Int) xs (xs.length : Int) (i : Int)) r := by
  have key : ∀ n, n ≤ out.length → putAt out t n = putAt out t out.length → Ev (fun k => spec_Recency.l1 k out t (n : Int) xs (xs.length : Int) (i : Int)) r := by
    intro n
    induction n with
    | zero =>
      intro _ hp
      obtain ⟨K, hK⟩ := hnext
      refine ⟨K + 1, fun k hk => ?_⟩
      obtain ⟨m, rfl⟩ : ∃ m, k = m + 1 := ⟨k - 1, by omega⟩
      have hK := hK m (by omega)
      dsimp only at hK
      unfold insL at hK
      rw [← hp] at hK
      simp only [spec_Recency.l1]
      rw [if_neg (by omega), if_pos (by omega), if_pos (by omega)]
      (try simp only [Option.bind_some])
      rw [if_pos (by first | omega | (simp; done) | (simp; omega))]
      (try simp only [Option.bind_some])
      rw [if_pos (by first | omega | (simp; done) | (simp; omega))]
      (try simp only [Option.bind_some])
      rw [if_pos (by first | omega | (simp; done) | (simp; omega)), wrap_succ hi (by omega)]
      simpa [putAt] using hK
    | succ n ih =>
      intro hn hp
      have hw : wrap64 (((n + 1 : Nat) : Int) - 1) = (n : Int) := by unfold wrap64; omega
      have hrd : rd out (n : Int) = out.getD n 0 := by simp [rd]
      by_cases c : out.getD n 0 < t
      · obtain ⟨K, hK⟩ := ih (by omega) (by rw [← hp]; conv => rhs; unfold putAt; rw [if_pos c])
        refine ⟨K + 1, fun k hk => ?_⟩
        obtain ⟨m, rfl⟩ : ∃ m, k = m + 1 := ⟨k - 1, by omega⟩
        simp only [spec_Recency.l1]
        rw [if_pos (by omega), hw, if_pos (by omega), if_pos (by omega), hrd, if_pos c]
        exact hK m (by omega)
      · have hp' : putAt out t out.length = n + 1 := by rw [← hp]; unfold putAt; rw [if_neg c]
        obtain ⟨K, hK⟩ := hnext
        refine ⟨K + 1, fun k hk => ?_⟩
        obtain ⟨m, rfl⟩ : ∃ m, k = m + 1 := ⟨k - 1, by omega⟩
        have hK := hK m (by omega)
        dsimp only at hK
        unfold insL at hK
        rw [hp'] at hK
        simp only [spec_Recency.l1]
        rw [if_pos (by omega), hw, if_pos (by omega), if_pos (by omega), hrd, if_neg c, if_pos (by omega), if_pos (by omega)]
        (try simp only [Option.bind_some, Int.toNat_natCast])
        rw [if_pos (by first | omega | (simp; done) | (simp; omega))]
        (try simp only [Option.bind_some])
        rw [if_pos (by first | omega | (simp; done) | (simp; omega))]
        (try simp only [Option.bind_some])
        rw [if_pos (by first | omega | (simp; done) | (simp; omega)), wrap_succ hi (by omega)]
        simpa using hK
  exact key out.length (Nat.le_refl _) rfl
theorem specRecency_some (l : List Int) (hl : l.length ≤ 1048576) : Ev (fun k => spec_Recency.f k l) (recencyL l) := by
  by_cases c : 1000 < l.length
  · refine ⟨0, fun k _ => ?_⟩
    dsimp only
    unfold spec_Recency.f recencyL
    rw [if_pos (by omega), if_pos c]
  · have key : ∀ i, i ≤ l.length → ∀ out : List Int, out.length = i → Fall out → out.Perm (l.take i) → Ev (fun k => spec_Recency.l0 k out l (l.length : Int) (i : Int)) ((l.mergeSort fun x y => decide (x ≤ y)).reverse) := by
      refine up_ind ?_ ?_
      · intro out ho hf hp
        rw [List.take_length] at hp
        have e := fall_unique out _ (hp.trans (recency_perm l).symm) hf (recency_fall l)
        refine ⟨1, fun k hk => ?_⟩
        obtain ⟨m, rfl⟩ : ∃ m, k = m + 1 := ⟨k - 1, by omega⟩
        simp only [spec_Recency.l0]
        rw [if_neg (by omega), e]
      · intro i hi ih out ho hf hp
        have hnext := ih (insL out (l.getD i 0)) (by rw [insL_length]; omega) (insL_fall _ _ hf) (by
          refine (insL_perm _ _).trans ?_
          rw [List.take_succ_eq_append_getElem hi, getD_lt 0 hi]
          exact ((List.Perm.cons _ hp).trans (List.perm_append_comm (l₁ := [l[i]]) (l₂ := l.take i))))
        obtain ⟨K, hK⟩ := spec_inner out (l.getD i 0) l i hi hl (by omega) _ hnext
        refine ⟨K + 1, fun k hk => ?_⟩
        obtain ⟨m, rfl⟩ : ∃ m, k = m + 1 := ⟨k - 1, by omega⟩
        simp only [spec_Recency.l0]
        have hrd : rd l (i : Int) = l.getD i 0 := by simp [rd]
        rw [if_pos (by omega), if_pos (by omega), if_pos (by omega), hrd]
        exact hK m (by omega)
    obtain ⟨K, hK⟩ := key 0 (Nat.zero_le _) [] rfl List.Pairwise.nil (List.Perm.refl _)
    refine ⟨K, fun k hk => ?_⟩
    dsimp only
    unfold spec_Recency.f recencyL
    rw [if_neg (by omega), if_neg c]
    exact hK k hk
theorem recencyL_length (l : List Int) : (recencyL l).length ≤ 1000 := by
  unfold recencyL
  split
  · simp
  · rw [List.length_reverse, List.length_mergeSort]; omega
theorem FnExactRecency : laws_FnExactRecency.Pure := by
  intro l hm hb hw
  by_cases c : (l.length : Int) > 1048576
  · refine ⟨0, ?_⟩
    unfold laws_FnExactRecency.f
    rw [if_pos c]
  have hl : l.length ≤ 1048576 := by omega
  obtain ⟨K1, h1⟩ := to_IntS l hl
  obtain ⟨K2, h2⟩ := specRecency_some l hl
  have h3 : impl_Recency.f l = some (recencyL l) := rfl
  have hr := recencyL_length l
  obtain ⟨K4, h4⟩ := eq_IntS (recencyL l) (by omega)
  obtain ⟨K5, h5⟩ := eq_IntS l (by omega)
  obtain ⟨K6, h6⟩ := mark_IntS l 1 (by omega) (by omega) hl
  obtain ⟨K7, h7⟩ := mark_IntS (recencyL l) 1 (by omega) (by omega) (by omega)
  obtain ⟨K8, h8⟩ := held_IntS (recencyL l).length 1 (by omega) (by omega) (by omega)
  dsimp only at h1 h2 h4 h5 h6 h7 h8
  have hj : laws_FnExactRecency.j0 (K1 + K2 + K4 + K5 + K6 + K7 + K8 + 1) l (recencyL l) (recencyL l) false = some true := by
    simp only [laws_FnExactRecency.j0]
    rw [if_neg (by simp), h7 _ (by omega)]
    simp only [Option.bind_some]
    rw [h8 _ (by omega)]
    simp only [Option.bind_some]
    rw [if_neg (by omega), if_pos (by trivial), h1 _ (by omega)]
    simp only [Option.bind_some]
    rw [h3]
    simp only [Option.bind_some]
    rw [h4 _ (by omega)]
    simp only [Option.bind_some]
    rw [if_pos (by trivial), if_neg (by omega), if_pos (by trivial)]
  refine ⟨K1 + K2 + K4 + K5 + K6 + K7 + K8 + 1, ?_⟩
  unfold laws_FnExactRecency.f
  rw [if_neg c, h1 _ (by omega)]
  simp only [Option.bind_some]
  rw [h2 _ (by omega)]
  simp only [Option.bind_some]
  rw [h3]
  simp only [Option.bind_some]
  rw [h4 _ (by omega)]
  simp only [Option.bind_some]
  rw [if_pos (by trivial), h5 _ (by omega)]
  simp only [Option.bind_some]
  rw [if_pos (by trivial), h6 _ (by omega)]
  simp only [Option.bind_some]
  rw [if_neg (by omega)]
  exact hj
end Go.Proofs.Ytoncacdehhmpaaa.Pure
