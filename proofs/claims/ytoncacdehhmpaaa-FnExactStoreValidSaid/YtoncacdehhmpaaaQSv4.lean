/- The row of the law FnExactStoreValid: for every input the call returns true, and each argument reads behind it as it read before; no condition of ours. -/
import Derived.ChangeArms
import Derived.DataReads
import Derived.WideShapes
import Derived.Test.YtoncacdehhmpaaaQSv3
namespace Go.Proofs.Ytoncacdehhmpaaa.P
open Go.RowKit Go.Proofs.YtoncacdehhmpaaaW.PrintWords Go.Proofs.YtoncacdehhmpaaaW.PrintLast Go.Proofs.YtoncacdehhmpaaaW.PrintMore
attribute [local go_sem] max2_int min2_int max_two min_two max_three min_three max_four min_four
set_option linter.unusedVariables false
set_option linter.unusedSimpArgs false
mutual
def spec_AlphaOf.l0 : Nat → List (S120) → Int → Int → Bool → ByteArray → List (S120) → ByteArray → Int → List (S106) → Option (ByteArray × Int × (List (S106)))
 | 0, _, _, _, _, _, _, _, _, _ => none
 | k + 1, x18, x19, x20, x329000, x329001, x329002, x332000, x332001, x332002 => if x20 < x19 then (if 0 ≤ x20 then (if x20 < (x18.length : Int) then (if ((rd_T120 x18 x20).f0) = 3 then (spec_AlphaOf.j1 k x20 x18 x19 x20 x329000 x329001 x329002 x332000 x332001 x332002 ((rd_T120 x18 x20).f0) ((rd_T120 x18 x20).f1) ((rd_T120 x18 x20).f2) ((rd_T120 x18 x20).f3.f0) ((rd_T120 x18 x20).f3.f1) ((rd_T120 x18 x20).f3.f2) x20 ((rd_T120 x18 x20).f1) (-1) ((rd_T120 x18 x20).f3.f0) ((rd_T120 x18 x20).f3.f1) ((rd_T120 x18 x20).f3.f2)) else (spec_AlphaOf.j1 k x20 x18 x19 x20 x329000 x329001 x329002 x332000 x332001 x332002 ((rd_T120 x18 x20).f0) ((rd_T120 x18 x20).f1) ((rd_T120 x18 x20).f2) ((rd_T120 x18 x20).f3.f0) ((rd_T120 x18 x20).f3.f1) ((rd_T120 x18 x20).f3.f2) x20 1 (-1) ((rd_T120 x18 x20).f3.f0) ((rd_T120 x18 x20).f3.f1) ((rd_T120 x18 x20).f3.f2))) else (none)) else (none)) else (some (x332000, x332001, x332002))
def spec_AlphaOf.j1 : Nat → Int → List (S120) → Int → Int → Bool → ByteArray → List (S120) → ByteArray → Int → List (S106) → Int → Int → ByteArray → Int → Int → ByteArray → Int → Int → Int → Int → Int → ByteArray → Option (ByteArray × Int × (List (S106)))
 | 0, _, _, _, _, _, _, _, _, _, _, _, _, _, _, _, _, _, _, _, _, _, _ => none
 | k + 1, x4, x18, x19, x20, x329000, x329001, x329002, x332000, x332001, x332002, x334000, x334001, x334002, x334003, x334004, x334005, x335000, x335001, x335002, x335003, x335004, x335005 => if x334000 = 0 then (spec_AlphaOf.l0 k x18 x19 (wrap64 (x20 + 1)) x329000 x329001 x329002 x332000 x332001 x332002) else (if x334002.toList = ([] : List UInt8) then (if x332002.length < 2513169434916 then (spec_AlphaOf.l0 k x18 x19 (wrap64 (x20 + 1)) x329000 x329001 x329002 x332000 x332001 (x332002 ++ [(⟨x335000, x335001, x335002, (⟨x335003, x335004, x335005⟩ : S104)⟩ : S106)])) else (none)) else ((spec_l3Earlier.f k x329000 x329001 x329002 x4 x334002).bind fun t338 => (if t338 < 0 then (spec_AlphaOf.l0 k x18 x19 (wrap64 (x20 + 1)) x329000 x329001 x329002 x332000 x332001 x332002) else (if x332002.length < 2513169434916 then (spec_AlphaOf.l0 k x18 x19 (wrap64 (x20 + 1)) x329000 x329001 x329002 x332000 x332001 (x332002 ++ [(⟨x335000, x335001, t338, (⟨x335003, x335004, x335005⟩ : S104)⟩ : S106)])) else (none)))))
end
def spec_AlphaOf.f (k : Nat) (a0_0 : Bool) (a0_1 : ByteArray) (l0_2 : List (S120)) : Option (ByteArray × Int × (List (S106))) := (spec_l2GoodPat.f k a0_0 a0_1 l0_2).bind fun t330 => (if t330 = true then (spec_AlphaOf.l0 k l0_2 (l0_2.length : Int) 0 a0_0 a0_1 l0_2 a0_1 (l0_2.length : Int) ([] : List (S106))) else (some ((⟨#[]⟩ : ByteArray), 0, ([] : List (S106)))))
theorem spec_AlphaOf.mono_l : ∀ k, (∀ y0 y1 y2 y3 y4 y5 y6 y7 y8, LeO (spec_AlphaOf.l0 k y0 y1 y2 y3 y4 y5 y6 y7 y8) (spec_AlphaOf.l0 (k + 1) y0 y1 y2 y3 y4 y5 y6 y7 y8)) ∧ (∀ y0 y1 y2 y3 y4 y5 y6 y7 y8 y9 y10 y11 y12 y13 y14 y15 y16 y17 y18 y19 y20 y21, LeO (spec_AlphaOf.j1 k y0 y1 y2 y3 y4 y5 y6 y7 y8 y9 y10 y11 y12 y13 y14 y15 y16 y17 y18 y19 y20 y21) (spec_AlphaOf.j1 (k + 1) y0 y1 y2 y3 y4 y5 y6 y7 y8 y9 y10 y11 y12 y13 y14 y15 y16 y17 y18 y19 y20 y21))
 | 0 => ⟨fun _ _ _ _ _ _ _ _ _ r h => by simp [spec_AlphaOf.l0] at h, fun _ _ _ _ _ _ _ _ _ _ _ _ _ _ _ _ _ _ _ _ _ _ r h => by simp [spec_AlphaOf.j1] at h⟩
 | k + 1 => by
  obtain ⟨ih0, ih1⟩ := spec_AlphaOf.mono_l k
  refine ⟨?_, ?_⟩
  ·intro y0 y1 y2 y3 y4 y5 y6 y7 y8
   unfold spec_AlphaOf.l0
   repeat' first
   | (with_reducible exact ih0 _ _ _ _ _ _ _ _ _)
   | (with_reducible exact ih1 _ _ _ _ _ _ _ _ _ _ _ _ _ _ _ _ _ _ _ _ _ _)
   | (with_reducible exact spec_l2GoodPat.mono _ _ _ _)
   | (with_reducible exact spec_l3Earlier.mono _ _ _ _ _ _)
   | (with_reducible exact LeO.refl _)
   | (with_reducible exact LeO.none _)
   | (with_reducible refine LeO.ite ?_ ?_)
   | (with_reducible refine LeO.bind ?_ (fun _ => ?_))
   | exact ih0 _ _ _ _ _ _ _ _ _
   | exact ih1 _ _ _ _ _ _ _ _ _ _ _ _ _ _ _ _ _ _ _ _ _ _
   | exact spec_l2GoodPat.mono _ _ _ _
   | exact spec_l3Earlier.mono _ _ _ _ _ _
   | exact LeO.none _
   | refine LeO.ite ?_ ?_
   | refine LeO.bind ?_ (fun _ => ?_)
  ·intro y0 y1 y2 y3 y4 y5 y6 y7 y8 y9 y10 y11 y12 y13 y14 y15 y16 y17 y18 y19 y20 y21
   unfold spec_AlphaOf.j1
   repeat' first
   | (with_reducible exact ih0 _ _ _ _ _ _ _ _ _)
   | (with_reducible exact ih1 _ _ _ _ _ _ _ _ _ _ _ _ _ _ _ _ _ _ _ _ _ _)
   | (with_reducible exact spec_l2GoodPat.mono _ _ _ _)
   | (with_reducible exact spec_l3Earlier.mono _ _ _ _ _ _)
   | (with_reducible exact LeO.refl _)
   | (with_reducible exact LeO.none _)
   | (with_reducible refine LeO.ite ?_ ?_)
   | (with_reducible refine LeO.bind ?_ (fun _ => ?_))
   | exact ih0 _ _ _ _ _ _ _ _ _
   | exact ih1 _ _ _ _ _ _ _ _ _ _ _ _ _ _ _ _ _ _ _ _ _ _
   | exact spec_l2GoodPat.mono _ _ _ _
   | exact spec_l3Earlier.mono _ _ _ _ _ _
   | exact LeO.none _
   | refine LeO.ite ?_ ?_
   | refine LeO.bind ?_ (fun _ => ?_)
theorem spec_AlphaOf.mono : ∀ a0 a1 a2 k, LeO (spec_AlphaOf.f k a0 a1 a2) (spec_AlphaOf.f (k + 1) a0 a1 a2) := by
 intro a0 a1 a2 k
 obtain ⟨ih0, ih1⟩ := spec_AlphaOf.mono_l k
 unfold spec_AlphaOf.f
 repeat' first
   | (with_reducible exact ih0 _ _ _ _ _ _ _ _ _)
   | (with_reducible exact ih1 _ _ _ _ _ _ _ _ _ _ _ _ _ _ _ _ _ _ _ _ _ _)
   | (with_reducible exact spec_l2GoodPat.mono _ _ _ _)
   | (with_reducible exact spec_l3Earlier.mono _ _ _ _ _ _)
   | (with_reducible exact LeO.refl _)
   | (with_reducible exact LeO.none _)
   | (with_reducible refine LeO.ite ?_ ?_)
   | (with_reducible refine LeO.bind ?_ (fun _ => ?_))
   | exact ih0 _ _ _ _ _ _ _ _ _
   | exact ih1 _ _ _ _ _ _ _ _ _ _ _ _ _ _ _ _ _ _ _ _ _ _
   | exact spec_l2GoodPat.mono _ _ _ _
   | exact spec_l3Earlier.mono _ _ _ _ _ _
   | exact LeO.none _
   | refine LeO.ite ?_ ?_
   | refine LeO.bind ?_ (fun _ => ?_)
def laws_toTerm.f (a0_0 : Int) (a0_1 : Int) (a0_2 : ByteArray) (a0_3 : Int) (a0_4 : Int) (a0_5 : ByteArray) : Option (Int × Int × ByteArray × Int × Int × ByteArray) := (laws_toValue.f a0_3 a0_4 a0_5).bind fun bt345 => (some (a0_0, a0_1, a0_2, bt345.1, bt345.2.1, bt345.2.2))
end Go.Proofs.Ytoncacdehhmpaaa.P
namespace Go.Proofs.Ytoncacdehhmpaaa.P
open Go.RowKit Go.Proofs.YtoncacdehhmpaaaW.PrintWords Go.Proofs.YtoncacdehhmpaaaW.PrintLast Go.Proofs.YtoncacdehhmpaaaW.PrintMore
attribute [local go_sem] max2_int min2_int max_two min_two max_three min_three max_four min_four
set_option linter.unusedVariables false
set_option linter.unusedSimpArgs false
def laws_toTermS.l0 : Nat → List (S174) → List (S120) → Int → Option ((List (S120)))
 | 0, _, _, _ => none
 | k + 1, x0, x3, x4 => if x4 < (x0.length : Int) then (if 0 ≤ x4 then ((laws_toTerm.f ((rd_T174 x0 x4).f0) ((rd_T174 x0 x4).f1) ((rd_T174 x0 x4).f2) ((rd_T174 x0 x4).f3.f0) ((rd_T174 x0 x4).f3.f1) ((rd_T174 x0 x4).f3.f2)).bind fun bt352 => (if x4 < (x3.length : Int) then (laws_toTermS.l0 k x0 (x3.set (x4 : Int).toNat (⟨bt352.1, bt352.2.1, bt352.2.2.1, (⟨bt352.2.2.2.1, bt352.2.2.2.2.1, bt352.2.2.2.2.2⟩ : S104)⟩ : S120)) (wrap64 (x4 + 1))) else (none))) else (none)) else (some x3)
def laws_toTermS.f (k : Nat) (l0 : List (S174)) : Option ((List (S120))) := if 0 ≤ (l0.length : Int) then (if ((l0.length : Int) : Int).toNat ≤ 4398046511104 then (laws_toTermS.l0 k l0 (List.replicate ((l0.length : Int) : Int).toNat z120) 0) else (none)) else (none)
theorem laws_toTermS.mono_l : ∀ k, (∀ y0 y1 y2, LeO (laws_toTermS.l0 k y0 y1 y2) (laws_toTermS.l0 (k + 1) y0 y1 y2))
 | 0 => fun _ _ _ r h => by simp [laws_toTermS.l0] at h
 | k + 1 => by
  have ih0 := laws_toTermS.mono_l k
  ·intro y0 y1 y2
   unfold laws_toTermS.l0
   repeat' first
   | (with_reducible exact ih0 _ _ _)
   | (with_reducible exact LeO.refl _)
   | (with_reducible exact LeO.none _)
   | (with_reducible refine LeO.ite ?_ ?_)
   | (with_reducible refine LeO.bind ?_ (fun _ => ?_))
   | exact ih0 _ _ _
   | exact LeO.none _
   | refine LeO.ite ?_ ?_
   | refine LeO.bind ?_ (fun _ => ?_)
theorem laws_toTermS.mono : ∀ a0 k, LeO (laws_toTermS.f k a0) (laws_toTermS.f (k + 1) a0) := by
 intro a0 k
 have ih0 := laws_toTermS.mono_l k
 unfold laws_toTermS.f
 repeat' first
   | (with_reducible exact ih0 _ _ _)
   | (with_reducible exact LeO.refl _)
   | (with_reducible exact LeO.none _)
   | (with_reducible refine LeO.ite ?_ ?_)
   | (with_reducible refine LeO.bind ?_ (fun _ => ?_))
   | exact ih0 _ _ _
   | exact LeO.none _
   | refine LeO.ite ?_ ?_
   | refine LeO.bind ?_ (fun _ => ?_)
def laws_toPattern.f (k : Nat) (a0_0 : Bool) (a0_1 : ByteArray) (l0_2 : List (S174)) : Option (Bool × ByteArray × (List (S120))) := (laws_toTermS.f k l0_2).bind fun t362 => (some (a0_0, a0_1, t362))
theorem laws_toPattern.mono : ∀ a0 a1 a2 k, LeO (laws_toPattern.f k a0 a1 a2) (laws_toPattern.f (k + 1) a0 a1 a2) := by
 intro a0 a1 a2 k
 unfold laws_toPattern.f
 repeat' first
   | (with_reducible exact laws_toTermS.mono _ _)
   | (with_reducible exact LeO.refl _)
   | (with_reducible exact LeO.none _)
   | (with_reducible refine LeO.ite ?_ ?_)
   | (with_reducible refine LeO.bind ?_ (fun _ => ?_))
   | exact laws_toTermS.mono _ _
   | exact LeO.none _
   | refine LeO.ite ?_ ?_
   | refine LeO.bind ?_ (fun _ => ?_)
def impl_goodCls.f (a0 : ByteArray) : Option (Bool) := (impl_goodSym.f a0).bind fun t365 => (if t365 = true then (some (a0.toList != ([110, 111, 116] : List UInt8))) else (some false))
end Go.Proofs.Ytoncacdehhmpaaa.P
namespace Go.Proofs.Ytoncacdehhmpaaa.P
open Go.RowKit Go.Proofs.YtoncacdehhmpaaaW.PrintWords Go.Proofs.YtoncacdehhmpaaaW.PrintLast Go.Proofs.YtoncacdehhmpaaaW.PrintMore
attribute [local go_sem] max2_int min2_int max_two min_two max_three min_three max_four min_four
set_option linter.unusedVariables false
set_option linter.unusedSimpArgs false
open Go.Proofs.YtoncacdehhmpaaaX in
def goodClsB (s : ByteArray) : Bool := goodSymB s && (s.toList != ([110, 111, 116] : List UInt8))
def goodPatB (cls : ByteArray) (ts : List S120) : Bool := goodClsB cls && (decide (ts.length ≤ 6) && ts.all goodTermB)
def impl_Pattern_good.f (a0_0 : Bool) (a0_1 : ByteArray) (l0_2 : List S120) : Option Bool := some (goodPatB a0_1 l0_2)
end Go.Proofs.Ytoncacdehhmpaaa.P
namespace Go.Proofs.Ytoncacdehhmpaaa.Pure
open Go.RowKit Go.Proofs.Ytoncacdehhmpaaa.P Go.Proofs.YtoncacdehhmpaaaW.PrintWords Go.Proofs.YtoncacdehhmpaaaW.PrintLast Go.Proofs.YtoncacdehhmpaaaX
set_option linter.unusedVariables false
set_option linter.unusedSimpArgs false
theorem goodSym_loop (s : ByteArray) (hs : s.size ≤ 9223372036854775807) : ∀ i, i ≤ s.size → Ev (fun k => spec_l1GoodSym.l0 k s (i : Int)) (symFrom s i) := by
  refine up_ind ?_ ?_
  · rw [symFrom_end]
    refine Ev.step (fun k => by simp only [spec_l1GoodSym.l0]; exact rfl) ?_
    exact Ev.ifF (by omega) (Ev.now _)
  · intro i hi ih
    rw [symFrom_step s i hi]
    refine Ev.step (fun k => by simp only [spec_l1GoodSym.l0, wrap_succ hi hs]; exact rfl) ?_
    refine Ev.ifT (by omega) ?_
    refine Ev.ifT (by omega) ?_
    generalize bt s (i : Int) = c
    have good : symOk c = true → Ev (fun k => spec_l1GoodSym.l0 k s ((i + 1 : Nat) : Int)) (symOk c && symFrom s (i + 1)) := by
      intro h
      rw [h, Bool.true_and]
      exact ih
    have bad : symOk c = false → Ev (fun _ => some false) (symOk c && symFrom s (i + 1)) := by
      intro h
      rw [h, Bool.false_and]
      exact Ev.now _
    repeat (first
      | exact good (by simp [symOk]; omega)
      | exact bad (by simp [symOk]; omega)
      | refine Ev.ite (fun _ => ?_) (fun _ => ?_))
theorem l1GoodSym_some (s : ByteArray) : Ev (fun k => spec_l1GoodSym.f k s) (goodSymB s) := by
  have hj : ∀ (b : Bool), s.size ≤ 20 → Ev (fun k => spec_l1GoodSym.j0 k s b) (if b = true then false else symFrom s 0) := by
    intro b hs
    refine Ev.step (fun k => by simp only [spec_l1GoodSym.j0]; exact rfl) ?_
    cases b with
    | true => exact Ev.ifT (by trivial) (Ev.now _)
    | false => exact Ev.ifF (by simp) (goodSym_loop s (by omega) 0 (by omega))
  have hj1 : Ev (fun k => spec_l1GoodSym.j0 k s true) false := by
    refine Ev.step (fun k => by simp only [spec_l1GoodSym.j0]; exact rfl) ?_
    exact Ev.ifT (by trivial) (Ev.now _)
  unfold goodSymB
  refine Ev.congr (fun k => by unfold spec_l1GoodSym.f; exact rfl) ?_
  by_cases c1 : s.size = 0
  · rw [if_pos c1]
    exact Ev.ifT (by omega) hj1
  rw [if_neg c1]
  refine Ev.ifF (by omega) ?_
  by_cases c2 : 20 < s.size
  · rw [if_pos c2]
    exact Ev.ifT (by omega) hj1
  rw [if_neg c2]
  refine Ev.ifF (by omega) ?_
  refine Ev.ifT (by omega) ?_
  by_cases c3 : bt s 0 < 97
  · rw [if_pos c3]
    exact Ev.ifT (by omega) hj1
  rw [if_neg c3]
  refine Ev.ifF (by omega) ?_
  refine Ev.as (hj _ (by omega)) ?_
  by_cases c4 : 122 < bt s 0
  · rw [if_pos c4, if_pos (by simpa using c4)]
  · rw [if_neg c4, if_neg (by simpa using c4)]
theorem toList_nil_iff (s : ByteArray) : s.toList = [] ↔ s.toList.isEmpty = true := by rw [List.isEmpty_iff]
theorem goodValueB_def (v : S104) : goodValueB v = if v.f0 = 0 then v.f2.toList.isEmpty else if v.f0 = 1 then (if v.f1 = 0 then goodSymB v.f2 else false) else false := by
  unfold goodValueB impl_Value_good.f impl_goodSym.f
  simp only [Option.bind_some]
  by_cases h : v.f0 = 0
  · rw [if_pos h, if_pos h]
    simp only [Option.getD_some]
    rw [Bool.eq_iff_iff, beq_iff_eq]
    exact toList_nil_iff _
  · rw [if_neg h, if_neg h]
    split
    · split <;> rfl
    · rfl
theorem l1GoodVal_some (v : S104) : Ev (fun k => spec_l1GoodVal.f k v.f0 v.f1 v.f2) (goodValueB v) := by
  rw [goodValueB_def]
  refine Ev.congr (fun k => by unfold spec_l1GoodVal.f; exact rfl) ?_
  refine Ev.ite (fun c0 => ?_) (fun c0 => ?_)
  · rw [if_pos c0]
    refine Ev.ite (fun c1 => ?_) (fun c1 => ?_)
    · exact Ev.as (Ev.now _) ((toList_nil_iff _).1 c1).symm
    · rw [toList_nil_iff, Bool.not_eq_true] at c1
      rw [c1]
      exact Ev.ifF (by omega) (Ev.now _)
  · rw [if_neg c0]
    refine Ev.ite (fun c1 => ?_) (fun c1 => ?_)
    · rw [if_pos c1]
      refine Ev.ite (fun c2 => ?_) (fun c2 => ?_)
      · rw [if_pos c2]
        exact Ev.bind (l1GoodSym_some _) (Ev.now _)
      · rw [if_neg c2]
        exact Ev.now _
    · rw [if_neg c1]
      exact Ev.now _
end Go.Proofs.Ytoncacdehhmpaaa.Pure
namespace Go.Proofs.Ytoncacdehhmpaaa.Pure
open Go.RowKit Go.Proofs.Ytoncacdehhmpaaa.P Go.Proofs.YtoncacdehhmpaaaW.PrintWords Go.Proofs.YtoncacdehhmpaaaW.PrintLast Go.Proofs.YtoncacdehhmpaaaX
set_option linter.unusedVariables false
set_option linter.unusedSimpArgs false
theorem l1GoodSlots_some (vs : List S104) : Ev (fun k => spec_l1GoodSlots.f k vs) (goodSlotsB vs) := by
  refine Ev.congr (fun k => by unfold spec_l1GoodSlots.f; exact rfl) ?_
  unfold goodSlotsB
  by_cases h : vs.length ≤ 6
  · rw [decide_eq_true h, Bool.true_and]
    refine Ev.ifF (by omega) ?_
    have key : ∀ i, i ≤ vs.length → Ev (fun k => spec_l1GoodSlots.l0 k vs (vs.length : Int) (i : Int)) ((vs.drop i).all goodValueB) := by
      refine up_ind ?_ ?_
      · rw [List.drop_length]
        refine Ev.step (fun k => by simp only [spec_l1GoodSlots.l0]; exact rfl) ?_
        exact Ev.ifF (by omega) (Ev.now _)
      · intro i hi ih
        rw [drop_getD z104 hi, List.all_cons]
        have hrd : rd_T104 vs (i : Int) = vs.getD i z104 := by simp [rd_T104]
        refine Ev.step (fun k => by simp only [spec_l1GoodSlots.l0, wrap_succ hi (show vs.length ≤ 9223372036854775807 by omega), hrd]; exact rfl) ?_
        refine Ev.ifT (by omega) (Ev.ifT (by omega) (Ev.ifT (by omega) (Ev.bind (l1GoodVal_some (vs.getD i z104)) ?_)))
        refine Ev.ite (fun c => ?_) (fun c => ?_)
        · rw [c, Bool.true_and]; exact ih
        · rw [Bool.not_eq_true] at c
          rw [c]; exact Ev.now _
    have := key 0 (Nat.zero_le _)
    rw [List.drop_zero] at this
    exact this
  · rw [decide_eq_false h]
    exact Ev.ifT (by omega) (Ev.now _)
def factsFrom : Int → List S38 → Bool
  | _, [] => true
  | last, f :: fs => if f.f0 ≤ last then false else if f.f0 > 1000000 then false else goodSymB f.f1 && (goodSlotsB f.f2 && factsFrom f.f0 fs)
def goodFactsB (l : List S38) : Bool := decide (l.length ≤ 40) && factsFrom 0 l
theorem implFacts_loop (l : List S38) (hl : l.length ≤ 9223372036854775807) : ∀ i, i ≤ l.length → ∀ last : Int, Ev (fun k => impl_goodFacts.l0 k l last l (l.length : Int) (i : Int)) (factsFrom last (l.drop i) && decide (l.length ≤ 40)) := by
  refine up_ind ?_ ?_
  · intro last
    rw [List.drop_length]
    refine Ev.step (fun k => by simp only [impl_goodFacts.l0]; exact rfl) ?_
    refine Ev.ifF (by omega) (Ev.as (Ev.now _) ?_)
    rw [factsFrom, Bool.true_and]
    congr 1
    rw [eq_iff_iff]
    omega
  · intro i hi ih last
    rw [drop_getD z38 hi, factsFrom]
    have hrd : rd_T38 l (i : Int) = l.getD i z38 := by simp [rd_T38]
    generalize l.getD i z38 = f at hrd
    refine Ev.step (fun k => by simp only [impl_goodFacts.l0, wrap_succ hi hl, hrd]; exact rfl) ?_
    refine Ev.ifT (by omega) (Ev.ifT (by omega) (Ev.ifT (by omega) ?_))
    refine Ev.ite (fun c => ?_) (fun c => ?_)
    · rw [if_pos c]; exact Ev.now _
    rw [if_neg c]
    refine Ev.ite (fun c => ?_) (fun c => ?_)
    · rw [if_pos c]; exact Ev.now _
    rw [if_neg c]
    refine Ev.bindE (show impl_goodSym.f f.f1 = some (goodSymB f.f1) from rfl) ?_
    refine Ev.ite (fun c => ?_) (fun c => ?_)
    · rw [c, Bool.true_and]
      refine Ev.bindE (show impl_goodSlots.f f.f2 = some (goodSlotsB f.f2) from rfl) ?_
      refine Ev.ite (fun c => ?_) (fun c => ?_)
      · rw [c, Bool.true_and]; exact ih _
      · rw [Bool.not_eq_true] at c
        rw [c]; exact Ev.now _
    · rw [Bool.not_eq_true] at c
      rw [c]; exact Ev.now _
theorem implGoodFacts_some (l : List S38) (hl : l.length ≤ 9223372036854775807) : Ev (fun k => impl_goodFacts.f k l) (goodFactsB l) := by
  refine Ev.congr (fun k => by unfold impl_goodFacts.f; exact rfl) ?_
  have := implFacts_loop l hl 0 (Nat.zero_le _) 0
  rw [List.drop_zero, Bool.and_comm] at this
  exact this
theorem specGoodFacts_some (l : List S38) : Ev (fun k => spec_l1GoodFacts.f k l) (goodFactsB l) := by
  refine Ev.congr (fun k => by unfold spec_l1GoodFacts.f; exact rfl) ?_
  unfold goodFactsB
  by_cases h : l.length ≤ 40
  · rw [decide_eq_true h, Bool.true_and]
    refine Ev.ifF (by omega) ?_
    have hl : l.length ≤ 9223372036854775807 := by omega
    have key : ∀ i, i ≤ l.length → ∀ last : Int, Ev (fun k => spec_l1GoodFacts.l0 k last l (l.length : Int) (i : Int)) (factsFrom last (l.drop i)) := by
      refine up_ind ?_ ?_
      · intro last
        rw [List.drop_length]
        refine Ev.step (fun k => by simp only [spec_l1GoodFacts.l0]; exact rfl) ?_
        exact Ev.ifF (by omega) (Ev.now _)
      · intro i hi ih last
        rw [drop_getD z38 hi, factsFrom]
        have hrd : rd_T38 l (i : Int) = l.getD i z38 := by simp [rd_T38]
        generalize l.getD i z38 = f at hrd
        refine Ev.step (fun k => by simp only [spec_l1GoodFacts.l0, wrap_succ hi hl, hrd]; exact rfl) ?_
        refine Ev.ifT (by omega) (Ev.ifT (by omega) (Ev.ifT (by omega) ?_))
        refine Ev.ite (fun c => ?_) (fun c => ?_)
        · rw [if_pos c]; exact Ev.now _
        rw [if_neg c]
        refine Ev.ite (fun c => ?_) (fun c => ?_)
        · rw [if_pos c]; exact Ev.now _
        rw [if_neg c]
        refine Ev.bind (l1GoodSym_some f.f1) ?_
        refine Ev.ite (fun c => ?_) (fun c => ?_)
        · rw [c, Bool.true_and]
          refine Ev.bind (l1GoodSlots_some f.f2) ?_
          refine Ev.ite (fun c => ?_) (fun c => ?_)
          · rw [c, Bool.true_and]; exact ih _
          · rw [Bool.not_eq_true] at c
            rw [c]; exact Ev.now _
        · rw [Bool.not_eq_true] at c
          rw [c]; exact Ev.now _
    have := key 0 (Nat.zero_le _) 0
    rw [List.drop_zero] at this
    exact this
  · rw [decide_eq_false h]
    exact Ev.ifT (by omega) (Ev.now _)
end Go.Proofs.Ytoncacdehhmpaaa.Pure
namespace Go.Proofs.Ytoncacdehhmpaaa.Pure
open Go.RowKit Go.Proofs.Ytoncacdehhmpaaa.P Go.Proofs.YtoncacdehhmpaaaW.PrintWords Go.Proofs.YtoncacdehhmpaaaW.PrintLast Go.Proofs.YtoncacdehhmpaaaX
set_option linter.unusedVariables false
set_option linter.unusedSimpArgs false
def cvValue (x : S158) : S104 := ⟨x.f0, x.f1, x.f2⟩
def tzValue (x : S158) : Nat := x.f2.size
def okValue (x : S158) : Prop := okInt x.f0 ∧ okInt x.f1 ∧ x.f2.size ≤ 9223372036854775807
def tzValueS (xs : List S158) : Nat := xs.length + (xs.map tzValue).sum
def okValueS (xs : List S158) : Prop := xs.length ≤ 9223372036854775807 ∧ ∀ x, x ∈ xs → okValue x
theorem sz_Value (x : S158) (hok : okValue x) (left : Int) (h0 : 0 ≤ left) (h1 : left ≤ 1048576) : laws_szValue.f x.f0 x.f1 x.f2 left = some (szv (tzValue x) left) := by
  obtain ⟨o0, o1, o2⟩ := hok
  have e2 : wrap64 (left - (x.f2.size : Int)) = left - (x.f2.size : Int) := wrap_left (by omega) (by omega) o2
  by_cases c2 : left - (x.f2.size : Int) < 0
  · have hz : szv (tzValue x) left = -1 := szv_neg (by unfold tzValue; omega)
    rw [hz]
    unfold laws_szValue.f
    rw [e2, if_pos c2]
    try rfl
  · skip
    have hz : szv (tzValue x) left = (left - (x.f2.size : Int)) := by rw [szv_pos (by unfold tzValue; omega)]; unfold tzValue; omega
    rw [hz]
    unfold laws_szValue.f
    rw [e2, if_neg c2]
    try rfl
theorem to_Value (x : S158) : laws_toValue.f x.f0 x.f1 x.f2 = some (x.f0, x.f1, x.f2) := rfl
theorem eq_Value (x : S104) : laws_eqValue.f x.f0 x.f1 x.f2 x.f0 x.f1 x.f2 = some true := by
  unfold laws_eqValue.f
  rw [if_pos (by trivial)]
  rw [if_pos (by trivial)]
  rw [if_pos (by trivial)]
theorem sz_ValueS (xs : List S158) (hok : okValueS xs) (left : Int) (h0 : 0 ≤ left) (h1 : left ≤ 1048576) : Ev (fun k => laws_szValueS.f k xs left) (szv (tzValueS xs) left) := by
  obtain ⟨ol, oe⟩ := hok
  have e : wrap64 (left - (xs.length : Int)) = left - (xs.length : Int) := wrap_left h0 h1 ol
  by_cases c : left - (xs.length : Int) < 0
  · have hz : szv (tzValueS xs) left = -1 := szv_neg (by unfold tzValueS; omega)
    rw [hz]
    refine ⟨0, fun k _ => ?_⟩
    dsimp only
    unfold laws_szValueS.f
    rw [e, if_pos c]
  · have hz : szv (tzValueS xs) left = szv (xs.map tzValue).sum (left - (xs.length : Int)) := by unfold szv tzValueS; split <;> split <;> omega
    rw [hz]
    have key := sz_loop xs z158 tzValue (fun k l i => laws_szValueS.l0 k xs l i) ?_ ?_ (left - (xs.length : Int)) (by omega) (by omega)
    · obtain ⟨K, hK⟩ := key
      refine ⟨K, fun k hk => ?_⟩
      dsimp only
      unfold laws_szValueS.f
      rw [e, if_neg c]
      exact hK k hk
    · intro i l r hi g0 g1 hneg hpos
      have hrd : rd_T158 xs (i : Int) = xs.getD i z158 := by simp [rd_T158]
      have s := sz_Value (xs.getD i z158) (oe _ (getD_in _ hi)) l g0 g1
      by_cases c2 : l < (tzValue (xs.getD i z158) : Int)
      · rw [hneg c2]
        rw [szv_neg c2] at s
        refine ⟨0 + 1, fun k hk => ?_⟩
        dsimp only
        obtain ⟨m, rfl⟩ : ∃ m, k = m + 1 := ⟨k - 1, by omega⟩
        simp only [laws_szValueS.l0]
        rw [if_pos (by omega), if_pos (by omega), hrd, s]
        rfl
      · have d2 : (tzValue (xs.getD i z158) : Int) ≤ l := by omega
        obtain ⟨K2, h2⟩ := hpos d2
        rw [szv_pos d2] at s
        refine ⟨K2 + 1, fun k hk => ?_⟩
        dsimp only
        obtain ⟨m, rfl⟩ : ∃ m, k = m + 1 := ⟨k - 1, by omega⟩
        simp only [laws_szValueS.l0]
        rw [if_pos (by omega), if_pos (by omega), hrd, s]
        simp only [Option.bind_some]
        rw [if_neg (by omega), wrap_succ hi ol]
        exact h2 m (by omega)
    · intro l
      refine ⟨1, fun k hk => ?_⟩
      dsimp only
      obtain ⟨m, rfl⟩ : ∃ m, k = m + 1 := ⟨k - 1, by omega⟩
      simp only [laws_szValueS.l0]
      rw [if_neg (by omega)]
theorem to_ValueS (xs : List S158) (hs : tzValueS xs ≤ 1048576) : Ev (fun k => laws_toValueS.f k xs) (xs.map cvValue) := by
  unfold tzValueS at hs
  have key := to_loop xs z158 cvValue (fun k out i => laws_toValueS.l0 k xs out i) ?_ ?_ (List.replicate xs.length z104) List.length_replicate
  · obtain ⟨K, hK⟩ := key
    refine ⟨K, fun k hk => ?_⟩
    dsimp only
    unfold laws_toValueS.f
    rw [if_pos (by omega), if_pos (by rw [Int.toNat_natCast]; omega), Int.toNat_natCast]
    exact hK k hk
  · intro i out r hi ho h
    obtain ⟨K, hK⟩ := h
    have hrd : rd_T158 xs (i : Int) = xs.getD i z158 := by simp [rd_T158]
    have h1 := to_Value (xs.getD i z158)
    refine ⟨K + 1, fun k hk => ?_⟩
    dsimp only
    obtain ⟨m, rfl⟩ : ∃ m, k = m + 1 := ⟨k - 1, by omega⟩
    simp only [laws_toValueS.l0]
    rw [if_pos (by omega), if_pos (by omega), hrd, h1]
    simp only [Option.bind_some]
    rw [if_pos (by omega), wrap_succ hi (by omega), Int.toNat_natCast]
    exact hK m (by omega)
  · intro out ho
    refine ⟨1, fun k hk => ?_⟩
    dsimp only
    obtain ⟨m, rfl⟩ : ∃ m, k = m + 1 := ⟨k - 1, by omega⟩
    simp only [laws_toValueS.l0]
    rw [if_neg (by omega)]
theorem eq_ValueS (xs : List S104) (hl : xs.length ≤ 9223372036854775807) : Ev (fun k => laws_eqValueS.f k xs xs) true := by
  have key := eq_loop xs.length (fun k i => laws_eqValueS.l0 k xs xs i) ?_ ?_
  · obtain ⟨K, hK⟩ := key
    refine ⟨K, fun k hk => ?_⟩
    dsimp only
    unfold laws_eqValueS.f
    rw [if_pos (by trivial)]
    exact hK k hk
  · intro i hi h
    obtain ⟨K, hK⟩ := h
    have hrd : rd_T104 xs (i : Int) = xs.getD i z104 := by simp [rd_T104]
    have h1 := eq_Value (xs.getD i z104)
    refine ⟨K + 1, fun k hk => ?_⟩
    dsimp only
    obtain ⟨m, rfl⟩ : ∃ m, k = m + 1 := ⟨k - 1, by omega⟩
    simp only [laws_eqValueS.l0]
    rw [if_pos (by omega), if_pos (by omega), if_pos (by omega), hrd, h1]
    simp only [Option.bind_some]
    rw [if_pos (by trivial), wrap_succ hi hl]
    exact hK m (by omega)
  · refine ⟨1, fun k hk => ?_⟩
    dsimp only
    obtain ⟨m, rfl⟩ : ∃ m, k = m + 1 := ⟨k - 1, by omega⟩
    simp only [laws_eqValueS.l0]
    rw [if_neg (by omega)]
def cvFact (x : S28) : S38 := ⟨x.f0, x.f1, (x.f2.map cvValue)⟩
def tzFact (x : S28) : Nat := x.f1.size + tzValueS x.f2
def okFact (x : S28) : Prop := okInt x.f0 ∧ x.f1.size ≤ 9223372036854775807 ∧ okValueS x.f2
def tzFactS (xs : List S28) : Nat := xs.length + (xs.map tzFact).sum
def okFactS (xs : List S28) : Prop := xs.length ≤ 9223372036854775807 ∧ ∀ x, x ∈ xs → okFact x
theorem sz_Fact (x : S28) (hok : okFact x) (left : Int) (h0 : 0 ≤ left) (h1 : left ≤ 1048576) : Ev (fun k => laws_szFact.f k x.f0 x.f1 x.f2 left) (szv (tzFact x) left) := by
  obtain ⟨o0, o1, o2⟩ := hok
  have e1 : wrap64 (left - (x.f1.size : Int)) = left - (x.f1.size : Int) := wrap_left (by omega) (by omega) o1
  by_cases c1 : left - (x.f1.size : Int) < 0
  · have hz : szv (tzFact x) left = -1 := szv_neg (by unfold tzFact; omega)
    rw [hz]
    refine ⟨0, fun k hk => ?_⟩
    dsimp only
    unfold laws_szFact.f
    rw [e1, if_pos c1]
    try rfl
  · skip
    obtain ⟨K2, s2⟩ := sz_ValueS x.f2 o2 (left - (x.f1.size : Int)) (by omega) (by omega)
    by_cases c2 : (left - (x.f1.size : Int)) < ((tzValueS x.f2 : Nat) : Int)
    · have hz : szv (tzFact x) left = -1 := szv_neg (by unfold tzFact; omega)
      rw [hz]
      simp only [szv_neg c2] at s2
      refine ⟨K2, fun k hk => ?_⟩
      dsimp only
      unfold laws_szFact.f
      rw [e1, if_neg c1]
      rw [s2 k (by omega)]
      rfl
    · have d2 : ((tzValueS x.f2 : Nat) : Int) ≤ (left - (x.f1.size : Int)) := by omega
      simp only [szv_pos d2] at s2
      have hz : szv (tzFact x) left = ((left - (x.f1.size : Int)) - ((tzValueS x.f2 : Nat) : Int)) := by rw [szv_pos (by unfold tzFact; omega)]; unfold tzFact; omega
      rw [hz]
      refine ⟨K2, fun k hk => ?_⟩
      dsimp only
      unfold laws_szFact.f
      rw [e1, if_neg c1]
      rw [s2 k (by omega)]
      simp only [Option.bind_some]
      rw [if_neg (by omega)]
      try rfl
theorem to_Fact (x : S28) (hs : tzFact x ≤ 1048576) : Ev (fun k => laws_toFact.f k x.f0 x.f1 x.f2) (x.f0, x.f1, (x.f2.map cvValue)) := by
  unfold tzFact at hs
  obtain ⟨K2, h2⟩ := to_ValueS x.f2 (by omega)
  dsimp only at h2
  refine ⟨K2, fun k hk => ?_⟩
  dsimp only
  unfold laws_toFact.f
  rw [h2 k (by omega)]
  simp only [Option.bind_some]
  try rfl
def leFact (x : S38) : Prop := x.f2.length ≤ 9223372036854775807
theorem eq_Fact (x : S38) (hl : leFact x) : Ev (fun k => laws_eqFact.f k x.f0 x.f1 x.f2 x.f0 x.f1 x.f2) true := by
  have o2 := hl
  unfold leFact at o2
  obtain ⟨K2, h2⟩ := eq_ValueS x.f2 o2
  dsimp only at h2
  refine ⟨K2, fun k hk => ?_⟩
  dsimp only
  unfold laws_eqFact.f
  rw [if_pos (by trivial)]
  rw [if_pos (by trivial)]
  rw [h2 k (by omega)]
  simp only [Option.bind_some]
  rw [if_pos (by trivial)]
theorem sz_FactS (xs : List S28) (hok : okFactS xs) (left : Int) (h0 : 0 ≤ left) (h1 : left ≤ 1048576) : Ev (fun k => laws_szFactS.f k xs left) (szv (tzFactS xs) left) := by
  obtain ⟨ol, oe⟩ := hok
  have e : wrap64 (left - (xs.length : Int)) = left - (xs.length : Int) := wrap_left h0 h1 ol
  by_cases c : left - (xs.length : Int) < 0
  · have hz : szv (tzFactS xs) left = -1 := szv_neg (by unfold tzFactS; omega)
    rw [hz]
    refine ⟨0, fun k _ => ?_⟩
    dsimp only
    unfold laws_szFactS.f
    rw [e, if_pos c]
  · have hz : szv (tzFactS xs) left = szv (xs.map tzFact).sum (left - (xs.length : Int)) := by unfold szv tzFactS; split <;> split <;> omega
    rw [hz]
    have key := sz_loop xs z28 tzFact (fun k l i => laws_szFactS.l0 k xs l i) ?_ ?_ (left - (xs.length : Int)) (by omega) (by omega)
    · obtain ⟨K, hK⟩ := key
      refine ⟨K, fun k hk => ?_⟩
      dsimp only
      unfold laws_szFactS.f
      rw [e, if_neg c]
      exact hK k hk
    · intro i l r hi g0 g1 hneg hpos
      have hrd : rd_T28 xs (i : Int) = xs.getD i z28 := by simp [rd_T28]
      obtain ⟨K1, s⟩ := sz_Fact (xs.getD i z28) (oe _ (getD_in _ hi)) l g0 g1
      by_cases c2 : l < (tzFact (xs.getD i z28) : Int)
      · rw [hneg c2]
        simp only [szv_neg c2] at s
        refine ⟨K1 + 1, fun k hk => ?_⟩
        dsimp only
        obtain ⟨m, rfl⟩ : ∃ m, k = m + 1 := ⟨k - 1, by omega⟩
        simp only [laws_szFactS.l0]
        rw [if_pos (by omega), if_pos (by omega), hrd, s m (by omega)]
        rfl
      · have d2 : (tzFact (xs.getD i z28) : Int) ≤ l := by omega
        obtain ⟨K2, h2⟩ := hpos d2
        simp only [szv_pos d2] at s
        refine ⟨K1 + K2 + 1, fun k hk => ?_⟩
        dsimp only
        obtain ⟨m, rfl⟩ : ∃ m, k = m + 1 := ⟨k - 1, by omega⟩
        simp only [laws_szFactS.l0]
        rw [if_pos (by omega), if_pos (by omega), hrd, s m (by omega)]
        simp only [Option.bind_some]
        rw [if_neg (by omega), wrap_succ hi ol]
        exact h2 m (by omega)
    · intro l
      refine ⟨1, fun k hk => ?_⟩
      dsimp only
      obtain ⟨m, rfl⟩ : ∃ m, k = m + 1 := ⟨k - 1, by omega⟩
      simp only [laws_szFactS.l0]
      rw [if_neg (by omega)]
theorem to_FactS (xs : List S28) (hs : tzFactS xs ≤ 1048576) : Ev (fun k => laws_toFactS.f k xs) (xs.map cvFact) := by
  unfold tzFactS at hs
  have key := to_loop xs z28 cvFact (fun k out i => laws_toFactS.l0 k xs out i) ?_ ?_ (List.replicate xs.length z38) List.length_replicate
  · obtain ⟨K, hK⟩ := key
    refine ⟨K, fun k hk => ?_⟩
    dsimp only
    unfold laws_toFactS.f
    rw [if_pos (by omega), if_pos (by rw [Int.toNat_natCast]; omega), Int.toNat_natCast]
    exact hK k hk
  · intro i out r hi ho h
    obtain ⟨K, hK⟩ := h
    have hrd : rd_T28 xs (i : Int) = xs.getD i z28 := by simp [rd_T28]
    have hm := sum_le_of_mem tzFact xs _ (getD_in z28 hi)
    obtain ⟨K1, h1⟩ := to_Fact (xs.getD i z28) (by omega)
    dsimp only at h1
    refine ⟨K1 + K + 1, fun k hk => ?_⟩
    dsimp only
    obtain ⟨m, rfl⟩ : ∃ m, k = m + 1 := ⟨k - 1, by omega⟩
    simp only [laws_toFactS.l0]
    rw [if_pos (by omega), if_pos (by omega), hrd, h1 m (by omega)]
    simp only [Option.bind_some]
    rw [if_pos (by omega), wrap_succ hi (by omega), Int.toNat_natCast]
    exact hK m (by omega)
  · intro out ho
    refine ⟨1, fun k hk => ?_⟩
    dsimp only
    obtain ⟨m, rfl⟩ : ∃ m, k = m + 1 := ⟨k - 1, by omega⟩
    simp only [laws_toFactS.l0]
    rw [if_neg (by omega)]
def leFactS (xs : List S38) : Prop := xs.length ≤ 9223372036854775807 ∧ ∀ x, x ∈ xs → leFact x
theorem eq_FactS (xs : List S38) (hl : leFactS xs) : Ev (fun k => laws_eqFactS.f k xs xs) true := by
  obtain ⟨hl, he⟩ := hl
  have key := eq_loop xs.length (fun k i => laws_eqFactS.l0 k xs xs i) ?_ ?_
  · obtain ⟨K, hK⟩ := key
    refine ⟨K, fun k hk => ?_⟩
    dsimp only
    unfold laws_eqFactS.f
    rw [if_pos (by trivial)]
    exact hK k hk
  · intro i hi h
    obtain ⟨K, hK⟩ := h
    have hrd : rd_T38 xs (i : Int) = xs.getD i z38 := by simp [rd_T38]
    obtain ⟨K1, h1⟩ := eq_Fact (xs.getD i z38) (he _ (getD_in _ hi))
    dsimp only at h1
    refine ⟨K1 + K + 1, fun k hk => ?_⟩
    dsimp only
    obtain ⟨m, rfl⟩ : ∃ m, k = m + 1 := ⟨k - 1, by omega⟩
    simp only [laws_eqFactS.l0]
    rw [if_pos (by omega), if_pos (by omega), if_pos (by omega), hrd, h1 m (by omega)]
    simp only [Option.bind_some]
    rw [if_pos (by trivial), wrap_succ hi hl]
    exact hK m (by omega)
  · refine ⟨1, fun k hk => ?_⟩
    dsimp only
    obtain ⟨m, rfl⟩ : ∃ m, k = m + 1 := ⟨k - 1, by omega⟩
    simp only [laws_eqFactS.l0]
    rw [if_neg (by omega)]
theorem le_cvFact (x : S28) (hs : tzFact x ≤ 1048576) : leFact (cvFact x) := by
  unfold tzFact at hs
  exact by show (x.f2.map cvValue).length ≤ _; rw [List.length_map]; unfold tzValueS at hs; omega
theorem le_cvFactS (xs : List S28) (hs : tzFactS xs ≤ 1048576) : leFactS (xs.map cvFact) := by
  unfold tzFactS at hs
  refine ⟨by rw [List.length_map]; omega, fun y hy => ?_⟩
  obtain ⟨x, hx, rfl⟩ := List.mem_map.1 hy
  have := sum_le_of_mem tzFact xs x hx
  exact le_cvFact x (by omega)
def cvStore (x : S45) : S50 := ⟨(x.f0.map cvFact), x.f1, x.f2, x.f3⟩
def tzStore (x : S45) : Nat := tzFactS x.f0
def okStore (x : S45) : Prop := okFactS x.f0 ∧ okInt x.f1 ∧ okInt x.f2
theorem sz_Store (x : S45) (hok : okStore x) (left : Int) (h0 : 0 ≤ left) (h1 : left ≤ 1048576) : Ev (fun k => laws_szStore.f k x.f0 x.f1 x.f2 x.f3 left) (szv (tzStore x) left) := by
  obtain ⟨o0, o1, o2⟩ := hok
  obtain ⟨K0, s0⟩ := sz_FactS x.f0 o0 left (by omega) (by omega)
  by_cases c0 : left < ((tzFactS x.f0 : Nat) : Int)
  · have hz : szv (tzStore x) left = -1 := szv_neg (by unfold tzStore; omega)
    rw [hz]
    simp only [szv_neg c0] at s0
    refine ⟨K0, fun k hk => ?_⟩
    dsimp only
    unfold laws_szStore.f
    rw [s0 k (by omega)]
    rfl
  · have d0 : ((tzFactS x.f0 : Nat) : Int) ≤ left := by omega
    simp only [szv_pos d0] at s0
    have hz : szv (tzStore x) left = (left - ((tzFactS x.f0 : Nat) : Int)) := by rw [szv_pos (by unfold tzStore; omega)]; unfold tzStore; omega
    rw [hz]
    refine ⟨K0, fun k hk => ?_⟩
    dsimp only
    unfold laws_szStore.f
    rw [s0 k (by omega)]
    simp only [Option.bind_some]
    rw [if_neg (by omega)]
    try rfl
theorem to_Store (x : S45) (hs : tzStore x ≤ 1048576) : Ev (fun k => laws_toStore.f k x.f0 x.f1 x.f2 x.f3) ((x.f0.map cvFact), x.f1, x.f2, x.f3) := by
  unfold tzStore at hs
  obtain ⟨K0, h0⟩ := to_FactS x.f0 (by omega)
  dsimp only at h0
  refine ⟨K0, fun k hk => ?_⟩
  dsimp only
  unfold laws_toStore.f
  rw [h0 k (by omega)]
  simp only [Option.bind_some]
  try rfl
def leStore (x : S50) : Prop := leFactS x.f0
theorem eq_Store (x : S50) (hl : leStore x) : Ev (fun k => laws_eqStore.f k x.f0 x.f1 x.f2 x.f3 x.f0 x.f1 x.f2 x.f3) true := by
  have o0 := hl
  unfold leStore at o0
  obtain ⟨K0, h0⟩ := eq_FactS x.f0 o0
  dsimp only at h0
  refine ⟨K0, fun k hk => ?_⟩
  dsimp only
  unfold laws_eqStore.f
  rw [h0 k (by omega)]
  simp only [Option.bind_some]
  rw [if_pos (by trivial)]
  rw [if_pos (by trivial)]
  rw [if_pos (by trivial)]
  rw [if_neg (by simp)]
theorem le_cvStore (x : S45) (hs : tzStore x ≤ 1048576) : leStore (cvStore x) := by
  unfold tzStore at hs
  exact le_cvFactS x.f0 (by omega)
def allFrom (p : Nat → Bool) (n i : Nat) : Bool := ((List.range n).drop i).all p
theorem allFrom_end (p : Nat → Bool) (n : Nat) : allFrom p n n = true := by
  unfold allFrom
  rw [List.drop_of_length_le (by simp)]
  rfl
theorem allFrom_step (p : Nat → Bool) {n i : Nat} (h : i < n) : allFrom p n i = (p i && allFrom p n (i + 1)) := by
  unfold allFrom
  rw [List.drop_eq_getElem_cons (by simpa using h), List.all_cons]
  simp
theorem allFrom_iff (p : Nat → Bool) (n : Nat) : allFrom p n 0 = true ↔ ∀ i, i < n → p i = true := by
  unfold allFrom
  rw [List.drop_zero, List.all_eq_true]
  exact ⟨fun h i hi => h i (List.mem_range.2 hi), fun h i hi => h i (List.mem_range.1 hi)⟩
theorem rdV (F : List S104) (i : Nat) : rd_T104 F (i : Int) = F.getD i z104 := by simp [rd_T104]
theorem rdF (F : List S38) (i : Nat) : rd_T38 F (i : Int) = F.getD i z38 := by simp [rd_T38]
theorem sameSlots_some (a b : List S104) (hl : a.length ≤ 9223372036854775807) : Ev (fun k => spec_l1SameSlots.f k a b) (valsEq a b) := by
  refine Ev.congr (fun k => by unfold spec_l1SameSlots.f; exact rfl) ?_
  by_cases h : a.length = b.length
  · refine Ev.ifT (by omega) ?_
    have key : ∀ i, i ≤ a.length → Ev (fun k => spec_l1SameSlots.l0 k a b (a.length : Int) (i : Int)) (valsEq (a.drop i) (b.drop i)) := by
      refine up_ind ?_ ?_
      · rw [List.drop_length, List.drop_of_length_le (by omega)]
        refine Ev.step (fun k => by simp only [spec_l1SameSlots.l0]; exact rfl) ?_
        exact Ev.ifF (by omega) (Ev.now _)
      · intro i hi ih
        rw [drop_getD z104 hi, drop_getD z104 (show i < b.length by omega), valsEq]
        refine Ev.step (fun k => by simp only [spec_l1SameSlots.l0, wrap_succ hi hl, rdV]; exact rfl) ?_
        refine Ev.ifT (by omega) (Ev.ifT (by omega) (Ev.ifT (by omega) (Ev.ifT (by omega) ?_)))
        generalize a.getD i z104 = x at *
        generalize b.getD i z104 = y at *
        cases hv : valEq x y with
        | true =>
          rw [Bool.true_and]
          refine Ev.ifF ?_ ih
          unfold valEq at hv
          simp only [Bool.and_eq_true] at hv
          rw [hv.1, hv.2.1, hv.2.2]
          simp
        | false =>
          rw [Bool.false_and]
          refine Ev.ifT ?_ (Ev.now _)
          unfold valEq at hv
          cases e1 : (x.f0 == y.f0) <;> cases e2 : (x.f1 == y.f1) <;> cases e3 : (x.f2.toList == y.f2.toList) <;> simp [e1, e2, e3] at hv ⊢
    have := key 0 (Nat.zero_le _)
    rw [List.drop_zero, List.drop_zero] at this
    exact this
  · refine Ev.ifF (by omega) (Ev.as (Ev.now _) ?_)
    symm
    rw [← Bool.not_eq_true, valsEq_iff]
    intro e
    exact h (by rw [e])
def clashB (L : List S38) (sg : Bool) (j i : Nat) : Bool := !(sg && sameShape (L.getD i z38) (L.getD j z38))
def factB (L : List S38) (nx : Int) (sg : Bool) (j : Nat) : Bool := decide ((L.getD j z38).f0 < nx) && allFrom (clashB L sg j) j 0
theorem valsEq_comm (a b : List S104) : valsEq a b = valsEq b a := by
  rw [Bool.eq_iff_iff, valsEq_iff, valsEq_iff]
  exact ⟨Eq.symm, Eq.symm⟩
theorem take_get (L : List S38) (i j : Nat) (h : i < j) (hj : j ≤ L.length) : (L.take j).getD i z38 = L.getD i z38 := by
  rw [List.getD_eq_getElem?_getD, List.getElem?_take, if_pos h, ← List.getD_eq_getElem?_getD]
theorem specStore_inner (L : List S38) (nx cp : Int) (sg : Bool) (hL : L.length ≤ 40) (hs : ∀ f, f ∈ L → f.f2.length ≤ 9223372036854775807) (j : Nat) (hj : j < L.length) (r : Bool)
    (hnext : Ev (fun k => spec_StoreValid.l0 k L (L.length : Int) ((j + 1 : Nat) : Int) L nx cp sg) r) :
    ∀ i, i ≤ j → Ev (fun k => spec_StoreValid.l1 k L (L.length : Int) (j : Int) (L.take j) ((L.take j).length : Int) (i : Int) L nx cp sg (L.getD j z38).f0 (L.getD j z38).f1 (L.getD j z38).f2) (allFrom (clashB L sg j) j i && r) := by
  have hlt : (L.take j).length = j := by rw [List.length_take]; omega
  rw [hlt]
  refine up_ind ?_ ?_
  · rw [allFrom_end, Bool.true_and]
    refine Ev.step (fun k => by simp only [spec_StoreValid.l1, wrap_succ hj (show L.length ≤ 9223372036854775807 by omega)]; exact rfl) ?_
    exact Ev.ifF (by omega) hnext
  · intro i hi ih
    rw [allFrom_step _ hi]
    have hc : clashB L sg j i = !(sg && sameShape (L.getD i z38) (L.getD j z38)) := rfl
    refine Ev.step (fun k => by simp only [spec_StoreValid.l1, rdF, wrap_succ hi (show j ≤ 9223372036854775807 by omega), take_get L i j hi (by omega)]; exact rfl) ?_
    refine Ev.ifT (by omega) (Ev.ifT (by omega) (Ev.ifT (by rw [hlt]; omega) ?_))
    refine Ev.ite (fun c => ?_) (fun c => ?_)
    · refine Ev.ite (fun c2 => ?_) (fun c2 => ?_)
      · refine Ev.bind (sameSlots_some _ _ (hs _ (getD_in _ hj))) ?_
        have hsh : sameShape (L.getD i z38) (L.getD j z38) = valsEq (L.getD j z38).f2 (L.getD i z38).f2 := by
          unfold sameShape
          rw [beq_iff_eq.2 c2, Bool.true_and, valsEq_comm]
        refine Ev.ite (fun c3 => ?_) (fun c3 => ?_)
        · rw [hc, c, hsh, c3]
          exact Ev.now _
        · rw [Bool.not_eq_true] at c3
          rw [hc, c, hsh, c3, Bool.and_false, Bool.not_false, Bool.true_and]
          rw [c] at ih
          exact ih
      · have hsh : sameShape (L.getD i z38) (L.getD j z38) = false := by
          unfold sameShape
          rw [beq_eq_false_iff_ne.2 c2, Bool.false_and]
        rw [hc, hsh, Bool.and_false, Bool.not_false, Bool.true_and]
        exact ih
    · rw [Bool.not_eq_true] at c
      rw [hc, c, Bool.false_and, Bool.not_false, Bool.true_and]
      rw [c] at ih
      exact ih
theorem specStore_loop (L : List S38) (nx cp : Int) (sg : Bool) (hL : L.length ≤ 40) (hs : ∀ f, f ∈ L → f.f2.length ≤ 9223372036854775807) :
    ∀ j, j ≤ L.length → Ev (fun k => spec_StoreValid.l0 k L (L.length : Int) (j : Int) L nx cp sg) (allFrom (factB L nx sg) L.length j) := by
  refine up_ind ?_ ?_
  · rw [allFrom_end]
    refine Ev.step (fun k => by simp only [spec_StoreValid.l0]; exact rfl) ?_
    exact Ev.ifF (by omega) (Ev.now _)
  · intro j hj ih
    rw [allFrom_step _ hj]
    refine Ev.step (fun k => by simp only [spec_StoreValid.l0, rdF, Int.toNat_natCast]; exact rfl) ?_
    refine Ev.ifT (by omega) (Ev.ifT (by omega) (Ev.ifT (by omega) ?_))
    refine Ev.ite (fun c => ?_) (fun c => ?_)
    · unfold factB
      rw [decide_eq_false (by omega)]
      exact Ev.now _
    · refine Ev.ifT (by omega) (Ev.bindS ?_)
      unfold factB
      rw [decide_eq_true (by omega), Bool.true_and]
      exact specStore_inner L nx cp sg hL hs j hj _ ih 0 (Nat.zero_le _)
theorem factsFrom_rise : ∀ (L : List S38) (last : Int), factsFrom last L = true → ∀ j, j < L.length → last < (L.getD j z38).f0 ∧ (L.getD j z38).f0 ≤ 1000000 ∧ goodSymB (L.getD j z38).f1 = true ∧ goodSlotsB (L.getD j z38).f2 = true ∧ ∀ i, i < j → (L.getD i z38).f0 < (L.getD j z38).f0
  | [], _, _, j, hj => absurd hj (by simp)
  | f :: fs, last, h, j, hj => by
    unfold factsFrom at h
    split at h
    · cases h
    split at h
    · cases h
    simp only [Bool.and_eq_true] at h
    cases j with
    | zero => exact ⟨by show last < f.f0; omega, by show f.f0 ≤ _; omega, h.1, h.2.1, fun i hi => absurd hi (Nat.not_lt_zero _)⟩
    | succ j =>
      obtain ⟨g1, g2, g3, g4, g5⟩ := factsFrom_rise fs f.f0 h.2.2 j (by simpa using hj)
      refine ⟨?_, g2, g3, g4, fun i hi => ?_⟩
      · show last < (fs.getD j z38).f0
        omega
      · cases i with
        | zero => exact g1
        | succ i => exact g5 i (by omega)
def storeB (L : List S38) (nx cp : Int) (sg : Bool) : Bool :=
  if cp < 0 then false else if 40 < cp then false else if cp < (L.length : Int) then false else if goodFactsB L = true then (if nx < 1 then false else if 1000001 < nx then false else allFrom (factB L nx sg) L.length 0) else false
theorem good_len (L : List S38) (h : goodFactsB L = true) : L.length ≤ 40 ∧ factsFrom 0 L = true := by
  unfold goodFactsB at h
  simp only [Bool.and_eq_true, decide_eq_true_eq] at h
  exact h
theorem specStore_some (L : List S38) (nx cp : Int) (sg : Bool) (hs : ∀ f, f ∈ L → f.f2.length ≤ 9223372036854775807) : Ev (fun k => spec_StoreValid.f k L nx cp sg) (storeB L nx cp sg) := by
  have hj1 : Ev (fun k => spec_StoreValid.j0 k true L nx cp sg) false := by
    refine Ev.step (fun k => by simp only [spec_StoreValid.j0]; exact rfl) ?_
    exact Ev.ifT (by trivial) (Ev.now _)
  refine Ev.congr (fun k => by unfold spec_StoreValid.f; exact rfl) ?_
  unfold storeB
  refine Ev.ite (fun c => ?_) (fun c => ?_)
  · rw [if_pos c]; exact hj1
  rw [if_neg c]
  refine Ev.ite (fun c => ?_) (fun c => ?_)
  · rw [if_pos (by omega)]; exact hj1
  rw [if_neg (by omega)]
  refine Ev.ite (fun c => ?_) (fun c => ?_)
  · rw [if_pos (by omega)]; exact hj1
  rw [if_neg (by omega)]
  refine Ev.bind (specGoodFacts_some L) ?_
  refine Ev.ite (fun c => ?_) (fun c => ?_)
  · rw [if_pos c]
    obtain ⟨h40, _⟩ := good_len L c
    refine Ev.ite (fun c => ?_) (fun c => ?_)
    · rw [if_pos c]; exact hj1
    rw [if_neg c]
    refine Ev.step (fun k => by simp only [spec_StoreValid.j0]; exact rfl) ?_
    by_cases c2 : 1000001 < nx
    · rw [if_pos c2]
      exact Ev.ifT (by simpa using c2) (Ev.now _)
    · rw [if_neg c2]
      exact Ev.ifF (by simpa using c2) (specStore_loop L nx cp sg h40 hs 0 (Nat.zero_le _))
  · rw [if_neg c]; exact hj1
theorem implStore_some (L : List S38) (nx cp : Int) (sg : Bool) (hl : L.length ≤ 9223372036854775807) (hok : ∀ f, f ∈ L → goodSlotsB f.f2 = true → okFact_ f = true) : Ev (fun k => impl_StoreValid.f k L nx cp sg) (storeB L nx cp sg) := by
  refine Ev.congr (fun k => by unfold impl_StoreValid.f; exact rfl) ?_
  unfold storeB
  refine Ev.ite (fun c => ?_) (fun c => ?_)
  · rw [if_pos c]; exact Ev.now _
  rw [if_neg c]
  refine Ev.ite (fun c => ?_) (fun c => ?_)
  · rw [if_pos c]; exact Ev.now _
  rw [if_neg c]
  refine Ev.ite (fun c => ?_) (fun c => ?_)
  · rw [if_pos c]; exact Ev.now _
  rw [if_neg c]
  refine Ev.bind (implGoodFacts_some L hl) ?_
  refine Ev.ite (fun c => ?_) (fun c => ?_)
  · rw [if_pos c]
    obtain ⟨h40, hr⟩ := good_len L c
    have rise := factsFrom_rise L 0 hr
    refine Ev.ite (fun c => ?_) (fun c => ?_)
    · rw [if_pos c]; exact Ev.now _
    rw [if_neg c]
    refine Ev.ite (fun c => ?_) (fun c => ?_)
    · rw [if_pos c]; exact Ev.now _
    rw [if_neg c]
    have hrd : 0 < L.length → rd_T38 L ((L.length : Int) - 1) = L.getD (L.length - 1) z38 := by
      intro hp
      rw [show (L.length : Int) - 1 = ((L.length - 1 : Nat) : Int) by omega, rdF]
    refine Ev.ite (fun c => ?_) (fun c => ?_)
    · have : allFrom (factB L nx sg) L.length 0 = false := by
        rw [← Bool.not_eq_true, allFrom_iff]
        intro h
        have := h (L.length - 1) (by omega)
        unfold factB at this
        rw [Bool.and_eq_true, decide_eq_true_eq, ← hrd c.1] at this
        omega
      rw [this]
      exact Ev.now _
    · have tags : ∀ j, j < L.length → (L.getD j z38).f0 < nx := by
        intro j hj
        have h1 : ¬ nx ≤ (L.getD (L.length - 1) z38).f0 := fun h => c ⟨by omega, by rw [hrd (by omega)]; exact h⟩
        by_cases e : j = L.length - 1
        · subst e; omega
        · have := (rise (L.length - 1) (by omega)).2.2.2.2 j (by omega)
          omega
      have hall : L.all okFact_ = true := by
        rw [List.all_eq_true]
        intro f hf
        obtain ⟨j, hj, e⟩ := List.getElem_of_mem hf
        have := (rise j hj).2.2.2.1
        rw [getD_lt _ hj, e] at this
        exact hok f hf this
      refine Ev.ite (fun c2 => ?_) (fun c2 => ?_)
      · rw [c2]
        refine Ev.ifT ⟨h40, hall⟩ (Ev.as (Ev.now _) ?_)
        rw [Bool.eq_iff_iff, allFrom_iff]
        unfold noAlike
        rw [List.all_eq_true]
        constructor
        · intro h j hj
          unfold factB
          rw [Bool.and_eq_true, decide_eq_true_eq]
          refine ⟨tags j hj, (allFrom_iff _ _).2 fun i hi => ?_⟩
          have := List.all_eq_true.1 (h j (List.mem_range.2 hj)) i (List.mem_range.2 hi)
          rw [rdF, rdF] at this
          unfold clashB
          rw [Bool.true_and]
          exact this
        · intro h j hj
          have hj := List.mem_range.1 hj
          have := h j hj
          unfold factB at this
          rw [Bool.and_eq_true] at this
          rw [List.all_eq_true]
          intro i hi
          have := (allFrom_iff _ _).1 this.2 i (List.mem_range.1 hi)
          unfold clashB at this
          rw [Bool.true_and] at this
          rw [rdF, rdF]
          exact this
      · rw [Bool.not_eq_true] at c2
        rw [c2]
        refine Ev.as (Ev.now _) ?_
        symm
        rw [allFrom_iff]
        intro j hj
        unfold factB
        rw [Bool.and_eq_true, decide_eq_true_eq]
        refine ⟨tags j hj, (allFrom_iff _ _).2 fun i hi => ?_⟩
        unfold clashB
        simp
  · rw [if_neg c]; exact Ev.now _
def FnExactStoreValid.Pure : Prop := ∀ (a : S45), okStore a → ∃ k, laws_FnExactStoreValid.f k a.f0 a.f1 a.f2 a.f3 = some true
theorem wf_of (x : Int) (h : okInt x) : (Lit.int .i64 x).wf = true := by
  simp only [Lit.wf, Bool.and_eq_true, decide_eq_true_eq]
  exact h
theorem FnExactStoreValid : FnExactStoreValid.Pure := by
  intro a ha
  refine Ev.rounds ?_
  refine Ev.congr (fun k => by unfold laws_FnExactStoreValid.f; exact rfl) ?_
  have h1 := sz_Store a ha 1048576 (by omega) (by omega)
  refine Ev.bind h1 ?_
  by_cases c1 : (1048576 : Int) < tzStore a
  · rw [szv_neg c1]
    exact Ev.ifT (by omega) (Ev.now _)
  have d1 : (tzStore a : Int) ≤ 1048576 := by omega
  rw [szv_pos d1]
  refine Ev.ifF (by omega) ?_
  have hto := to_Store a (by omega)
  have dF : tzFactS a.f0 ≤ 1048576 := by unfold tzStore at d1; omega
  have hlen : (a.f0.map cvFact).length ≤ 1048576 := by rw [List.length_map]; unfold tzFactS at dF; omega
  have hin : ∀ f, f ∈ a.f0.map cvFact → f.f2.length ≤ 9223372036854775807 := by
    intro f hf
    obtain ⟨y, hy, rfl⟩ := List.mem_map.1 hf
    have h2 := ((ha.1).2 y hy).2.2.1
    show (y.f2.map cvValue).length ≤ _
    rw [List.length_map]
    exact h2
  have hok : ∀ f, f ∈ a.f0.map cvFact → goodSlotsB f.f2 = true → okFact_ f = true := by
    intro f hf hg
    obtain ⟨y, hy, rfl⟩ := List.mem_map.1 hf
    obtain ⟨o0, o1, o2⟩ := (ha.1).2 y hy
    unfold goodSlotsB at hg
    simp only [Bool.and_eq_true, decide_eq_true_eq] at hg
    unfold okFact_
    simp only [Bool.and_eq_true, decide_eq_true_eq, List.all_eq_true]
    refine ⟨wf_of _ o0, by unfold maxLen; exact o1, hg.1, fun v hv => ?_⟩
    obtain ⟨u, hu, rfl⟩ := List.mem_map.1 (show v ∈ y.f2.map cvValue from hv)
    obtain ⟨p0, p1, p2⟩ := o2.2 u hu
    unfold okVal
    simp only [Bool.and_eq_true, decide_eq_true_eq]
    exact ⟨wf_of _ p0, wf_of _ p1, by unfold maxLen; exact p2⟩
  have hsp := specStore_some (a.f0.map cvFact) a.f1 a.f2 a.f3 hin
  have him := implStore_some (a.f0.map cvFact) a.f1 a.f2 a.f3 (by omega) hok
  have heq := eq_Store (cvStore a) (le_cvStore a (by omega))
  dsimp only [cvStore] at heq
  refine Ev.bind hto ?_
  refine Ev.bind hsp ?_
  refine Ev.bind hto ?_
  refine Ev.bind him ?_
  refine Ev.ifF (by simp) ?_
  refine Ev.bind hto ?_
  refine Ev.bind heq ?_
  refine Ev.ifT (by trivial) ?_
  exact Ev.now _
end Go.Proofs.Ytoncacdehhmpaaa.Pure
namespace Go.Proofs.YtoncacdehhmpaaaX
open Go.RowKit Go.Proofs.YtoncacdehhmpaaaW.PrintWords
set_option linter.unusedVariables false
set_option linter.unusedSimpArgs false
def Rdb {α : Type} (P : Program) (W : World) (T : TypeId) (d : Kd α) (ok : α → Prop) : Prop :=
  ∀ (H : Type) (enc : TypeId × Value → H) (sp : Nat → Bool) (fuel : Nat) (cs : List Value) (r : DataW H × List MemPlace), DataW.trod enc P W 0 sp true fuel T cs = some r → ∃ x, d.K W x cs ∧ ok x
section
variable {P : Program} {W : World} {T : TypeId}
theorem rdb_bool (hu : P.underlying T = some .bool) : Rdb P W T Kd.bool (fun _ => True) := by
  intro H enc sp fuel cs r h
  obtain ⟨n, rfl, _⟩ := DataW.trod_bool hu h
  exact ⟨n, rfl, trivial⟩
theorem rdb_string (hu : P.underlying T = some .string) : Rdb P W T Kd.string (fun s => s.size ≤ 9223372036854775807) := by
  intro H enc sp fuel cs r h
  obtain ⟨s, rfl, _, hs⟩ := DataW.trod_string hu h
  exact ⟨s, rfl, by simpa [maxLen] using hs⟩
theorem list_choice {α : Type} (Q : Nat → α → Prop) : ∀ n, (∀ i, i < n → ∃ x, Q i x) → ∃ xs : List α, xs.length = n ∧ ∀ i x, xs[i]? = some x → Q i x
  | 0, _ => ⟨[], rfl, fun i x h => by simp at h⟩
  | n + 1, h => by
    obtain ⟨xs, hl, hx⟩ := list_choice Q n (fun i hi => h i (by omega))
    obtain ⟨y, hy⟩ := h n (by omega)
    refine ⟨xs ++ [y], by simp [hl], fun i x hi => ?_⟩
    rcases Nat.lt_or_ge i xs.length with c | c
    · rw [List.getElem?_append_left c] at hi
      exact hx i x hi
    · rw [List.getElem?_append_right c] at hi
      have e : i - xs.length = 0 := by
        rcases Nat.eq_zero_or_pos (i - xs.length) with e | e
        · exact e
        · rw [List.getElem?_eq_none (by simp; omega)] at hi; cases hi
      rw [e] at hi
      have : y = x := by simpa using hi
      rw [← this, show i = n by omega]
      exact hy
theorem add_plus (a : Addr) (m n : Nat) : (a.add m).add n = a.add (m + n) := by
  unfold Addr.add
  by_cases h1 : m = 0
  · subst h1; simp
  · by_cases h2 : n = 0
    · subst h2; simp
    · simp [h1, h2]; omega
theorem rdb_slice {α : Type} {d : Kd α} {ok : α → Prop} {e : TypeId} (hu : P.underlying T = some (.slice e)) (hc : P.cellsOf e = d.sz) (he : Rdb P W e d ok) :
    Rdb P W T (Kd.slice e d) (fun xs => xs.length ≤ 9223372036854775807 ∧ ∀ x, x ∈ xs → ok x) := by
  intro H enc sp fuel cs r h
  rcases DataW.trod_slice hu h with ⟨rfl, _⟩ | ⟨a, len, cap, elems, rest, n, _, rfl, _, _, hl, hcap, hel, hrd, _, _⟩
  · exact ⟨[], ⟨none, 0, rfl, Nat.le_refl _, rfl, by simp, fun h => absurd h (by simp)⟩, by simp, fun x hx => absurd hx (by simp)⟩
  · have hex : ∀ i, i < len → ∃ x, ∃ c, c.length = d.sz ∧ d.K W x c ∧ (∀ j u, c[j]? = some u → W.cell? (a.add (i * d.sz + j)) = some u) ∧ ok x := by
      intro i hi
      have h1 := hrd i hi
      rw [List.getElem?_eq_getElem (by omega)] at h1
      obtain ⟨c, h2, h3⟩ := Option.bind_eq_some_iff.1 h1
      obtain ⟨x, hx, hok⟩ := he H enc sp n c _ h3
      obtain ⟨_, h5, h6⟩ := World.cells?_some h2
      refine ⟨x, c, d.K_len hx, hx, fun j u hj => ?_, hok⟩
      have hlt : j < P.cellsOf e := by
        have := (List.getElem?_eq_some_iff.1 hj).1
        omega
      have h7 := h6 j hlt
      rw [hj, hc, add_plus] at h7
      exact h7
    obtain ⟨xs, hxl, hxs⟩ := list_choice _ len hex
    refine ⟨xs, ⟨some a, cap, by rw [hxl], by omega, rfl, by simp [maxLen] at hcap; omega, fun _ => ⟨a, rfl, fun j p hj => ?_⟩⟩, by simp [maxLen] at hcap; omega, fun x hx => ?_⟩
    · obtain ⟨c, h1, h2, h3, _⟩ := hxs j p hj
      exact ⟨c, h1, h2, h3⟩
    · obtain ⟨i, hi, e⟩ := List.getElem_of_mem hx
      obtain ⟨c, _, _, _, h4⟩ := hxs i x (by rw [List.getElem?_eq_getElem hi, e])
      exact h4
theorem rdb_i64 (hu : P.underlying T = some (.int .i64)) : Rdb P W T (Kd.int .i64) okInt := by
  intro H enc sp fuel cs r h
  obtain ⟨n, rfl, _, hw⟩ := DataW.trod_int hu h
  refine ⟨n, rfl, ?_⟩
  simp only [Lit.wf, Bool.and_eq_true, decide_eq_true_eq] at hw
  exact hw
theorem len_s {α : Type} {cs : List α} {n : Nat} (h : cs.length = n + 1) : ∃ a r, cs = a :: r ∧ r.length = n := by
  cases cs with
  | nil => cases h
  | cons a r => exact ⟨a, r, rfl, by simpa using h⟩
theorem len_z {α : Type} {cs : List α} (h : cs.length = 0) : cs = [] := List.length_eq_zero_iff.1 h
theorem okWide_st {w : World} {r : Reach} {base : Nat} {v : Value} {fs : Array Field} (ht : P.underlying T = some (.struct fs)) (h : Value.okWide P w r base T v) : ∃ cs, v = .agg cs := by
  simp only [Value.okWide, ht] at h
  obtain ⟨cs, hcs, _⟩ := h
  exact ⟨cs, hcs⟩
end
end Go.Proofs.YtoncacdehhmpaaaX
