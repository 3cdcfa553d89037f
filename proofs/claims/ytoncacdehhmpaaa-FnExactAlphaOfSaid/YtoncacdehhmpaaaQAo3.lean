/- The row of the law FnExactAlphaOf: for every input the call returns true, and each argument reads behind it as it read before; no condition of ours. -/
import Derived.Test.YtoncacdehhmpaaaProg
import Derived.Maps.OwnSet
import Derived.Maps.Views
import Derived.WalkKit
import Derived.Test.YtoncacdehhmpaaaQAo2
namespace Go.Proofs.Ytoncacdehhmpaaa.P
open Go.RowKit Go.Proofs.YtoncacdehhmpaaaW.PrintWords Go.Proofs.YtoncacdehhmpaaaW.PrintLast Go.Proofs.YtoncacdehhmpaaaW.PrintMore
attribute [local go_sem] max2_int min2_int max_two min_two max_three min_three max_four min_four
set_option linter.unusedVariables false
set_option linter.unusedSimpArgs false
def laws_toValue.f (a0_0 : Int) (a0_1 : Int) (a0_2 : ByteArray) : Option (Int × Int × ByteArray) := some (a0_0, a0_1, a0_2)
set_option maxHeartbeats 8000000 in
set_option maxRecDepth 100000 in
theorem laws_toValue.calls (a0_0 : Int) (a0_1 : Int) (a0_2 : ByteArray) (r1 : Int) (r2 : Int) (r3 : ByteArray) (w : World) (h : laws_toValue.f a0_0 a0_1 a0_2 = some (r1, r2, r3)) :
    Calls Try.prog 103 #[.agg #[.int .i64 a0_0, .int .i64 a0_1, .string a0_2]] w fun e w' => e = .returned (.agg #[.int .i64 r1, .int .i64 r2, .string r3]) ∧ Below w.heap.size w w' := by
  have hu158 := Try.underlying158
  have hu104 := Try.underlying104
  have HB := Aside0.mk (Below.refl w.heap.size w)
  have H : (some (a0_0, a0_1, a0_2)) = some (r1, r2, r3) := h
  clear h
  simp only [Option.some.injEq, Prod.mk.injEq] at H
  obtain ⟨rfl, rfl, rfl⟩ := H
  go_enter Try.func103, Try.ntmps103
  go_wp2_with (first | ((with_reducible refine gate_dst (N := 1) rfl ?_); refine box_event ?hg (N := 1) ?hd (cs := #[.int .i64 a0_0, .int .i64 a0_1, .string a0_2]) (t := 158) ?hr ?_; (case hd => rfl); (case hg => rfl); (case hr => first | (go_simp; done) | (go_simp; rfl)); intro gb124 hg w2 hbox hb; have n0_ := Aside0.mk (below_step (by repeat (first | (with_reducible first | exact HB.out | apply below_alloc | apply pw_below_drewN | apply below_drew1) | exact HB.out)) hb); have n1_ := Aside0.mk (hbox); have n2_ := Aside0.mk ((by rw [hg]; exact (below_size (by repeat (first | (with_reducible first | exact HB.out | apply below_alloc | apply pw_below_drewN | apply below_drew1) | exact HB.out))) : w.heap.size ≤ gb124)); have n3_ := Aside0.mk ((by rw [hg]; exact (below_size (by repeat (first | (with_reducible first | exact HB.out | apply below_alloc | apply pw_below_drewN | apply below_drew1) | exact HB.out))) : w.heap.size ≤ gb124)); clear HB; have HB := n0_; have BK124 := n1_; have GW124 := n2_; have GE124 := n3_; clear n0_ n1_ n2_ n3_; clear hb hbox hg) | ((with_reducible refine gate_dst (N := 2) rfl ?_); refine box_event ?hg (N := 2) ?hd (cs := #[.int .i64 0, .int .i64 0, .string (⟨#[]⟩ : ByteArray)]) (t := 104) ?hr ?_; (case hd => rfl); (case hg => rfl); (case hr => first | (go_simp; done) | (go_simp; rfl)); intro gb125 hg w3 hbox hb; have n0_ := Aside0.mk (blk_below (g := gb124) (o := .cells #[.int .i64 a0_0, .int .i64 a0_1, .string a0_2] 158 (0, 0)) (by (with_reducible repeat (first | refine blk_drewN ?_ _ | refine blk_drew ?_ | refine blk_alloc ?_ _)); exact BK124.out) hb); have n1_ := Aside0.mk (below_step (by repeat (first | (with_reducible first | exact HB.out | apply below_alloc | apply pw_below_drewN | apply below_drew1 | refine below_set ?_ GE124.out) | exact HB.out)) hb); have n2_ := Aside0.mk (hbox); have n3_ := Aside0.mk ((by rw [hg]; exact (below_size (by repeat (first | (with_reducible first | exact HB.out | apply below_alloc | apply pw_below_drewN | apply below_drew1 | refine below_set ?_ GE124.out) | exact HB.out))) : w.heap.size ≤ gb125)); have n4_ := Aside0.mk ((by rw [hg]; exact (below_size (by repeat (first | (with_reducible first | exact HB.out | apply below_alloc | apply pw_below_drewN | apply below_drew1 | refine below_set ?_ GE124.out) | exact HB.out))) : w.heap.size ≤ gb125)); have n5_ := Aside0.mk ((by rw [hg]; exact Nat.ne_of_lt (blk_lt (g := gb124) (o := .cells #[.int .i64 a0_0, .int .i64 a0_1, .string a0_2] 158 (0, 0)) (by (with_reducible repeat (first | refine blk_drewN ?_ _ | refine blk_drew ?_ | refine blk_alloc ?_ _)); exact BK124.out)) : gb124 ≠ gb125)); have n6_ := Aside0.mk ((by rw [hg]; exact Nat.ne_of_gt (blk_lt (g := gb124) (o := .cells #[.int .i64 a0_0, .int .i64 a0_1, .string a0_2] 158 (0, 0)) (by (with_reducible repeat (first | refine blk_drewN ?_ _ | refine blk_drew ?_ | refine blk_alloc ?_ _)); exact BK124.out)) : gb125 ≠ gb124)); clear BK124; clear HB; have BK124 := n0_; have HB := n1_; have BK125 := n2_; have GW125 := n3_; have GE125 := n4_; have NB124_125 := n5_; have NB125_124 := n6_; clear n0_ n1_ n2_ n3_ n4_ n5_ n6_; clear hb hbox hg) | ((with_reducible refine gate_dst (N := 3) rfl ?_); refine box_event ?hg (N := 3) ?hd (cs := #[.int .i64 0, .int .i64 0, .string (⟨#[]⟩ : ByteArray)]) (t := 104) ?hr ?_; (case hd => rfl); (case hg => rfl); (case hr => first | (go_simp; done) | (go_simp; rfl)); intro gb126 hg w4 hbox hb; have n0_ := Aside0.mk (blk_below (g := gb124) (o := .cells #[.int .i64 a0_0, .int .i64 a0_1, .string a0_2] 158 (0, 0)) (by (with_reducible repeat (first | refine blk_drewN ?_ _ | refine blk_drew ?_ | refine blk_alloc ?_ _)); exact BK124.out) hb); have n1_ := Aside0.mk (blk_below (g := gb125) (o := .cells #[.int .i64 0, .int .i64 0, .string (⟨#[]⟩ : ByteArray)] 104 (0, 0)) (by (with_reducible repeat (first | refine blk_drewN ?_ _ | refine blk_drew ?_ | refine blk_alloc ?_ _)); exact BK125.out) hb); have n2_ := Aside0.mk (below_step (by repeat (first | (with_reducible first | exact HB.out | apply below_alloc | apply pw_below_drewN | apply below_drew1 | refine below_set ?_ GE124.out | refine below_set ?_ GE125.out) | exact HB.out)) hb); have n3_ := Aside0.mk (hbox); have n4_ := Aside0.mk ((by rw [hg]; exact (below_size (by repeat (first | (with_reducible first | exact HB.out | apply below_alloc | apply pw_below_drewN | apply below_drew1 | refine below_set ?_ GE124.out | refine below_set ?_ GE125.out) | exact HB.out))) : w.heap.size ≤ gb126)); have n5_ := Aside0.mk ((by rw [hg]; exact (below_size (by repeat (first | (with_reducible first | exact HB.out | apply below_alloc | apply pw_below_drewN | apply below_drew1 | refine below_set ?_ GE124.out | refine below_set ?_ GE125.out) | exact HB.out))) : w.heap.size ≤ gb126)); have n6_ := Aside0.mk ((by rw [hg]; exact Nat.ne_of_lt (blk_lt (g := gb124) (o := .cells #[.int .i64 a0_0, .int .i64 a0_1, .string a0_2] 158 (0, 0)) (by (with_reducible repeat (first | refine blk_drewN ?_ _ | refine blk_drew ?_ | refine blk_alloc ?_ _)); exact BK124.out)) : gb124 ≠ gb126)); have n7_ := Aside0.mk ((by rw [hg]; exact Nat.ne_of_gt (blk_lt (g := gb124) (o := .cells #[.int .i64 a0_0, .int .i64 a0_1, .string a0_2] 158 (0, 0)) (by (with_reducible repeat (first | refine blk_drewN ?_ _ | refine blk_drew ?_ | refine blk_alloc ?_ _)); exact BK124.out)) : gb126 ≠ gb124)); have n8_ := Aside0.mk ((by rw [hg]; exact Nat.ne_of_lt (blk_lt (g := gb125) (o := .cells #[.int .i64 0, .int .i64 0, .string (⟨#[]⟩ : ByteArray)] 104 (0, 0)) (by (with_reducible repeat (first | refine blk_drewN ?_ _ | refine blk_drew ?_ | refine blk_alloc ?_ _)); exact BK125.out)) : gb125 ≠ gb126)); have n9_ := Aside0.mk ((by rw [hg]; exact Nat.ne_of_gt (blk_lt (g := gb125) (o := .cells #[.int .i64 0, .int .i64 0, .string (⟨#[]⟩ : ByteArray)] 104 (0, 0)) (by (with_reducible repeat (first | refine blk_drewN ?_ _ | refine blk_drew ?_ | refine blk_alloc ?_ _)); exact BK125.out)) : gb126 ≠ gb125)); clear BK124; clear BK125; clear HB; have BK124 := n0_; have BK125 := n1_; have HB := n2_; have BK126 := n3_; have GW126 := n4_; have GE126 := n5_; have NB124_126 := n6_; have NB126_124 := n7_; have NB125_126 := n8_; have NB126_125 := n9_; clear n0_ n1_ n2_ n3_ n4_ n5_ n6_ n7_ n8_ n9_; clear hb hbox hg; have hnb5 := NB124_125.out; have hnc5 := NB125_124.out; have hnb6 := NB124_126.out; have hnc6 := NB126_124.out; have hcz7_0 : w4.cell? ⟨gb124, 0, none⟩ = some (.int .i64 a0_0) := (blk_cell BK124.out 0).trans rfl; have hcz7_1 : w4.cell? ⟨gb124, 1, none⟩ = some (.int .i64 a0_1) := (blk_cell BK124.out 1).trans rfl; have hcz7_2 : w4.cell? ⟨gb124, 2, none⟩ = some (.string a0_2) := (blk_cell BK124.out 2).trans rfl; have hfz7_0 := blk_frozen BK124.out 0; have hfz7_1 := blk_frozen BK124.out 1; have hfz7_2 := blk_frozen BK124.out 2; have hnb8 := NB126_125.out; have hnc8 := NB125_126.out; have hcz9_0 : w4.cell? ⟨gb126, 0, none⟩ = some (.int .i64 0) := (blk_cell BK126.out 0).trans rfl; have hcz9_1 : w4.cell? ⟨gb126, 1, none⟩ = some (.int .i64 0) := (blk_cell BK126.out 1).trans rfl; have hcz9_2 : w4.cell? ⟨gb126, 2, none⟩ = some (.string (⟨#[]⟩ : ByteArray)) := (blk_cell BK126.out 2).trans rfl; have hfz9_0 := blk_frozen BK126.out 0; have hfz9_1 := blk_frozen BK126.out 1; have hfz9_2 := blk_frozen BK126.out 2; have hcz10_0 : w4.cell? ⟨gb125, 0, none⟩ = some (.int .i64 0) := (blk_cell BK125.out 0).trans rfl; have hcz10_1 : w4.cell? ⟨gb125, 1, none⟩ = some (.int .i64 0) := (blk_cell BK125.out 1).trans rfl; have hcz10_2 : w4.cell? ⟨gb125, 2, none⟩ = some (.string (⟨#[]⟩ : ByteArray)) := (blk_cell BK125.out 2).trans rfl; have hfz10_0 := blk_frozen BK125.out 0; have hfz10_1 := blk_frozen BK125.out 1; have hfz10_2 := blk_frozen BK125.out 2))
  refine bodyPost_ret (results_cell_row rfl _ _ gb125 104 #[.int .i64 a0_0, .int .i64 a0_1, .string a0_2] (0, 0) _ rfl (by (with_reducible repeat (first | refine blk_drewN ?_ _ | refine blk_drew ?_ | refine blk_alloc ?_ _)); refine blk_put (cs := #[.int .i64 a0_0, .int .i64 a0_1, .string (⟨#[]⟩ : ByteArray)]) ?_ 2 _ rfl; (with_reducible repeat (first | refine blk_drewN ?_ _ | refine blk_drew ?_ | refine blk_alloc ?_ _)); refine blk_put (cs := #[.int .i64 a0_0, .int .i64 0, .string (⟨#[]⟩ : ByteArray)]) ?_ 1 _ rfl; (with_reducible repeat (first | refine blk_drewN ?_ _ | refine blk_drew ?_ | refine blk_alloc ?_ _)); refine blk_put (cs := #[.int .i64 0, .int .i64 0, .string (⟨#[]⟩ : ByteArray)]) ?_ 0 _ rfl; (with_reducible repeat (first | refine blk_drewN ?_ _ | refine blk_drew ?_ | refine blk_alloc ?_ _)); refine blk_far ?_ NB125_126.out _; (with_reducible repeat (first | refine blk_drewN ?_ _ | refine blk_drew ?_ | refine blk_alloc ?_ _)); refine blk_far ?_ NB125_126.out _; (with_reducible repeat (first | refine blk_drewN ?_ _ | refine blk_drew ?_ | refine blk_alloc ?_ _)); refine blk_far ?_ NB125_126.out _; (with_reducible repeat (first | refine blk_drewN ?_ _ | refine blk_drew ?_ | refine blk_alloc ?_ _)); exact BK125.out) Try.underlying104 rfl (by kernel_rfl)) rfl ?_
  exact ⟨by first | rfl | (simp [errW_none, errW_some] <;> rfl) | (simp [*, errW_none, errW_some] <;> rfl), by repeat (first | (with_reducible first | exact HB.out | apply below_alloc | apply pw_below_drewN | apply below_drew1 | refine below_set ?_ GE124.out | refine below_set ?_ GE125.out | refine below_set ?_ GE126.out) | exact HB.out)⟩
def laws_toAlphaTest.f (a0_0 : Int) (a0_1 : Int) (a0_2 : Int) (a0_3 : Int) (a0_4 : Int) (a0_5 : ByteArray) : Option (Int × Int × Int × Int × Int × ByteArray) := (laws_toValue.f a0_3 a0_4 a0_5).bind fun bt130 => (some (a0_0, a0_1, a0_2, bt130.1, bt130.2.1, bt130.2.2))
def laws_toAlphaTestS.l0 : Nat → List (S160) → List (S106) → Int → Option ((List (S106)))
  | 0, _, _, _ => none
  | k + 1, x0, x3, x4 => if x4 < (x0.length : Int) then (if 0 ≤ x4 then ((laws_toAlphaTest.f ((rd_T160 x0 x4).f0) ((rd_T160 x0 x4).f1) ((rd_T160 x0 x4).f2) ((rd_T160 x0 x4).f3.f0) ((rd_T160 x0 x4).f3.f1) ((rd_T160 x0 x4).f3.f2)).bind fun bt137 => (if x4 < (x3.length : Int) then (laws_toAlphaTestS.l0 k x0 (x3.set (x4 : Int).toNat (⟨bt137.1, bt137.2.1, bt137.2.2.1, (⟨bt137.2.2.2.1, bt137.2.2.2.2.1, bt137.2.2.2.2.2⟩ : S104)⟩ : S106)) (wrap64 (x4 + 1))) else (none))) else (none)) else (some x3)
def laws_toAlphaTestS.f (k : Nat) (l0 : List (S160)) : Option ((List (S106))) := if 0 ≤ (l0.length : Int) then (if ((l0.length : Int) : Int).toNat ≤ 5026338869833 then (laws_toAlphaTestS.l0 k l0 (List.replicate ((l0.length : Int) : Int).toNat z106) 0) else (none)) else (none)
theorem laws_toAlphaTestS.mono_l : ∀ k, (∀ y0 y1 y2, LeO (laws_toAlphaTestS.l0 k y0 y1 y2) (laws_toAlphaTestS.l0 (k + 1) y0 y1 y2))
  | 0 => fun _ _ _ r h => by simp [laws_toAlphaTestS.l0] at h
  | k + 1 => by
    have ih0 := laws_toAlphaTestS.mono_l k
    · intro y0 y1 y2
      unfold laws_toAlphaTestS.l0
      repeat' first
      | (with_reducible exact ih0 _ _ _)
      | (with_reducible exact LeO.refl _)
      | (with_reducible exact LeO.none _)
      | (with_reducible refine LeO.ite ?_ ?_)
      | (with_reducible refine LeO.bind ?_ (fun _ => ?_))
      | exact ih0 _ _ _
      | exact LeO.none _
      | refine LeO.ite ?_ ?_
      | refine LeO.bind ?_ (fun _ => ?_)
theorem laws_toAlphaTestS.mono : ∀ a0 k, LeO (laws_toAlphaTestS.f k a0) (laws_toAlphaTestS.f (k + 1) a0) := by
  intro a0 k
  have ih0 := laws_toAlphaTestS.mono_l k
  unfold laws_toAlphaTestS.f
  repeat' first
      | (with_reducible exact ih0 _ _ _)
      | (with_reducible exact LeO.refl _)
      | (with_reducible exact LeO.none _)
      | (with_reducible refine LeO.ite ?_ ?_)
      | (with_reducible refine LeO.bind ?_ (fun _ => ?_))
      | exact ih0 _ _ _
      | exact LeO.none _
      | refine LeO.ite ?_ ?_
      | refine LeO.bind ?_ (fun _ => ?_)
def laws_toAlpha.f (k : Nat) (a0_0 : ByteArray) (a0_1 : Int) (l0_2 : List (S160)) : Option (ByteArray × Int × (List (S106))) := (laws_toAlphaTestS.f k l0_2).bind fun t147 => (some (a0_0, a0_1, t147))
theorem laws_toAlpha.mono : ∀ a0 a1 a2 k, LeO (laws_toAlpha.f k a0 a1 a2) (laws_toAlpha.f (k + 1) a0 a1 a2) := by
  intro a0 a1 a2 k
  unfold laws_toAlpha.f
  repeat' first
      | (with_reducible exact laws_toAlphaTestS.mono _ _)
      | (with_reducible exact LeO.refl _)
      | (with_reducible exact LeO.none _)
      | (with_reducible refine LeO.ite ?_ ?_)
      | (with_reducible refine LeO.bind ?_ (fun _ => ?_))
      | exact laws_toAlphaTestS.mono _ _
      | exact LeO.none _
      | refine LeO.ite ?_ ?_
      | refine LeO.bind ?_ (fun _ => ?_)
def laws_toValueS.l0 : Nat → List (S158) → List (S104) → Int → Option ((List (S104)))
  | 0, _, _, _ => none
  | k + 1, x0, x3, x4 => if x4 < (x0.length : Int) then (if 0 ≤ x4 then ((laws_toValue.f ((rd_T158 x0 x4).f0) ((rd_T158 x0 x4).f1) ((rd_T158 x0 x4).f2)).bind fun bt154 => (if x4 < (x3.length : Int) then (laws_toValueS.l0 k x0 (x3.set (x4 : Int).toNat (⟨bt154.1, bt154.2.1, bt154.2.2⟩ : S104)) (wrap64 (x4 + 1))) else (none))) else (none)) else (some x3)
def laws_toValueS.f (k : Nat) (l0 : List (S158)) : Option ((List (S104))) := if 0 ≤ (l0.length : Int) then (if ((l0.length : Int) : Int).toNat ≤ 8796093022208 then (laws_toValueS.l0 k l0 (List.replicate ((l0.length : Int) : Int).toNat z104) 0) else (none)) else (none)
theorem laws_toValueS.mono_l : ∀ k, (∀ y0 y1 y2, LeO (laws_toValueS.l0 k y0 y1 y2) (laws_toValueS.l0 (k + 1) y0 y1 y2))
  | 0 => fun _ _ _ r h => by simp [laws_toValueS.l0] at h
  | k + 1 => by
    have ih0 := laws_toValueS.mono_l k
    · intro y0 y1 y2
      unfold laws_toValueS.l0
      repeat' first
      | (with_reducible exact ih0 _ _ _)
      | (with_reducible exact LeO.refl _)
      | (with_reducible exact LeO.none _)
      | (with_reducible refine LeO.ite ?_ ?_)
      | (with_reducible refine LeO.bind ?_ (fun _ => ?_))
      | exact ih0 _ _ _
      | exact LeO.none _
      | refine LeO.ite ?_ ?_
      | refine LeO.bind ?_ (fun _ => ?_)
theorem laws_toValueS.mono : ∀ a0 k, LeO (laws_toValueS.f k a0) (laws_toValueS.f (k + 1) a0) := by
  intro a0 k
  have ih0 := laws_toValueS.mono_l k
  unfold laws_toValueS.f
  repeat' first
      | (with_reducible exact ih0 _ _ _)
      | (with_reducible exact LeO.refl _)
      | (with_reducible exact LeO.none _)
      | (with_reducible refine LeO.ite ?_ ?_)
      | (with_reducible refine LeO.bind ?_ (fun _ => ?_))
      | exact ih0 _ _ _
      | exact LeO.none _
      | refine LeO.ite ?_ ?_
      | refine LeO.bind ?_ (fun _ => ?_)
def laws_toFact.f (k : Nat) (a0_0 : Int) (a0_1 : ByteArray) (l0_2 : List (S158)) : Option (Int × ByteArray × (List (S104))) := (laws_toValueS.f k l0_2).bind fun t161 => (some (a0_0, a0_1, t161))
theorem laws_toFact.mono : ∀ a0 a1 a2 k, LeO (laws_toFact.f k a0 a1 a2) (laws_toFact.f (k + 1) a0 a1 a2) := by
  intro a0 a1 a2 k
  unfold laws_toFact.f
  repeat' first
      | (with_reducible exact laws_toValueS.mono _ _)
      | (with_reducible exact LeO.refl _)
      | (with_reducible exact LeO.none _)
      | (with_reducible refine LeO.ite ?_ ?_)
      | (with_reducible refine LeO.bind ?_ (fun _ => ?_))
      | exact laws_toValueS.mono _ _
      | exact LeO.none _
      | refine LeO.ite ?_ ?_
      | refine LeO.bind ?_ (fun _ => ?_)
end Go.Proofs.Ytoncacdehhmpaaa.P
namespace Go.Proofs.Ytoncacdehhmpaaa.P
open Go.RowKit Go.Proofs.YtoncacdehhmpaaaW.PrintWords Go.Proofs.YtoncacdehhmpaaaW.PrintLast Go.Proofs.YtoncacdehhmpaaaW.PrintMore
attribute [local go_sem] max2_int min2_int max_two min_two max_three min_three max_four min_four
set_option linter.unusedVariables false
set_option linter.unusedSimpArgs false
mutual
def spec_l2GoodPat.j0 : Nat → Bool → Bool → ByteArray → List (S120) → Option (Bool)
  | 0, _, _, _, _ => none
  | k + 1, x14, x316000, x316001, x316002 => if x14 = true then (some false) else (spec_l2GoodPat.l0 k x316002 (x316002.length : Int) 0)
def spec_l2GoodPat.l0 : Nat → List (S120) → Int → Int → Option (Bool)
  | 0, _, _, _ => none
  | k + 1, x16, x17, x18 => if x18 < x17 then (if 0 ≤ x18 then (if x18 < (x16.length : Int) then ((spec_l2GoodTerm.f k ((rd_T120 x16 x18).f0) ((rd_T120 x16 x18).f1) ((rd_T120 x16 x18).f2) ((rd_T120 x16 x18).f3.f0) ((rd_T120 x16 x18).f3.f1) ((rd_T120 x16 x18).f3.f2)).bind fun t319 => (if t319 = true then (spec_l2GoodPat.l0 k x16 x17 (wrap64 (x18 + 1))) else (some false))) else (none)) else (none)) else (some true)
end
def spec_l2GoodPat.f (k : Nat) (a0_0 : Bool) (a0_1 : ByteArray) (l0_2 : List (S120)) : Option (Bool) := (spec_l2GoodCls.f k a0_1).bind fun t316 => (if t316 = true then (spec_l2GoodPat.j0 k (decide ((l0_2.length : Int) > 6)) a0_0 a0_1 l0_2) else (spec_l2GoodPat.j0 k true a0_0 a0_1 l0_2))
theorem spec_l2GoodPat.mono_l : ∀ k, (∀ y0 y1 y2 y3, LeO (spec_l2GoodPat.j0 k y0 y1 y2 y3) (spec_l2GoodPat.j0 (k + 1) y0 y1 y2 y3)) ∧ (∀ y0 y1 y2, LeO (spec_l2GoodPat.l0 k y0 y1 y2) (spec_l2GoodPat.l0 (k + 1) y0 y1 y2))
  | 0 => ⟨fun _ _ _ _ r h => by simp [spec_l2GoodPat.j0] at h, fun _ _ _ r h => by simp [spec_l2GoodPat.l0] at h⟩
  | k + 1 => by
    obtain ⟨ih0, ih1⟩ := spec_l2GoodPat.mono_l k
    refine ⟨?_, ?_⟩
    · intro y0 y1 y2 y3
      unfold spec_l2GoodPat.j0
      repeat' first
      | (with_reducible exact ih0 _ _ _ _)
      | (with_reducible exact ih1 _ _ _)
      | (with_reducible exact spec_l2GoodCls.mono _ _)
      | (with_reducible exact spec_l2GoodTerm.mono _ _ _ _ _ _ _)
      | (with_reducible exact LeO.refl _)
      | (with_reducible exact LeO.none _)
      | (with_reducible refine LeO.ite ?_ ?_)
      | (with_reducible refine LeO.bind ?_ (fun _ => ?_))
      | exact ih0 _ _ _ _
      | exact ih1 _ _ _
      | exact spec_l2GoodCls.mono _ _
      | exact spec_l2GoodTerm.mono _ _ _ _ _ _ _
      | exact LeO.none _
      | refine LeO.ite ?_ ?_
      | refine LeO.bind ?_ (fun _ => ?_)
    · intro y0 y1 y2
      unfold spec_l2GoodPat.l0
      repeat' first
      | (with_reducible exact ih0 _ _ _ _)
      | (with_reducible exact ih1 _ _ _)
      | (with_reducible exact spec_l2GoodCls.mono _ _)
      | (with_reducible exact spec_l2GoodTerm.mono _ _ _ _ _ _ _)
      | (with_reducible exact LeO.refl _)
      | (with_reducible exact LeO.none _)
      | (with_reducible refine LeO.ite ?_ ?_)
      | (with_reducible refine LeO.bind ?_ (fun _ => ?_))
      | exact ih0 _ _ _ _
      | exact ih1 _ _ _
      | exact spec_l2GoodCls.mono _ _
      | exact spec_l2GoodTerm.mono _ _ _ _ _ _ _
      | exact LeO.none _
      | refine LeO.ite ?_ ?_
      | refine LeO.bind ?_ (fun _ => ?_)
theorem spec_l2GoodPat.mono : ∀ a0 a1 a2 k, LeO (spec_l2GoodPat.f k a0 a1 a2) (spec_l2GoodPat.f (k + 1) a0 a1 a2) := by
  intro a0 a1 a2 k
  obtain ⟨ih0, ih1⟩ := spec_l2GoodPat.mono_l k
  unfold spec_l2GoodPat.f
  repeat' first
      | (with_reducible exact ih0 _ _ _ _)
      | (with_reducible exact ih1 _ _ _)
      | (with_reducible exact spec_l2GoodCls.mono _ _)
      | (with_reducible exact spec_l2GoodTerm.mono _ _ _ _ _ _ _)
      | (with_reducible exact LeO.refl _)
      | (with_reducible exact LeO.none _)
      | (with_reducible refine LeO.ite ?_ ?_)
      | (with_reducible refine LeO.bind ?_ (fun _ => ?_))
      | exact ih0 _ _ _ _
      | exact ih1 _ _ _
      | exact spec_l2GoodCls.mono _ _
      | exact spec_l2GoodTerm.mono _ _ _ _ _ _ _
      | exact LeO.none _
      | refine LeO.ite ?_ ?_
      | refine LeO.bind ?_ (fun _ => ?_)
set_option maxHeartbeats 8000000 in
set_option maxRecDepth 100000 in
theorem spec_l2GoodPat.calls (k : Nat) (a0_0 : Bool) (a0_1 : ByteArray) (A0_2 : Option Addr) (c0_2 : Nat) (l0_2 : List (S120)) (r : Bool) (w : World) (hr0_2 : Kd.C k120 w A0_2 l0_2.length l0_2) (hc0_2 : l0_2.length ≤ c0_2) (h : spec_l2GoodPat.f k a0_0 a0_1 l0_2 = some r) :
    Calls Try.prog 71 #[.agg #[.bool a0_0, .string a0_1, .slice A0_2 l0_2.length c0_2]] w fun e w' => e = .returned (.bool r) ∧ Below w.heap.size w w' := by
  have hu61 := Try.underlying61
  have hu120 := Try.underlying120
  have HR0_2 := Aside0.mk hr0_2
  have HC0_2 := Aside0.mk hc0_2
  clear hr0_2 hc0_2
  have HB := Aside0.mk (Below.refl w.heap.size w)
  have H : ((spec_l2GoodCls.f k a0_1).bind fun t316 => (if t316 = true then (spec_l2GoodPat.j0 k (decide ((l0_2.length : Int) > 6)) a0_0 a0_1 l0_2) else (spec_l2GoodPat.j0 k true a0_0 a0_1 l0_2))) = some r := h
  clear h
  have HC2 := Aside0.mk H
  clear H
  go_enter Try.func71, Try.ntmps71
  go_upto_region 1 with (first | ((with_reducible refine gate_dst (N := 1) rfl ?_); (try (refine gate_guard (by rfl) ?_; dsimp only)); refine box_event ?hg (N := 1) ?hd (cs := #[.bool a0_0, .string a0_1, .slice A0_2 l0_2.length c0_2]) (t := 61) ?hr ?_; (case hd => rfl); (case hg => rfl); (case hr => first | (go_simp; done) | (go_simp; rfl)); intro gb315 hg w3 hbox hb; have n0_ := Aside0.mk (below_step (by repeat (first | (with_reducible first | exact HB.out | apply below_alloc | apply pw_below_drewN | apply below_drew1) | exact HB.out)) hb); have n1_ := Aside0.mk (hbox); have n2_ := Aside0.mk ((by rw [hg]; exact (below_size (by repeat (first | (with_reducible first | exact HB.out | apply below_alloc | apply pw_below_drewN | apply below_drew1) | exact HB.out))) : w.heap.size ≤ gb315)); have n3_ := Aside0.mk ((by rw [hg]; exact (below_size (by repeat (first | (with_reducible first | exact HB.out | apply below_alloc | apply pw_below_drewN | apply below_drew1) | exact HB.out))) : w.heap.size ≤ gb315)); clear HB; have HB := n0_; have BK315 := n1_; have GW315 := n2_; have GE315 := n3_; clear n0_ n1_ n2_ n3_; clear hb hbox hg))
  (try simp only [Act.put, List.setIfInBounds_toArray, List.set_cons_zero, List.set_cons_succ])
  go_cut [14] (fun v14 wc => ∃ (kq : Nat) (x14_1 : Bool), v14 = .bool x14_1 ∧ Aside0 (spec_l2GoodPat.j0 kq x14_1 a0_0 a0_1 l0_2 = some r) ∧ Aside0 (kq ≤ k) ∧ Aside0 (wc.heap[gb315]? = some (.cells #[.bool a0_0, .string a0_1, (.slice A0_2 l0_2.length c0_2)] 61 (0, 0))) ∧ Aside0 (Below w.heap.size w wc))
  case first =>
    have H := HC2.out
    clear HC2
    replace H := Option.bind_eq_some_iff.mp H
    obtain ⟨t316, A40, H⟩ := H
    replace H : (if t316 = true then (spec_l2GoodPat.j0 k (decide ((l0_2.length : Int) > 6)) a0_0 a0_1 l0_2) else (spec_l2GoodPat.j0 k true a0_0 a0_1 l0_2)) = some r := H
    have A4 := Aside0.mk A40
    clear A40
    by_cases c5 : t316 = true
    · subst c5
      have H1 : (spec_l2GoodPat.j0 k (decide ((l0_2.length : Int) > 6)) a0_0 a0_1 l0_2) = some r := by first | (rw [if_pos rfl] at H; exact H) | rfl
      clear H
      have H := H1
      clear H1
      have H' := Aside0.mk H
      clear H
      have hcz6_0 : w3.cell? ⟨gb315, 0, none⟩ = some (.bool a0_0) := (blk_cell BK315.out 0).trans rfl
      have hcz6_1 : w3.cell? ⟨gb315, 1, none⟩ = some (.string a0_1) := (blk_cell BK315.out 1).trans rfl
      have hcz6_2 : w3.cell? ⟨gb315, 2, none⟩ = some (.slice A0_2 l0_2.length c0_2) := (blk_cell BK315.out 2).trans rfl
      have hfz6_0 := blk_frozen BK315.out 0
      have hfz6_1 := blk_frozen BK315.out 1
      have hfz6_2 := blk_frozen BK315.out 2
      go_wp2_with (first | ((with_reducible refine gate_callee (f := 113) rfl ?_); refine goesL_ (some 7) rfl rfl Try.func113 (by kernel_rfl) rfl #[.string a0_1] rfl (by (try simp only [List.map_toArray, List.map_cons, List.map_nil]); first | done | rfl | (simp only [List.length_drop, List.length_take]; rfl)) ?_; (with_reducible refine (spec_l2GoodCls.calls k a0_1 true _ A4.out).mono ?_); rintro e w' ⟨rfl, ⟨nd, rfl⟩⟩; refine ⟨_, rfl, ?_⟩))
      go_meet
      case rel => exact ⟨_, (decide ((l0_2.length : Int) > 6)), (by first | rfl | (simp; done) | (simp [*]; done)), H', ⟨by first | omega | exact Nat.le_refl _⟩, ⟨by (with_reducible repeat (first | refine blk_drewN ?_ _ | refine blk_drew ?_ | refine blk_alloc ?_ _)); exact BK315.out⟩, ⟨by repeat (first | (with_reducible first | exact HB.out | apply below_alloc | apply pw_below_drewN | apply below_drew1 | refine below_set ?_ GE315.out) | exact HB.out)⟩⟩
    · replace c5 := Bool.eq_false_iff.mpr c5
      subst c5
      have H1 : (spec_l2GoodPat.j0 k true a0_0 a0_1 l0_2) = some r := by first | (rw [if_neg (show ¬ (false = true) by decide)] at H; exact H) | rfl
      clear H
      have H := H1
      clear H1
      have H' := Aside0.mk H
      clear H
      have hcz7_0 : w3.cell? ⟨gb315, 0, none⟩ = some (.bool a0_0) := (blk_cell BK315.out 0).trans rfl
      have hcz7_1 : w3.cell? ⟨gb315, 1, none⟩ = some (.string a0_1) := (blk_cell BK315.out 1).trans rfl
      have hcz7_2 : w3.cell? ⟨gb315, 2, none⟩ = some (.slice A0_2 l0_2.length c0_2) := (blk_cell BK315.out 2).trans rfl
      have hfz7_0 := blk_frozen BK315.out 0
      have hfz7_1 := blk_frozen BK315.out 1
      have hfz7_2 := blk_frozen BK315.out 2
      go_wp2_with (first | ((with_reducible refine gate_callee (f := 113) rfl ?_); refine goesL_ (some 7) rfl rfl Try.func113 (by kernel_rfl) rfl #[.string a0_1] rfl (by (try simp only [List.map_toArray, List.map_cons, List.map_nil]); first | done | rfl | (simp only [List.length_drop, List.length_take]; rfl)) ?_; (with_reducible refine (spec_l2GoodCls.calls k a0_1 false _ A4.out).mono ?_); rintro e w' ⟨rfl, ⟨nd, rfl⟩⟩; refine ⟨_, rfl, ?_⟩))
      go_meet
      case rel => exact ⟨_, (true), (by first | rfl | (simp; done) | (simp [*]; done)), H', ⟨by first | omega | exact Nat.le_refl _⟩, ⟨by (with_reducible repeat (first | refine blk_drewN ?_ _ | refine blk_drew ?_ | refine blk_alloc ?_ _)); exact BK315.out⟩, ⟨by repeat (first | (with_reducible first | exact HB.out | apply below_alloc | apply pw_below_drewN | apply below_drew1 | refine below_set ?_ GE315.out) | exact HB.out)⟩⟩
  case rest =>
    clear HC2
    try clear c1
    try clear p2
    try clear c5
    try clear c7
    try clear hcz6_0
    try clear hcz6_1
    try clear hcz6_2
    try clear hcz7_0
    try clear hcz7_1
    try clear hcz7_2
    try clear hfz6_0
    try clear hfz6_1
    try clear hfz6_2
    try clear hfz7_0
    try clear hfz7_1
    try clear hfz7_2
    obtain ⟨kq, x14_1, rfl, HA, HJ1, BK315, HB⟩ := hcut
    cases kq with
    | zero => exact absurd HA.out (by simp [spec_l2GoodPat.j0])
    | succ kj1 =>
      have H := HA.out
      clear HA
      simp only [spec_l2GoodPat.j0] at H
      by_cases c8 : x14_1 = true
      · subst c8
        have H1 : (some false) = some r := by first | (rw [if_pos rfl] at H; exact H) | rfl
        clear H
        have H := H1
        clear H1
        obtain rfl := Option.some.inj H
        go_wp2
        go_ret
        exact ⟨by first | rfl | (simp [errW_none, errW_some] <;> rfl) | (simp [*, errW_none, errW_some] <;> rfl), by repeat (first | (with_reducible first | exact HB.out | apply below_alloc | apply pw_below_drewN | apply below_drew1 | refine below_set ?_ GE315.out) | exact HB.out)⟩
      · replace c8 := Bool.eq_false_iff.mpr c8
        subst c8
        have H1 : (spec_l2GoodPat.l0 kj1 l0_2 (l0_2.length : Int) 0) = some r := by first | (rw [if_neg (show ¬ (false = true) by decide)] at H; exact H) | rfl
        clear H
        have H := H1
        clear H1
        have H' := Aside0.mk H
        clear H
        have hcz9_0 : wc.cell? ⟨gb315, 0, none⟩ = some (.bool a0_0) := (blk_cell BK315.out 0).trans rfl
        have hcz9_1 : wc.cell? ⟨gb315, 1, none⟩ = some (.string a0_1) := (blk_cell BK315.out 1).trans rfl
        have hcz9_2 : wc.cell? ⟨gb315, 2, none⟩ = some (.slice A0_2 l0_2.length c0_2) := (blk_cell BK315.out 2).trans rfl
        have hfz9_0 := blk_frozen BK315.out 0
        have hfz9_1 := blk_frozen BK315.out 1
        have hfz9_2 := blk_frozen BK315.out 2
        go_wp2
        go_loopg [18] kj1 (fun kq v18 w' => ∃ (x18_2 : Int), v18 = .int .i64 x18_2 ∧ Aside0 (spec_l2GoodPat.l0 kq l0_2 (l0_2.length : Int) x18_2 = some r) ∧ Aside0 (kq ≤ kj1) ∧ Aside0 (w'.heap[gb315]? = some (.cells #[.bool a0_0, .string a0_1, (.slice A0_2 l0_2.length c0_2)] 61 (0, 0))) ∧ Aside0 (Below w.heap.size w w'))
        case atStart => exact ⟨(0), (by first | rfl | (simp; done) | (simp [*]; done)), H', ⟨Nat.le_refl _⟩, ⟨by (with_reducible repeat (first | refine blk_drewN ?_ _ | refine blk_drew ?_ | refine blk_alloc ?_ _)); exact BK315.out⟩, ⟨by repeat (first | (with_reducible first | exact HB.out | apply below_alloc | apply pw_below_drewN | apply below_drew1 | refine below_set ?_ GE315.out) | exact HB.out)⟩⟩
        case round =>
          clear H'
          try clear c1
          try clear p2
          try clear c5
          try clear c7
          try clear c8
          try clear hcz6_0
          try clear hcz6_1
          try clear hcz6_2
          try clear hcz7_0
          try clear hcz7_1
          try clear hcz7_2
          try clear hcz9_0
          try clear hcz9_1
          try clear hcz9_2
          try clear hfz6_0
          try clear hfz6_1
          try clear hfz6_2
          try clear hfz7_0
          try clear hfz7_1
          try clear hfz7_2
          try clear hfz9_0
          try clear hfz9_1
          try clear hfz9_2
          try clear p2
          obtain ⟨x18_2, rfl, HA, HK2, BK315, HB⟩ := hrel
          cases gk with
          | zero => exact absurd HA.out (by simp [spec_l2GoodPat.l0])
          | succ k2 =>
            have H := HA.out
            clear HA
            simp only [spec_l2GoodPat.l0] at H
            by_cases c10 : x18_2 < (l0_2.length : Int)
            · rw [if_pos c10] at H
              have c10b0 : decide (x18_2 < (l0_2.length : Int)) = true := decide_eq_true c10
              clear c10
              by_cases c11 : 0 ≤ x18_2
              · rw [if_pos c11] at H
                have c11b0 : decide (0 ≤ x18_2) = true := decide_eq_true c11
                clear c11
                by_cases c12 : x18_2 < (l0_2.length : Int)
                · rw [if_pos c12] at H
                  have c12b0 : decide (x18_2 < (l0_2.length : Int)) = true := decide_eq_true c12
                  clear c12
                  replace H := Option.bind_eq_some_iff.mp H
                  obtain ⟨t319, A130, H⟩ := H
                  replace H : (if t319 = true then (spec_l2GoodPat.l0 k2 l0_2 (l0_2.length : Int) (wrap64 (x18_2 + 1))) else (some false)) = some r := H
                  have A13 := Aside0.mk A130
                  clear A130
                  by_cases c14 : t319 = true
                  · subst c14
                    have H1 : (spec_l2GoodPat.l0 k2 l0_2 (l0_2.length : Int) (wrap64 (x18_2 + 1))) = some r := by first | (rw [if_pos rfl] at H; exact H) | rfl
                    clear H
                    have H := H1
                    clear H1
                    have H' := Aside0.mk H
                    clear H
                    have p317 : 0 ≤ (x18_2 : Int) := of_decide_eq_true (by first | (with_reducible assumption) | assumption)
                    have q317 : x18_2 < (l0_2.length : Int) := of_decide_eq_true (by first | (with_reducible assumption) | assumption)
                    obtain ⟨ad317, e317, hx317_0, hx317_1, hx317_2, hx317_3, hx317_4, hx317_5⟩ := at_T120 HR0_2.out x18_2 p317 q317
                    cases e317
                    replace hx317_0 := (HB.out.cell (World.block_lt_of_cell? w _ hx317_0)).trans hx317_0
                    replace hx317_1 := (HB.out.cell (World.block_lt_of_cell? w _ hx317_1)).trans hx317_1
                    replace hx317_2 := (HB.out.cell (World.block_lt_of_cell? w _ hx317_2)).trans hx317_2
                    replace hx317_3 := (HB.out.cell (World.block_lt_of_cell? w _ hx317_3)).trans hx317_3
                    replace hx317_4 := (HB.out.cell (World.block_lt_of_cell? w _ hx317_4)).trans hx317_4
                    replace hx317_5 := (HB.out.cell (World.block_lt_of_cell? w _ hx317_5)).trans hx317_5
                    replace p317 := eq_true p317
                    replace q317 := eq_true q317
                    go_wp2_with (first | ((with_reducible refine gate_dst (N := 4) rfl ?_); (try (refine gate_guard (by rfl) ?_; dsimp only)); refine box_event ?hg (N := 4) ?hd (cs := #[.int .i64 0, .int .i64 0, .string (⟨#[]⟩ : ByteArray), .int .i64 0, .int .i64 0, .string (⟨#[]⟩ : ByteArray)]) (t := 120) ?hr ?_; (case hd => rfl); (case hg => rfl); (case hr => first | (go_simp; done) | (go_simp; rfl)); intro gb318 hg w15 hbox hb; have n0_ := Aside0.mk (blk_below (g := gb315) (o := .cells #[.bool a0_0, .string a0_1, .slice (some ad317) l0_2.length c0_2] 61 (0, 0)) (by (with_reducible repeat (first | refine blk_drewN ?_ _ | refine blk_drew ?_ | refine blk_alloc ?_ _)); exact BK315.out) hb); have n1_ := Aside0.mk (below_step (by repeat (first | (with_reducible first | exact HB.out | apply below_alloc | apply pw_below_drewN | apply below_drew1 | refine below_set ?_ GE315.out) | exact HB.out)) hb); have n2_ := Aside0.mk (hbox); have n3_ := Aside0.mk ((by rw [hg]; exact (below_size (by repeat (first | (with_reducible first | exact HB.out | apply below_alloc | apply pw_below_drewN | apply below_drew1 | refine below_set ?_ GE315.out) | exact HB.out))) : w.heap.size ≤ gb318)); have n4_ := Aside0.mk ((by rw [hg]; exact (below_size (by repeat (first | (with_reducible first | exact HB.out | apply below_alloc | apply pw_below_drewN | apply below_drew1 | refine below_set ?_ GE315.out) | exact HB.out))) : w.heap.size ≤ gb318)); have n5_ := Aside0.mk ((by rw [hg]; exact Nat.ne_of_lt (blk_lt (g := gb315) (o := .cells #[.bool a0_0, .string a0_1, .slice (some ad317) l0_2.length c0_2] 61 (0, 0)) (by (with_reducible repeat (first | refine blk_drewN ?_ _ | refine blk_drew ?_ | refine blk_alloc ?_ _)); exact BK315.out)) : gb315 ≠ gb318)); have n6_ := Aside0.mk ((by rw [hg]; exact Nat.ne_of_gt (blk_lt (g := gb315) (o := .cells #[.bool a0_0, .string a0_1, .slice (some ad317) l0_2.length c0_2] 61 (0, 0)) (by (with_reducible repeat (first | refine blk_drewN ?_ _ | refine blk_drew ?_ | refine blk_alloc ?_ _)); exact BK315.out)) : gb318 ≠ gb315)); clear BK315; clear HB; have BK315 := n0_; have HB := n1_; have BK318 := n2_; have GW318 := n3_; have GE318 := n4_; have NB315_318 := n5_; have NB318_315 := n6_; clear n0_ n1_ n2_ n3_ n4_ n5_ n6_; clear hb hbox hg; have hnb16 := NB318_315.out; have hnc16 := NB315_318.out; have hcz17_0 : w15.cell? ⟨gb318, 0, none⟩ = some (.int .i64 0) := (blk_cell BK318.out 0).trans rfl; have hcz17_1 : w15.cell? ⟨gb318, 1, none⟩ = some (.int .i64 0) := (blk_cell BK318.out 1).trans rfl; have hcz17_2 : w15.cell? ⟨gb318, 2, none⟩ = some (.string (⟨#[]⟩ : ByteArray)) := (blk_cell BK318.out 2).trans rfl; have hcz17_3 : w15.cell? ⟨gb318, 3, none⟩ = some (.int .i64 0) := (blk_cell BK318.out 3).trans rfl; have hcz17_4 : w15.cell? ⟨gb318, 4, none⟩ = some (.int .i64 0) := (blk_cell BK318.out 4).trans rfl; have hcz17_5 : w15.cell? ⟨gb318, 5, none⟩ = some (.string (⟨#[]⟩ : ByteArray)) := (blk_cell BK318.out 5).trans rfl; have hfz17_0 := blk_frozen BK318.out 0; have hfz17_1 := blk_frozen BK318.out 1; have hfz17_2 := blk_frozen BK318.out 2; have hfz17_3 := blk_frozen BK318.out 3; have hfz17_4 := blk_frozen BK318.out 4; have hfz17_5 := blk_frozen BK318.out 5) | ((with_reducible refine gate_callee (f := 114) rfl ?_); refine goesL_ (some 23) rfl rfl Try.func114 (by kernel_rfl) rfl #[.agg #[.int .i64 ((rd_T120 l0_2 x18_2).f0), .int .i64 ((rd_T120 l0_2 x18_2).f1), .string ((rd_T120 l0_2 x18_2).f2), .int .i64 ((rd_T120 l0_2 x18_2).f3.f0), .int .i64 ((rd_T120 l0_2 x18_2).f3.f1), .string ((rd_T120 l0_2 x18_2).f3.f2)]] rfl (by (try simp only [List.map_toArray, List.map_cons, List.map_nil]); first | done | rfl | (simp only [List.length_drop, List.length_take]; rfl)) ?_; (with_reducible refine (spec_l2GoodTerm.calls k2 ((rd_T120 l0_2 x18_2).f0) ((rd_T120 l0_2 x18_2).f1) ((rd_T120 l0_2 x18_2).f2) ((rd_T120 l0_2 x18_2).f3.f0) ((rd_T120 l0_2 x18_2).f3.f1) ((rd_T120 l0_2 x18_2).f3.f2) true _ A13.out).mono ?_); rintro e w18 ⟨rfl, hb⟩; refine ⟨_, rfl, ?_⟩; have n0_ := Aside0.mk (blk_below (g := gb315) (o := .cells #[.bool a0_0, .string a0_1, .slice (some ad317) l0_2.length c0_2] 61 (0, 0)) (by (with_reducible repeat (first | refine blk_drewN ?_ _ | refine blk_drew ?_ | refine blk_alloc ?_ _)); refine blk_far ?_ NB315_318.out _; (with_reducible repeat (first | refine blk_drewN ?_ _ | refine blk_drew ?_ | refine blk_alloc ?_ _)); refine blk_far ?_ NB315_318.out _; (with_reducible repeat (first | refine blk_drewN ?_ _ | refine blk_drew ?_ | refine blk_alloc ?_ _)); refine blk_far ?_ NB315_318.out _; (with_reducible repeat (first | refine blk_drewN ?_ _ | refine blk_drew ?_ | refine blk_alloc ?_ _)); refine blk_far ?_ NB315_318.out _; (with_reducible repeat (first | refine blk_drewN ?_ _ | refine blk_drew ?_ | refine blk_alloc ?_ _)); refine blk_far ?_ NB315_318.out _; (with_reducible repeat (first | refine blk_drewN ?_ _ | refine blk_drew ?_ | refine blk_alloc ?_ _)); refine blk_far ?_ NB315_318.out _; (with_reducible repeat (first | refine blk_drewN ?_ _ | refine blk_drew ?_ | refine blk_alloc ?_ _)); exact BK315.out) hb); have n1_ := Aside0.mk (blk_below (g := gb318) (o := .cells #[.int .i64 ((rd_T120 l0_2 x18_2).f0), .int .i64 ((rd_T120 l0_2 x18_2).f1), .string ((rd_T120 l0_2 x18_2).f2), .int .i64 ((rd_T120 l0_2 x18_2).f3.f0), .int .i64 ((rd_T120 l0_2 x18_2).f3.f1), .string ((rd_T120 l0_2 x18_2).f3.f2)] 120 (0, 0)) (by (with_reducible repeat (first | refine blk_drewN ?_ _ | refine blk_drew ?_ | refine blk_alloc ?_ _)); refine blk_put (cs := #[.int .i64 ((rd_T120 l0_2 x18_2).f0), .int .i64 ((rd_T120 l0_2 x18_2).f1), .string ((rd_T120 l0_2 x18_2).f2), .int .i64 ((rd_T120 l0_2 x18_2).f3.f0), .int .i64 ((rd_T120 l0_2 x18_2).f3.f1), .string (⟨#[]⟩ : ByteArray)]) ?_ 5 _ rfl; (with_reducible repeat (first | refine blk_drewN ?_ _ | refine blk_drew ?_ | refine blk_alloc ?_ _)); refine blk_put (cs := #[.int .i64 ((rd_T120 l0_2 x18_2).f0), .int .i64 ((rd_T120 l0_2 x18_2).f1), .string ((rd_T120 l0_2 x18_2).f2), .int .i64 ((rd_T120 l0_2 x18_2).f3.f0), .int .i64 0, .string (⟨#[]⟩ : ByteArray)]) ?_ 4 _ rfl; (with_reducible repeat (first | refine blk_drewN ?_ _ | refine blk_drew ?_ | refine blk_alloc ?_ _)); refine blk_put (cs := #[.int .i64 ((rd_T120 l0_2 x18_2).f0), .int .i64 ((rd_T120 l0_2 x18_2).f1), .string ((rd_T120 l0_2 x18_2).f2), .int .i64 0, .int .i64 0, .string (⟨#[]⟩ : ByteArray)]) ?_ 3 _ rfl; (with_reducible repeat (first | refine blk_drewN ?_ _ | refine blk_drew ?_ | refine blk_alloc ?_ _)); refine blk_put (cs := #[.int .i64 ((rd_T120 l0_2 x18_2).f0), .int .i64 ((rd_T120 l0_2 x18_2).f1), .string (⟨#[]⟩ : ByteArray), .int .i64 0, .int .i64 0, .string (⟨#[]⟩ : ByteArray)]) ?_ 2 _ rfl; (with_reducible repeat (first | refine blk_drewN ?_ _ | refine blk_drew ?_ | refine blk_alloc ?_ _)); refine blk_put (cs := #[.int .i64 ((rd_T120 l0_2 x18_2).f0), .int .i64 0, .string (⟨#[]⟩ : ByteArray), .int .i64 0, .int .i64 0, .string (⟨#[]⟩ : ByteArray)]) ?_ 1 _ rfl; (with_reducible repeat (first | refine blk_drewN ?_ _ | refine blk_drew ?_ | refine blk_alloc ?_ _)); refine blk_put (cs := #[.int .i64 0, .int .i64 0, .string (⟨#[]⟩ : ByteArray), .int .i64 0, .int .i64 0, .string (⟨#[]⟩ : ByteArray)]) ?_ 0 _ rfl; (with_reducible repeat (first | refine blk_drewN ?_ _ | refine blk_drew ?_ | refine blk_alloc ?_ _)); exact BK318.out) hb); have n2_ := Aside0.mk (below_step (by repeat (first | (with_reducible first | exact HB.out | apply below_alloc | apply pw_below_drewN | apply below_drew1 | refine below_set ?_ GE315.out | refine below_set ?_ GE318.out) | exact HB.out)) hb); clear BK315; clear BK318; clear HB; have BK315 := n0_; have BK318 := n1_; have HB := n2_; clear n0_ n1_ n2_; (try clear hb); (try clear hb2); (try clear hk); (try clear hi)))
                    go_roundg k2
                    case measure => have := HJ1.out; have := HK2.out; omega
                    case rel => exact ⟨(wrap64 (x18_2 + 1)), (by first | rfl | (simp; done) | (simp [*]; done)), H', ⟨by have := HJ1.out; have := HK2.out; omega⟩, ⟨by (with_reducible repeat (first | refine blk_drewN ?_ _ | refine blk_drew ?_ | refine blk_alloc ?_ _)); exact BK315.out⟩, ⟨by repeat (first | (with_reducible first | exact HB.out | apply below_alloc | apply pw_below_drewN | apply below_drew1 | refine below_set ?_ GE315.out | refine below_set ?_ GE318.out) | exact HB.out)⟩⟩
                  · replace c14 := Bool.eq_false_iff.mpr c14
                    subst c14
                    have H1 : (some false) = some r := by first | (rw [if_neg (show ¬ (false = true) by decide)] at H; exact H) | rfl
                    clear H
                    have H := H1
                    clear H1
                    obtain rfl := Option.some.inj H
                    have p317 : 0 ≤ (x18_2 : Int) := of_decide_eq_true (by first | (with_reducible assumption) | assumption)
                    have q317 : x18_2 < (l0_2.length : Int) := of_decide_eq_true (by first | (with_reducible assumption) | assumption)
                    obtain ⟨ad317, e317, hx317_0, hx317_1, hx317_2, hx317_3, hx317_4, hx317_5⟩ := at_T120 HR0_2.out x18_2 p317 q317
                    cases e317
                    replace hx317_0 := (HB.out.cell (World.block_lt_of_cell? w _ hx317_0)).trans hx317_0
                    replace hx317_1 := (HB.out.cell (World.block_lt_of_cell? w _ hx317_1)).trans hx317_1
                    replace hx317_2 := (HB.out.cell (World.block_lt_of_cell? w _ hx317_2)).trans hx317_2
                    replace hx317_3 := (HB.out.cell (World.block_lt_of_cell? w _ hx317_3)).trans hx317_3
                    replace hx317_4 := (HB.out.cell (World.block_lt_of_cell? w _ hx317_4)).trans hx317_4
                    replace hx317_5 := (HB.out.cell (World.block_lt_of_cell? w _ hx317_5)).trans hx317_5
                    replace p317 := eq_true p317
                    replace q317 := eq_true q317
                    go_wp2_with (first | ((with_reducible refine gate_dst (N := 4) rfl ?_); (try (refine gate_guard (by rfl) ?_; dsimp only)); refine box_event ?hg (N := 4) ?hd (cs := #[.int .i64 0, .int .i64 0, .string (⟨#[]⟩ : ByteArray), .int .i64 0, .int .i64 0, .string (⟨#[]⟩ : ByteArray)]) (t := 120) ?hr ?_; (case hd => rfl); (case hg => rfl); (case hr => first | (go_simp; done) | (go_simp; rfl)); intro gb318 hg w19 hbox hb; have n0_ := Aside0.mk (blk_below (g := gb315) (o := .cells #[.bool a0_0, .string a0_1, .slice (some ad317) l0_2.length c0_2] 61 (0, 0)) (by (with_reducible repeat (first | refine blk_drewN ?_ _ | refine blk_drew ?_ | refine blk_alloc ?_ _)); exact BK315.out) hb); have n1_ := Aside0.mk (below_step (by repeat (first | (with_reducible first | exact HB.out | apply below_alloc | apply pw_below_drewN | apply below_drew1 | refine below_set ?_ GE315.out) | exact HB.out)) hb); have n2_ := Aside0.mk (hbox); have n3_ := Aside0.mk ((by rw [hg]; exact (below_size (by repeat (first | (with_reducible first | exact HB.out | apply below_alloc | apply pw_below_drewN | apply below_drew1 | refine below_set ?_ GE315.out) | exact HB.out))) : w.heap.size ≤ gb318)); have n4_ := Aside0.mk ((by rw [hg]; exact (below_size (by repeat (first | (with_reducible first | exact HB.out | apply below_alloc | apply pw_below_drewN | apply below_drew1 | refine below_set ?_ GE315.out) | exact HB.out))) : w.heap.size ≤ gb318)); have n5_ := Aside0.mk ((by rw [hg]; exact Nat.ne_of_lt (blk_lt (g := gb315) (o := .cells #[.bool a0_0, .string a0_1, .slice (some ad317) l0_2.length c0_2] 61 (0, 0)) (by (with_reducible repeat (first | refine blk_drewN ?_ _ | refine blk_drew ?_ | refine blk_alloc ?_ _)); exact BK315.out)) : gb315 ≠ gb318)); have n6_ := Aside0.mk ((by rw [hg]; exact Nat.ne_of_gt (blk_lt (g := gb315) (o := .cells #[.bool a0_0, .string a0_1, .slice (some ad317) l0_2.length c0_2] 61 (0, 0)) (by (with_reducible repeat (first | refine blk_drewN ?_ _ | refine blk_drew ?_ | refine blk_alloc ?_ _)); exact BK315.out)) : gb318 ≠ gb315)); clear BK315; clear HB; have BK315 := n0_; have HB := n1_; have BK318 := n2_; have GW318 := n3_; have GE318 := n4_; have NB315_318 := n5_; have NB318_315 := n6_; clear n0_ n1_ n2_ n3_ n4_ n5_ n6_; clear hb hbox hg; have hnb20 := NB318_315.out; have hnc20 := NB315_318.out; have hcz21_0 : w19.cell? ⟨gb318, 0, none⟩ = some (.int .i64 0) := (blk_cell BK318.out 0).trans rfl; have hcz21_1 : w19.cell? ⟨gb318, 1, none⟩ = some (.int .i64 0) := (blk_cell BK318.out 1).trans rfl; have hcz21_2 : w19.cell? ⟨gb318, 2, none⟩ = some (.string (⟨#[]⟩ : ByteArray)) := (blk_cell BK318.out 2).trans rfl; have hcz21_3 : w19.cell? ⟨gb318, 3, none⟩ = some (.int .i64 0) := (blk_cell BK318.out 3).trans rfl; have hcz21_4 : w19.cell? ⟨gb318, 4, none⟩ = some (.int .i64 0) := (blk_cell BK318.out 4).trans rfl; have hcz21_5 : w19.cell? ⟨gb318, 5, none⟩ = some (.string (⟨#[]⟩ : ByteArray)) := (blk_cell BK318.out 5).trans rfl; have hfz21_0 := blk_frozen BK318.out 0; have hfz21_1 := blk_frozen BK318.out 1; have hfz21_2 := blk_frozen BK318.out 2; have hfz21_3 := blk_frozen BK318.out 3; have hfz21_4 := blk_frozen BK318.out 4; have hfz21_5 := blk_frozen BK318.out 5) | ((with_reducible refine gate_callee (f := 114) rfl ?_); refine goesL_ (some 23) rfl rfl Try.func114 (by kernel_rfl) rfl #[.agg #[.int .i64 ((rd_T120 l0_2 x18_2).f0), .int .i64 ((rd_T120 l0_2 x18_2).f1), .string ((rd_T120 l0_2 x18_2).f2), .int .i64 ((rd_T120 l0_2 x18_2).f3.f0), .int .i64 ((rd_T120 l0_2 x18_2).f3.f1), .string ((rd_T120 l0_2 x18_2).f3.f2)]] rfl (by (try simp only [List.map_toArray, List.map_cons, List.map_nil]); first | done | rfl | (simp only [List.length_drop, List.length_take]; rfl)) ?_; (with_reducible refine (spec_l2GoodTerm.calls k2 ((rd_T120 l0_2 x18_2).f0) ((rd_T120 l0_2 x18_2).f1) ((rd_T120 l0_2 x18_2).f2) ((rd_T120 l0_2 x18_2).f3.f0) ((rd_T120 l0_2 x18_2).f3.f1) ((rd_T120 l0_2 x18_2).f3.f2) false _ A13.out).mono ?_); rintro e w22 ⟨rfl, hb⟩; refine ⟨_, rfl, ?_⟩; have n0_ := Aside0.mk (blk_below (g := gb315) (o := .cells #[.bool a0_0, .string a0_1, .slice (some ad317) l0_2.length c0_2] 61 (0, 0)) (by (with_reducible repeat (first | refine blk_drewN ?_ _ | refine blk_drew ?_ | refine blk_alloc ?_ _)); refine blk_far ?_ NB315_318.out _; (with_reducible repeat (first | refine blk_drewN ?_ _ | refine blk_drew ?_ | refine blk_alloc ?_ _)); refine blk_far ?_ NB315_318.out _; (with_reducible repeat (first | refine blk_drewN ?_ _ | refine blk_drew ?_ | refine blk_alloc ?_ _)); refine blk_far ?_ NB315_318.out _; (with_reducible repeat (first | refine blk_drewN ?_ _ | refine blk_drew ?_ | refine blk_alloc ?_ _)); refine blk_far ?_ NB315_318.out _; (with_reducible repeat (first | refine blk_drewN ?_ _ | refine blk_drew ?_ | refine blk_alloc ?_ _)); refine blk_far ?_ NB315_318.out _; (with_reducible repeat (first | refine blk_drewN ?_ _ | refine blk_drew ?_ | refine blk_alloc ?_ _)); refine blk_far ?_ NB315_318.out _; (with_reducible repeat (first | refine blk_drewN ?_ _ | refine blk_drew ?_ | refine blk_alloc ?_ _)); exact BK315.out) hb); have n1_ := Aside0.mk (blk_below (g := gb318) (o := .cells #[.int .i64 ((rd_T120 l0_2 x18_2).f0), .int .i64 ((rd_T120 l0_2 x18_2).f1), .string ((rd_T120 l0_2 x18_2).f2), .int .i64 ((rd_T120 l0_2 x18_2).f3.f0), .int .i64 ((rd_T120 l0_2 x18_2).f3.f1), .string ((rd_T120 l0_2 x18_2).f3.f2)] 120 (0, 0)) (by (with_reducible repeat (first | refine blk_drewN ?_ _ | refine blk_drew ?_ | refine blk_alloc ?_ _)); refine blk_put (cs := #[.int .i64 ((rd_T120 l0_2 x18_2).f0), .int .i64 ((rd_T120 l0_2 x18_2).f1), .string ((rd_T120 l0_2 x18_2).f2), .int .i64 ((rd_T120 l0_2 x18_2).f3.f0), .int .i64 ((rd_T120 l0_2 x18_2).f3.f1), .string (⟨#[]⟩ : ByteArray)]) ?_ 5 _ rfl; (with_reducible repeat (first | refine blk_drewN ?_ _ | refine blk_drew ?_ | refine blk_alloc ?_ _)); refine blk_put (cs := #[.int .i64 ((rd_T120 l0_2 x18_2).f0), .int .i64 ((rd_T120 l0_2 x18_2).f1), .string ((rd_T120 l0_2 x18_2).f2), .int .i64 ((rd_T120 l0_2 x18_2).f3.f0), .int .i64 0, .string (⟨#[]⟩ : ByteArray)]) ?_ 4 _ rfl; (with_reducible repeat (first | refine blk_drewN ?_ _ | refine blk_drew ?_ | refine blk_alloc ?_ _)); refine blk_put (cs := #[.int .i64 ((rd_T120 l0_2 x18_2).f0), .int .i64 ((rd_T120 l0_2 x18_2).f1), .string ((rd_T120 l0_2 x18_2).f2), .int .i64 0, .int .i64 0, .string (⟨#[]⟩ : ByteArray)]) ?_ 3 _ rfl; (with_reducible repeat (first | refine blk_drewN ?_ _ | refine blk_drew ?_ | refine blk_alloc ?_ _)); refine blk_put (cs := #[.int .i64 ((rd_T120 l0_2 x18_2).f0), .int .i64 ((rd_T120 l0_2 x18_2).f1), .string (⟨#[]⟩ : ByteArray), .int .i64 0, .int .i64 0, .string (⟨#[]⟩ : ByteArray)]) ?_ 2 _ rfl; (with_reducible repeat (first | refine blk_drewN ?_ _ | refine blk_drew ?_ | refine blk_alloc ?_ _)); refine blk_put (cs := #[.int .i64 ((rd_T120 l0_2 x18_2).f0), .int .i64 0, .string (⟨#[]⟩ : ByteArray), .int .i64 0, .int .i64 0, .string (⟨#[]⟩ : ByteArray)]) ?_ 1 _ rfl; (with_reducible repeat (first | refine blk_drewN ?_ _ | refine blk_drew ?_ | refine blk_alloc ?_ _)); refine blk_put (cs := #[.int .i64 0, .int .i64 0, .string (⟨#[]⟩ : ByteArray), .int .i64 0, .int .i64 0, .string (⟨#[]⟩ : ByteArray)]) ?_ 0 _ rfl; (with_reducible repeat (first | refine blk_drewN ?_ _ | refine blk_drew ?_ | refine blk_alloc ?_ _)); exact BK318.out) hb); have n2_ := Aside0.mk (below_step (by repeat (first | (with_reducible first | exact HB.out | apply below_alloc | apply pw_below_drewN | apply below_drew1 | refine below_set ?_ GE315.out | refine below_set ?_ GE318.out) | exact HB.out)) hb); clear BK315; clear BK318; clear HB; have BK315 := n0_; have BK318 := n1_; have HB := n2_; clear n0_ n1_ n2_; (try clear hb); (try clear hb2); (try clear hk); (try clear hi)))
                    go_ret
                    exact ⟨by first | rfl | (simp [errW_none, errW_some] <;> rfl) | (simp [*, errW_none, errW_some] <;> rfl), by repeat (first | (with_reducible first | exact HB.out | apply below_alloc | apply pw_below_drewN | apply below_drew1 | refine below_set ?_ GE315.out | refine below_set ?_ GE318.out) | exact HB.out)⟩
                · rw [if_neg c12] at H
                  exact absurd H (by simp)
              · rw [if_neg c11] at H
                exact absurd H (by simp)
            · rw [if_neg c10] at H
              have c10b0 : decide (x18_2 < (l0_2.length : Int)) = false := decide_eq_false c10
              clear c10
              obtain rfl := Option.some.inj H
              go_wp2
              go_ret
              exact ⟨by first | rfl | (simp [errW_none, errW_some] <;> rfl) | (simp [*, errW_none, errW_some] <;> rfl), by repeat (first | (with_reducible first | exact HB.out | apply below_alloc | apply pw_below_drewN | apply below_drew1 | refine below_set ?_ GE315.out) | exact HB.out)⟩
def spec_l3Earlier.l0 : Nat → Int → ByteArray → Int → Bool → ByteArray → List (S120) → Option (Int)
  | 0, _, _, _, _, _, _ => none
  | k + 1, x1, x2, x7, x321000, x321001, x321002 => if x7 < x1 then (if 0 ≤ x7 then (if x7 < (x321002.length : Int) then (if ((rd_T120 x321002 x7).f0) = 2 then (if ((rd_T120 x321002 x7).f2).toList = x2.toList then (some x7) else (spec_l3Earlier.l0 k x1 x2 (wrap64 (x7 + 1)) x321000 x321001 x321002)) else (spec_l3Earlier.l0 k x1 x2 (wrap64 (x7 + 1)) x321000 x321001 x321002)) else (none)) else (none)) else (some (-1))
def spec_l3Earlier.f (k : Nat) (a0_0 : Bool) (a0_1 : ByteArray) (l0_2 : List (S120)) (a1 : Int) (a2 : ByteArray) : Option (Int) := spec_l3Earlier.l0 k a1 a2 0 a0_0 a0_1 l0_2
theorem spec_l3Earlier.mono_l : ∀ k, (∀ y0 y1 y2 y3 y4 y5, LeO (spec_l3Earlier.l0 k y0 y1 y2 y3 y4 y5) (spec_l3Earlier.l0 (k + 1) y0 y1 y2 y3 y4 y5))
  | 0 => fun _ _ _ _ _ _ r h => by simp [spec_l3Earlier.l0] at h
  | k + 1 => by
    have ih0 := spec_l3Earlier.mono_l k
    · intro y0 y1 y2 y3 y4 y5
      unfold spec_l3Earlier.l0
      repeat' first
      | (with_reducible exact ih0 _ _ _ _ _ _)
      | (with_reducible exact LeO.refl _)
      | (with_reducible exact LeO.none _)
      | (with_reducible refine LeO.ite ?_ ?_)
      | (with_reducible refine LeO.bind ?_ (fun _ => ?_))
      | exact ih0 _ _ _ _ _ _
      | exact LeO.none _
      | refine LeO.ite ?_ ?_
      | refine LeO.bind ?_ (fun _ => ?_)
theorem spec_l3Earlier.mono : ∀ a0 a1 a2 a3 a4 k, LeO (spec_l3Earlier.f k a0 a1 a2 a3 a4) (spec_l3Earlier.f (k + 1) a0 a1 a2 a3 a4) := by
  intro a0 a1 a2 a3 a4 k
  have ih0 := spec_l3Earlier.mono_l k
  unfold spec_l3Earlier.f
  repeat' first
      | (with_reducible exact ih0 _ _ _ _ _ _)
      | (with_reducible exact LeO.refl _)
      | (with_reducible exact LeO.none _)
      | (with_reducible refine LeO.ite ?_ ?_)
      | (with_reducible refine LeO.bind ?_ (fun _ => ?_))
      | exact ih0 _ _ _ _ _ _
      | exact LeO.none _
      | refine LeO.ite ?_ ?_
      | refine LeO.bind ?_ (fun _ => ?_)
set_option maxHeartbeats 8000000 in
set_option maxRecDepth 100000 in
theorem spec_l3Earlier.calls (k : Nat) (a0_0 : Bool) (a0_1 : ByteArray) (A0_2 : Option Addr) (c0_2 : Nat) (l0_2 : List (S120)) (a1 : Int) (a2 : ByteArray) (r : Int) (w : World) (hr0_2 : Kd.C k120 w A0_2 l0_2.length l0_2) (hc0_2 : l0_2.length ≤ c0_2) (h : spec_l3Earlier.f k a0_0 a0_1 l0_2 a1 a2 = some r) :
    Calls Try.prog 72 #[.agg #[.bool a0_0, .string a0_1, .slice A0_2 l0_2.length c0_2], .int .i64 a1, .string a2] w fun e w' => e = .returned (.int .i64 r) ∧ Below w.heap.size w w' := by
  have hu61 := Try.underlying61
  have HR0_2 := Aside0.mk hr0_2
  have HC0_2 := Aside0.mk hc0_2
  clear hr0_2 hc0_2
  have HB := Aside0.mk (Below.refl w.heap.size w)
  have H : (spec_l3Earlier.l0 k a1 a2 0 a0_0 a0_1 l0_2) = some r := h
  clear h
  have H' := Aside0.mk H
  clear H
  go_enter Try.func72, Try.ntmps72
  go_wp2_with (first | ((with_reducible refine gate_dst (N := 3) rfl ?_); refine box_event ?hg (N := 3) ?hd (cs := #[.bool a0_0, .string a0_1, .slice A0_2 l0_2.length c0_2]) (t := 61) ?hr ?_; (case hd => rfl); (case hg => rfl); (case hr => first | (go_simp; done) | (go_simp; rfl)); intro gb320 hg w4 hbox hb; have n0_ := Aside0.mk (below_step (by repeat (first | (with_reducible first | exact HB.out | apply below_alloc | apply pw_below_drewN | apply below_drew1) | exact HB.out)) hb); have n1_ := Aside0.mk (hbox); have n2_ := Aside0.mk ((by rw [hg]; exact (below_size (by repeat (first | (with_reducible first | exact HB.out | apply below_alloc | apply pw_below_drewN | apply below_drew1) | exact HB.out))) : w.heap.size ≤ gb320)); have n3_ := Aside0.mk ((by rw [hg]; exact (below_size (by repeat (first | (with_reducible first | exact HB.out | apply below_alloc | apply pw_below_drewN | apply below_drew1) | exact HB.out))) : w.heap.size ≤ gb320)); clear HB; have HB := n0_; have BK320 := n1_; have GW320 := n2_; have GE320 := n3_; clear n0_ n1_ n2_ n3_; clear hb hbox hg))
  go_loopg [7] k (fun kq v7 w' => ∃ (x7_1 : Int), v7 = .int .i64 x7_1 ∧ Aside0 (spec_l3Earlier.l0 kq a1 a2 x7_1 a0_0 a0_1 l0_2 = some r) ∧ Aside0 (kq ≤ k) ∧ Aside0 (w'.heap[gb320]? = some (.cells #[.bool a0_0, .string a0_1, (.slice A0_2 l0_2.length c0_2)] 61 (0, 0))) ∧ Aside0 (Below w.heap.size w w'))
  case atStart => exact ⟨(0), (by first | rfl | (simp; done) | (simp [*]; done)), H', ⟨Nat.le_refl _⟩, ⟨by (with_reducible repeat (first | refine blk_drewN ?_ _ | refine blk_drew ?_ | refine blk_alloc ?_ _)); exact BK320.out⟩, ⟨by repeat (first | (with_reducible first | exact HB.out | apply below_alloc | apply pw_below_drewN | apply below_drew1 | refine below_set ?_ GE320.out) | exact HB.out)⟩⟩
  case round =>
    clear H'
    try clear p2
    obtain ⟨x7_1, rfl, HA, HK1, BK320, HB⟩ := hrel
    cases gk with
    | zero => exact absurd HA.out (by simp [spec_l3Earlier.l0])
    | succ k1 =>
      have H := HA.out
      clear HA
      simp only [spec_l3Earlier.l0] at H
      by_cases c5 : x7_1 < a1
      · rw [if_pos c5] at H
        have c5b0 : decide (x7_1 < a1) = true := decide_eq_true c5
        clear c5
        by_cases c6 : 0 ≤ x7_1
        · rw [if_pos c6] at H
          have c6b0 : decide (0 ≤ x7_1) = true := decide_eq_true c6
          clear c6
          by_cases c7 : x7_1 < (l0_2.length : Int)
          · rw [if_pos c7] at H
            have c7b0 : decide (x7_1 < (l0_2.length : Int)) = true := decide_eq_true c7
            clear c7
            by_cases c8 : ((rd_T120 l0_2 x7_1).f0) = 2
            · rw [if_pos c8] at H
              have c8b0 : (((rd_T120 l0_2 x7_1).f0) == 2) = true := beq_iff_eq.mpr c8
              have c8b1 : (((rd_T120 l0_2 x7_1).f0) != 2) = false := bne_eq_false_iff_eq.mpr c8
              clear c8
              by_cases c9 : ((rd_T120 l0_2 x7_1).f2).toList = a2.toList
              · rw [if_pos c9] at H
                have c9b0 : (((rd_T120 l0_2 x7_1).f2).toList == a2.toList) = true := beq_iff_eq.mpr c9
                have c9b1 : (((rd_T120 l0_2 x7_1).f2).toList != a2.toList) = false := bne_eq_false_iff_eq.mpr c9
                clear c9
                obtain rfl := Option.some.inj H
                have hcz10_0 : wr.cell? ⟨gb320, 0, none⟩ = some (.bool a0_0) := (blk_cell BK320.out 0).trans rfl
                have hcz10_1 : wr.cell? ⟨gb320, 1, none⟩ = some (.string a0_1) := (blk_cell BK320.out 1).trans rfl
                have hcz10_2 : wr.cell? ⟨gb320, 2, none⟩ = some (.slice A0_2 l0_2.length c0_2) := (blk_cell BK320.out 2).trans rfl
                have hfz10_0 := blk_frozen BK320.out 0
                have hfz10_1 := blk_frozen BK320.out 1
                have hfz10_2 := blk_frozen BK320.out 2
                have p321 : 0 ≤ (x7_1 : Int) := of_decide_eq_true (by first | (with_reducible assumption) | assumption)
                have q321 : x7_1 < (l0_2.length : Int) := of_decide_eq_true (by first | (with_reducible assumption) | assumption)
                obtain ⟨ad321, e321, hx321_0, hx321_1, hx321_2, hx321_3, hx321_4, hx321_5⟩ := at_T120 HR0_2.out x7_1 p321 q321
                cases e321
                replace hx321_0 := (HB.out.cell (World.block_lt_of_cell? w _ hx321_0)).trans hx321_0
                replace hx321_1 := (HB.out.cell (World.block_lt_of_cell? w _ hx321_1)).trans hx321_1
                replace hx321_2 := (HB.out.cell (World.block_lt_of_cell? w _ hx321_2)).trans hx321_2
                replace hx321_3 := (HB.out.cell (World.block_lt_of_cell? w _ hx321_3)).trans hx321_3
                replace hx321_4 := (HB.out.cell (World.block_lt_of_cell? w _ hx321_4)).trans hx321_4
                replace hx321_5 := (HB.out.cell (World.block_lt_of_cell? w _ hx321_5)).trans hx321_5
                replace p321 := eq_true p321
                replace q321 := eq_true q321
                have p322 : 0 ≤ (x7_1 : Int) := of_decide_eq_true (by first | (with_reducible assumption) | assumption)
                have q322 : x7_1 < (l0_2.length : Int) := of_decide_eq_true (by first | (with_reducible assumption) | assumption)
                obtain ⟨ad322, e322, hx322_0, hx322_1, hx322_2, hx322_3, hx322_4, hx322_5⟩ := at_T120 HR0_2.out x7_1 p322 q322
                obtain rfl : ad321 = ad322 := (by injection e322)
                replace hx322_0 := (HB.out.cell (World.block_lt_of_cell? w _ hx322_0)).trans hx322_0
                replace hx322_1 := (HB.out.cell (World.block_lt_of_cell? w _ hx322_1)).trans hx322_1
                replace hx322_2 := (HB.out.cell (World.block_lt_of_cell? w _ hx322_2)).trans hx322_2
                replace hx322_3 := (HB.out.cell (World.block_lt_of_cell? w _ hx322_3)).trans hx322_3
                replace hx322_4 := (HB.out.cell (World.block_lt_of_cell? w _ hx322_4)).trans hx322_4
                replace hx322_5 := (HB.out.cell (World.block_lt_of_cell? w _ hx322_5)).trans hx322_5
                replace p322 := eq_true p322
                replace q322 := eq_true q322
                go_wp2
                go_ret
                exact ⟨by first | rfl | (simp [errW_none, errW_some] <;> rfl) | (simp [*, errW_none, errW_some] <;> rfl), by repeat (first | (with_reducible first | exact HB.out | apply below_alloc | apply pw_below_drewN | apply below_drew1 | refine below_set ?_ GE320.out) | exact HB.out)⟩
              · rw [if_neg c9] at H
                have c9b0 : (((rd_T120 l0_2 x7_1).f2).toList == a2.toList) = false := beq_eq_false_iff_ne.mpr c9
                have c9b1 : (((rd_T120 l0_2 x7_1).f2).toList != a2.toList) = true := bne_iff_ne.mpr c9
                have H' := Aside0.mk H
                clear H
                have hcz11_0 : wr.cell? ⟨gb320, 0, none⟩ = some (.bool a0_0) := (blk_cell BK320.out 0).trans rfl
                have hcz11_1 : wr.cell? ⟨gb320, 1, none⟩ = some (.string a0_1) := (blk_cell BK320.out 1).trans rfl
                have hcz11_2 : wr.cell? ⟨gb320, 2, none⟩ = some (.slice A0_2 l0_2.length c0_2) := (blk_cell BK320.out 2).trans rfl
                have hfz11_0 := blk_frozen BK320.out 0
                have hfz11_1 := blk_frozen BK320.out 1
                have hfz11_2 := blk_frozen BK320.out 2
                have p321 : 0 ≤ (x7_1 : Int) := of_decide_eq_true (by first | (with_reducible assumption) | assumption)
                have q321 : x7_1 < (l0_2.length : Int) := of_decide_eq_true (by first | (with_reducible assumption) | assumption)
                obtain ⟨ad321, e321, hx321_0, hx321_1, hx321_2, hx321_3, hx321_4, hx321_5⟩ := at_T120 HR0_2.out x7_1 p321 q321
                cases e321
                replace hx321_0 := (HB.out.cell (World.block_lt_of_cell? w _ hx321_0)).trans hx321_0
                replace hx321_1 := (HB.out.cell (World.block_lt_of_cell? w _ hx321_1)).trans hx321_1
                replace hx321_2 := (HB.out.cell (World.block_lt_of_cell? w _ hx321_2)).trans hx321_2
                replace hx321_3 := (HB.out.cell (World.block_lt_of_cell? w _ hx321_3)).trans hx321_3
                replace hx321_4 := (HB.out.cell (World.block_lt_of_cell? w _ hx321_4)).trans hx321_4
                replace hx321_5 := (HB.out.cell (World.block_lt_of_cell? w _ hx321_5)).trans hx321_5
                replace p321 := eq_true p321
                replace q321 := eq_true q321
                have p322 : 0 ≤ (x7_1 : Int) := of_decide_eq_true (by first | (with_reducible assumption) | assumption)
                have q322 : x7_1 < (l0_2.length : Int) := of_decide_eq_true (by first | (with_reducible assumption) | assumption)
                obtain ⟨ad322, e322, hx322_0, hx322_1, hx322_2, hx322_3, hx322_4, hx322_5⟩ := at_T120 HR0_2.out x7_1 p322 q322
                obtain rfl : ad321 = ad322 := (by injection e322)
                replace hx322_0 := (HB.out.cell (World.block_lt_of_cell? w _ hx322_0)).trans hx322_0
                replace hx322_1 := (HB.out.cell (World.block_lt_of_cell? w _ hx322_1)).trans hx322_1
                replace hx322_2 := (HB.out.cell (World.block_lt_of_cell? w _ hx322_2)).trans hx322_2
                replace hx322_3 := (HB.out.cell (World.block_lt_of_cell? w _ hx322_3)).trans hx322_3
                replace hx322_4 := (HB.out.cell (World.block_lt_of_cell? w _ hx322_4)).trans hx322_4
                replace hx322_5 := (HB.out.cell (World.block_lt_of_cell? w _ hx322_5)).trans hx322_5
                replace p322 := eq_true p322
                replace q322 := eq_true q322
                go_wp2
                go_roundg k1
                case measure => have := HK1.out; omega
                case rel => exact ⟨(wrap64 (x7_1 + 1)), (by first | rfl | (simp; done) | (simp [*]; done)), H', ⟨by have := HK1.out; omega⟩, ⟨by (with_reducible repeat (first | refine blk_drewN ?_ _ | refine blk_drew ?_ | refine blk_alloc ?_ _)); exact BK320.out⟩, ⟨by repeat (first | (with_reducible first | exact HB.out | apply below_alloc | apply pw_below_drewN | apply below_drew1 | refine below_set ?_ GE320.out) | exact HB.out)⟩⟩
            · rw [if_neg c8] at H
              have c8b0 : (((rd_T120 l0_2 x7_1).f0) == 2) = false := beq_eq_false_iff_ne.mpr c8
              have c8b1 : (((rd_T120 l0_2 x7_1).f0) != 2) = true := bne_iff_ne.mpr c8
              have H' := Aside0.mk H
              clear H
              have hcz12_0 : wr.cell? ⟨gb320, 0, none⟩ = some (.bool a0_0) := (blk_cell BK320.out 0).trans rfl
              have hcz12_1 : wr.cell? ⟨gb320, 1, none⟩ = some (.string a0_1) := (blk_cell BK320.out 1).trans rfl
              have hcz12_2 : wr.cell? ⟨gb320, 2, none⟩ = some (.slice A0_2 l0_2.length c0_2) := (blk_cell BK320.out 2).trans rfl
              have hfz12_0 := blk_frozen BK320.out 0
              have hfz12_1 := blk_frozen BK320.out 1
              have hfz12_2 := blk_frozen BK320.out 2
              have p321 : 0 ≤ (x7_1 : Int) := of_decide_eq_true (by first | (with_reducible assumption) | assumption)
              have q321 : x7_1 < (l0_2.length : Int) := of_decide_eq_true (by first | (with_reducible assumption) | assumption)
              obtain ⟨ad321, e321, hx321_0, hx321_1, hx321_2, hx321_3, hx321_4, hx321_5⟩ := at_T120 HR0_2.out x7_1 p321 q321
              cases e321
              replace hx321_0 := (HB.out.cell (World.block_lt_of_cell? w _ hx321_0)).trans hx321_0
              replace hx321_1 := (HB.out.cell (World.block_lt_of_cell? w _ hx321_1)).trans hx321_1
              replace hx321_2 := (HB.out.cell (World.block_lt_of_cell? w _ hx321_2)).trans hx321_2
              replace hx321_3 := (HB.out.cell (World.block_lt_of_cell? w _ hx321_3)).trans hx321_3
              replace hx321_4 := (HB.out.cell (World.block_lt_of_cell? w _ hx321_4)).trans hx321_4
              replace hx321_5 := (HB.out.cell (World.block_lt_of_cell? w _ hx321_5)).trans hx321_5
              replace p321 := eq_true p321
              replace q321 := eq_true q321
              go_wp2
              go_roundg k1
              case measure => have := HK1.out; omega
              case rel => exact ⟨(wrap64 (x7_1 + 1)), (by first | rfl | (simp; done) | (simp [*]; done)), H', ⟨by have := HK1.out; omega⟩, ⟨by (with_reducible repeat (first | refine blk_drewN ?_ _ | refine blk_drew ?_ | refine blk_alloc ?_ _)); exact BK320.out⟩, ⟨by repeat (first | (with_reducible first | exact HB.out | apply below_alloc | apply pw_below_drewN | apply below_drew1 | refine below_set ?_ GE320.out) | exact HB.out)⟩⟩
          · rw [if_neg c7] at H
            exact absurd H (by simp)
        · rw [if_neg c6] at H
          exact absurd H (by simp)
      · rw [if_neg c5] at H
        have c5b0 : decide (x7_1 < a1) = false := decide_eq_false c5
        clear c5
        obtain rfl := Option.some.inj H
        go_wp2
        go_ret
        exact ⟨by first | rfl | (simp [errW_none, errW_some] <;> rfl) | (simp [*, errW_none, errW_some] <;> rfl), by repeat (first | (with_reducible first | exact HB.out | apply below_alloc | apply pw_below_drewN | apply below_drew1 | refine below_set ?_ GE320.out) | exact HB.out)⟩
end Go.Proofs.Ytoncacdehhmpaaa.P
namespace Go.Proofs.Ytoncacdehhmpaaa.P
open Go.RowKit Go.Proofs.YtoncacdehhmpaaaW.PrintWords Go.Proofs.YtoncacdehhmpaaaW.PrintLast Go.Proofs.YtoncacdehhmpaaaW.PrintMore
attribute [local go_sem] max2_int min2_int max_two min_two max_three min_three max_four min_four
set_option linter.unusedVariables false
set_option linter.unusedSimpArgs false
mutual
def spec_AlphaOf.l0 : Nat → List (S120) → Int → Int → Bool → ByteArray → List (S120) → ByteArray → Int → List (S106) → Option (ByteArray × Int × (List (S106)))
  | 0, _, _, _, _, _, _, _, _, _ => none
  | k + 1, x18, x19, x20, x324000, x324001, x324002, x327000, x327001, x327002 => if x20 < x19 then (if 0 ≤ x20 then (if x20 < (x18.length : Int) then (if ((rd_T120 x18 x20).f0) = 3 then (spec_AlphaOf.j1 k x20 x18 x19 x20 x324000 x324001 x324002 x327000 x327001 x327002 ((rd_T120 x18 x20).f0) ((rd_T120 x18 x20).f1) ((rd_T120 x18 x20).f2) ((rd_T120 x18 x20).f3.f0) ((rd_T120 x18 x20).f3.f1) ((rd_T120 x18 x20).f3.f2) x20 ((rd_T120 x18 x20).f1) (-1) ((rd_T120 x18 x20).f3.f0) ((rd_T120 x18 x20).f3.f1) ((rd_T120 x18 x20).f3.f2)) else (spec_AlphaOf.j1 k x20 x18 x19 x20 x324000 x324001 x324002 x327000 x327001 x327002 ((rd_T120 x18 x20).f0) ((rd_T120 x18 x20).f1) ((rd_T120 x18 x20).f2) ((rd_T120 x18 x20).f3.f0) ((rd_T120 x18 x20).f3.f1) ((rd_T120 x18 x20).f3.f2) x20 1 (-1) ((rd_T120 x18 x20).f3.f0) ((rd_T120 x18 x20).f3.f1) ((rd_T120 x18 x20).f3.f2))) else (none)) else (none)) else (some (x327000, x327001, x327002))
def spec_AlphaOf.j1 : Nat → Int → List (S120) → Int → Int → Bool → ByteArray → List (S120) → ByteArray → Int → List (S106) → Int → Int → ByteArray → Int → Int → ByteArray → Int → Int → Int → Int → Int → ByteArray → Option (ByteArray × Int × (List (S106)))
  | 0, _, _, _, _, _, _, _, _, _, _, _, _, _, _, _, _, _, _, _, _, _, _ => none
  | k + 1, x4, x18, x19, x20, x324000, x324001, x324002, x327000, x327001, x327002, x329000, x329001, x329002, x329003, x329004, x329005, x330000, x330001, x330002, x330003, x330004, x330005 => if x329000 = 0 then (spec_AlphaOf.l0 k x18 x19 (wrap64 (x20 + 1)) x324000 x324001 x324002 x327000 x327001 x327002) else (if x329002.toList = ([] : List UInt8) then (if x327002.length < 2513169434916 then (spec_AlphaOf.l0 k x18 x19 (wrap64 (x20 + 1)) x324000 x324001 x324002 x327000 x327001 (x327002 ++ [(⟨x330000, x330001, x330002, (⟨x330003, x330004, x330005⟩ : S104)⟩ : S106)])) else (none)) else ((spec_l3Earlier.f k x324000 x324001 x324002 x4 x329002).bind fun t333 => (if t333 < 0 then (spec_AlphaOf.l0 k x18 x19 (wrap64 (x20 + 1)) x324000 x324001 x324002 x327000 x327001 x327002) else (if x327002.length < 2513169434916 then (spec_AlphaOf.l0 k x18 x19 (wrap64 (x20 + 1)) x324000 x324001 x324002 x327000 x327001 (x327002 ++ [(⟨x330000, x330001, t333, (⟨x330003, x330004, x330005⟩ : S104)⟩ : S106)])) else (none)))))
end
def spec_AlphaOf.f (k : Nat) (a0_0 : Bool) (a0_1 : ByteArray) (l0_2 : List (S120)) : Option (ByteArray × Int × (List (S106))) := (spec_l2GoodPat.f k a0_0 a0_1 l0_2).bind fun t325 => (if t325 = true then (spec_AlphaOf.l0 k l0_2 (l0_2.length : Int) 0 a0_0 a0_1 l0_2 a0_1 (l0_2.length : Int) ([] : List (S106))) else (some ((⟨#[]⟩ : ByteArray), 0, ([] : List (S106)))))
theorem spec_AlphaOf.mono_l : ∀ k, (∀ y0 y1 y2 y3 y4 y5 y6 y7 y8, LeO (spec_AlphaOf.l0 k y0 y1 y2 y3 y4 y5 y6 y7 y8) (spec_AlphaOf.l0 (k + 1) y0 y1 y2 y3 y4 y5 y6 y7 y8)) ∧ (∀ y0 y1 y2 y3 y4 y5 y6 y7 y8 y9 y10 y11 y12 y13 y14 y15 y16 y17 y18 y19 y20 y21, LeO (spec_AlphaOf.j1 k y0 y1 y2 y3 y4 y5 y6 y7 y8 y9 y10 y11 y12 y13 y14 y15 y16 y17 y18 y19 y20 y21) (spec_AlphaOf.j1 (k + 1) y0 y1 y2 y3 y4 y5 y6 y7 y8 y9 y10 y11 y12 y13 y14 y15 y16 y17 y18 y19 y20 y21))
  | 0 => ⟨fun _ _ _ _ _ _ _ _ _ r h => by simp [spec_AlphaOf.l0] at h, fun _ _ _ _ _ _ _ _ _ _ _ _ _ _ _ _ _ _ _ _ _ _ r h => by simp [spec_AlphaOf.j1] at h⟩
  | k + 1 => by
    obtain ⟨ih0, ih1⟩ := spec_AlphaOf.mono_l k
    refine ⟨?_, ?_⟩
    · intro y0 y1 y2 y3 y4 y5 y6 y7 y8
      unfold spec_AlphaOf.l0
      repeat' first
      | (with_reducible exact ih0 _ _ _ _ _ _ _ _ _)
      | (with_reducible exact ih1 _ _ _ _ _ _ _ _ _ _ _ _ _ _ _ _ _ _ _ _ _ _)
      | (with_reducible exact spec_l2GoodPat.mono _ _ _ _)
      | (with_reducible exact spec_l3Earlier.mono _ _ _ _ _ _)
      | (with_reducible exact LeO.refl _)
      | (with_reducible exact LeO.none _)
      | (with_reducible refine LeO.ite ?_ ?_)
      | (with_reducible refine LeO.bind ?_ (fun _ => ?_))
      | exact ih0 _ _ _ _ _ _ _ _ _
      | exact ih1 _ _ _ _ _ _ _ _ _ _ _ _ _ _ _ _ _ _ _ _ _ _
      | exact spec_l2GoodPat.mono _ _ _ _
      | exact spec_l3Earlier.mono _ _ _ _ _ _
      | exact LeO.none _
      | refine LeO.ite ?_ ?_
      | refine LeO.bind ?_ (fun _ => ?_)
    · intro y0 y1 y2 y3 y4 y5 y6 y7 y8 y9 y10 y11 y12 y13 y14 y15 y16 y17 y18 y19 y20 y21
      unfold spec_AlphaOf.j1
      repeat' first
      | (with_reducible exact ih0 _ _ _ _ _ _ _ _ _)
      | (with_reducible exact ih1 _ _ _ _ _ _ _ _ _ _ _ _ _ _ _ _ _ _ _ _ _ _)
      | (with_reducible exact spec_l2GoodPat.mono _ _ _ _)
      | (with_reducible exact spec_l3Earlier.mono _ _ _ _ _ _)
      | (with_reducible exact LeO.refl _)
      | (with_reducible exact LeO.none _)
      | (with_reducible refine LeO.ite ?_ ?_)
      | (with_reducible refine LeO.bind ?_ (fun _ => ?_))
      | exact ih0 _ _ _ _ _ _ _ _ _
      | exact ih1 _ _ _ _ _ _ _ _ _ _ _ _ _ _ _ _ _ _ _ _ _ _
      | exact spec_l2GoodPat.mono _ _ _ _
      | exact spec_l3Earlier.mono _ _ _ _ _ _
      | exact LeO.none _
      | refine LeO.ite ?_ ?_
      | refine LeO.bind ?_ (fun _ => ?_)
theorem spec_AlphaOf.mono : ∀ a0 a1 a2 k, LeO (spec_AlphaOf.f k a0 a1 a2) (spec_AlphaOf.f (k + 1) a0 a1 a2) := by
  intro a0 a1 a2 k
  obtain ⟨ih0, ih1⟩ := spec_AlphaOf.mono_l k
  unfold spec_AlphaOf.f
  repeat' first
      | (with_reducible exact ih0 _ _ _ _ _ _ _ _ _)
      | (with_reducible exact ih1 _ _ _ _ _ _ _ _ _ _ _ _ _ _ _ _ _ _ _ _ _ _)
      | (with_reducible exact spec_l2GoodPat.mono _ _ _ _)
      | (with_reducible exact spec_l3Earlier.mono _ _ _ _ _ _)
      | (with_reducible exact LeO.refl _)
      | (with_reducible exact LeO.none _)
      | (with_reducible refine LeO.ite ?_ ?_)
      | (with_reducible refine LeO.bind ?_ (fun _ => ?_))
      | exact ih0 _ _ _ _ _ _ _ _ _
      | exact ih1 _ _ _ _ _ _ _ _ _ _ _ _ _ _ _ _ _ _ _ _ _ _
      | exact spec_l2GoodPat.mono _ _ _ _
      | exact spec_l3Earlier.mono _ _ _ _ _ _
      | exact LeO.none _
      | refine LeO.ite ?_ ?_
      | refine LeO.bind ?_ (fun _ => ?_)
set_option maxHeartbeats 8000000 in
set_option maxRecDepth 100000 in
theorem spec_AlphaOf.calls (k : Nat) (a0_0 : Bool) (a0_1 : ByteArray) (A0_2 : Option Addr) (c0_2 : Nat) (l0_2 : List (S120)) (r1 : ByteArray) (r2 : Int) (r3 : List (S106)) (w : World) (hr0_2 : Kd.C k120 w A0_2 l0_2.length l0_2) (hc0_2 : l0_2.length ≤ c0_2) (h : spec_AlphaOf.f k a0_0 a0_1 l0_2 = some (r1, r2, r3)) :
    Calls Try.prog 24 #[.agg #[.bool a0_0, .string a0_1, .slice A0_2 l0_2.length c0_2]] w fun e w' => ∃ v2_ : Value, e = .returned (.agg #[.string r1, .int .i64 r2, v2_]) ∧ Kd.R k106 106 w' w.heap.size (fun _ => True) v2_ r3 ∧ Below w.heap.size w w' := by
  have hu61 := Try.underlying61
  have hu34 := Try.underlying34
  have hu120 := Try.underlying120
  have hu104 := Try.underlying104
  have hu106 := Try.underlying106
  have HR0_2 := Aside0.mk hr0_2
  have HC0_2 := Aside0.mk hc0_2
  clear hr0_2 hc0_2
  have HB := Aside0.mk (Below.refl w.heap.size w)
  have H : ((spec_l2GoodPat.f k a0_0 a0_1 l0_2).bind fun t325 => (if t325 = true then (spec_AlphaOf.l0 k l0_2 (l0_2.length : Int) 0 a0_0 a0_1 l0_2 a0_1 (l0_2.length : Int) ([] : List (S106))) else (some ((⟨#[]⟩ : ByteArray), 0, ([] : List (S106)))))) = some (r1, r2, r3) := h
  clear h
  replace H := Option.bind_eq_some_iff.mp H
  obtain ⟨t325, A20, H⟩ := H
  replace H : (if t325 = true then (spec_AlphaOf.l0 k l0_2 (l0_2.length : Int) 0 a0_0 a0_1 l0_2 a0_1 (l0_2.length : Int) ([] : List (S106))) else (some ((⟨#[]⟩ : ByteArray), 0, ([] : List (S106))))) = some (r1, r2, r3) := H
  have A2 := Aside0.mk A20
  clear A20
  by_cases c3 : t325 = true
  · subst c3
    have H1 : (spec_AlphaOf.l0 k l0_2 (l0_2.length : Int) 0 a0_0 a0_1 l0_2 a0_1 (l0_2.length : Int) ([] : List (S106))) = some (r1, r2, r3) := by first | (rw [if_pos rfl] at H; exact H) | rfl
    clear H
    have H := H1
    clear H1
    have H' := Aside0.mk H
    clear H
    go_enter Try.func24, Try.ntmps24
    go_wp2_with (first | ((with_reducible refine gate_dst (N := 1) rfl ?_); refine box_event ?hg (N := 1) ?hd (cs := #[.bool a0_0, .string a0_1, .slice A0_2 l0_2.length c0_2]) (t := 61) ?hr ?_; (case hd => rfl); (case hg => rfl); (case hr => first | (go_simp; done) | (go_simp; rfl)); intro gb323 hg w4 hbox hb; have n0_ := Aside0.mk (below_step (by repeat (first | (with_reducible first | exact HB.out | apply below_alloc | apply pw_below_drewN | apply below_drew1) | exact HB.out)) hb); have n1_ := Aside0.mk (hbox); have n2_ := Aside0.mk ((by rw [hg]; exact (below_size (by repeat (first | (with_reducible first | exact HB.out | apply below_alloc | apply pw_below_drewN | apply below_drew1) | exact HB.out))) : w.heap.size ≤ gb323)); have n3_ := Aside0.mk ((by rw [hg]; exact (below_size (by repeat (first | (with_reducible first | exact HB.out | apply below_alloc | apply pw_below_drewN | apply below_drew1) | exact HB.out))) : w.heap.size ≤ gb323)); clear HB; have HB := n0_; have BK323 := n1_; have GW323 := n2_; have GE323 := n3_; clear n0_ n1_ n2_ n3_; clear hb hbox hg) | ((with_reducible refine gate_dst (N := 2) rfl ?_); refine box_event ?hg (N := 2) ?hd (cs := #[.string (⟨#[]⟩ : ByteArray), .int .i64 0, .slice none 0 0]) (t := 34) ?hr ?_; (case hd => rfl); (case hg => rfl); (case hr => first | (go_simp; done) | (go_simp; rfl)); intro gb324 hg w5 hbox hb; have n0_ := Aside0.mk (blk_below (g := gb323) (o := .cells #[.bool a0_0, .string a0_1, .slice A0_2 l0_2.length c0_2] 61 (0, 0)) (by (with_reducible repeat (first | refine blk_drewN ?_ _ | refine blk_drew ?_ | refine blk_alloc ?_ _)); exact BK323.out) hb); have n1_ := Aside0.mk (below_step (by repeat (first | (with_reducible first | exact HB.out | apply below_alloc | apply pw_below_drewN | apply below_drew1 | refine below_set ?_ GE323.out) | exact HB.out)) hb); have n2_ := Aside0.mk (hbox); have n3_ := Aside0.mk ((by rw [hg]; exact (below_size (by repeat (first | (with_reducible first | exact HB.out | apply below_alloc | apply pw_below_drewN | apply below_drew1 | refine below_set ?_ GE323.out) | exact HB.out))) : w.heap.size ≤ gb324)); have n4_ := Aside0.mk ((by rw [hg]; exact (below_size (by repeat (first | (with_reducible first | exact HB.out | apply below_alloc | apply pw_below_drewN | apply below_drew1 | refine below_set ?_ GE323.out) | exact HB.out))) : w.heap.size ≤ gb324)); have n5_ := Aside0.mk ((by rw [hg]; exact Nat.ne_of_lt (blk_lt (g := gb323) (o := .cells #[.bool a0_0, .string a0_1, .slice A0_2 l0_2.length c0_2] 61 (0, 0)) (by (with_reducible repeat (first | refine blk_drewN ?_ _ | refine blk_drew ?_ | refine blk_alloc ?_ _)); exact BK323.out)) : gb323 ≠ gb324)); have n6_ := Aside0.mk ((by rw [hg]; exact Nat.ne_of_gt (blk_lt (g := gb323) (o := .cells #[.bool a0_0, .string a0_1, .slice A0_2 l0_2.length c0_2] 61 (0, 0)) (by (with_reducible repeat (first | refine blk_drewN ?_ _ | refine blk_drew ?_ | refine blk_alloc ?_ _)); exact BK323.out)) : gb324 ≠ gb323)); clear BK323; clear HB; have BK323 := n0_; have HB := n1_; have BK324 := n2_; have GW324 := n3_; have GE324 := n4_; have NB323_324 := n5_; have NB324_323 := n6_; clear n0_ n1_ n2_ n3_ n4_ n5_ n6_; clear hb hbox hg; have hnb6 := NB323_324.out; have hnc6 := NB324_323.out; have hcz7_0 : w5.cell? ⟨gb323, 0, none⟩ = some (.bool a0_0) := (blk_cell BK323.out 0).trans rfl; have hcz7_1 : w5.cell? ⟨gb323, 1, none⟩ = some (.string a0_1) := (blk_cell BK323.out 1).trans rfl; have hcz7_2 : w5.cell? ⟨gb323, 2, none⟩ = some (.slice A0_2 l0_2.length c0_2) := (blk_cell BK323.out 2).trans rfl; have hfz7_0 := blk_frozen BK323.out 0; have hfz7_1 := blk_frozen BK323.out 1; have hfz7_2 := blk_frozen BK323.out 2) | ((with_reducible refine gate_callee (f := 71) rfl ?_); refine goesL_ (some 8) rfl rfl Try.func71 (by kernel_rfl) rfl #[.agg #[.bool a0_0, .string a0_1, .slice A0_2 l0_2.length c0_2]] rfl (by (try simp only [List.map_toArray, List.map_cons, List.map_nil]); first | done | rfl | (simp only [List.length_drop, List.length_take]; rfl)) ?_; (with_reducible refine (spec_l2GoodPat.calls k a0_0 a0_1 _ _ l0_2 true _ ?side1 ?side2 A2.out).mono ?_); (case side1 => repeat (first | exact (Kd.C_below HR0_2.out HB.out) | (with_reducible refine Kd.C_alloc ?_ _) | (with_reducible refine Kd.C_drewN ?_ _) | (with_reducible refine Kd.C_drew ?_))); (case side2 => exact HC0_2.out); rintro e w8 ⟨rfl, hb⟩; refine ⟨_, rfl, ?_⟩; have n0_ := Aside0.mk (blk_below (g := gb323) (o := .cells #[.bool a0_0, .string a0_1, .slice A0_2 l0_2.length c0_2] 61 (0, 0)) (by (with_reducible repeat (first | refine blk_drewN ?_ _ | refine blk_drew ?_ | refine blk_alloc ?_ _)); exact BK323.out) hb); have n1_ := Aside0.mk (blk_below (g := gb324) (o := .cells #[.string (⟨#[]⟩ : ByteArray), .int .i64 0, .slice none 0 0] 34 (0, 0)) (by (with_reducible repeat (first | refine blk_drewN ?_ _ | refine blk_drew ?_ | refine blk_alloc ?_ _)); exact BK324.out) hb); have n2_ := Aside0.mk (below_step (by repeat (first | (with_reducible first | exact HB.out | apply below_alloc | apply pw_below_drewN | apply below_drew1 | refine below_set ?_ GE323.out | refine below_set ?_ GE324.out) | exact HB.out)) hb); clear BK323; clear BK324; clear HB; have BK323 := n0_; have BK324 := n1_; have HB := n2_; clear n0_ n1_ n2_; (try clear hb); (try clear hb2); (try clear hk); (try clear hi); have hcz9_0 : w8.cell? ⟨gb323, 0, none⟩ = some (.bool a0_0) := (blk_cell BK323.out 0).trans rfl; have hcz9_1 : w8.cell? ⟨gb323, 1, none⟩ = some (.string a0_1) := (blk_cell BK323.out 1).trans rfl; have hcz9_2 : w8.cell? ⟨gb323, 2, none⟩ = some (.slice A0_2 l0_2.length c0_2) := (blk_cell BK323.out 2).trans rfl; have hfz9_0 := blk_frozen BK323.out 0; have hfz9_1 := blk_frozen BK323.out 1; have hfz9_2 := blk_frozen BK323.out 2) | ((with_reducible refine gate_dst (N := 3) rfl ?_); refine box_event ?hg (N := 3) ?hd (cs := #[.string (⟨#[]⟩ : ByteArray), .int .i64 0, .slice none 0 0]) (t := 34) ?hr ?_; (case hd => rfl); (case hg => rfl); (case hr => first | (go_simp; done) | (go_simp; rfl)); intro gb326 hg w10 hbox hb; have n0_ := Aside0.mk (blk_below (g := gb323) (o := .cells #[.bool a0_0, .string a0_1, .slice A0_2 l0_2.length c0_2] 61 (0, 0)) (by (with_reducible repeat (first | refine blk_drewN ?_ _ | refine blk_drew ?_ | refine blk_alloc ?_ _)); exact BK323.out) hb); have n1_ := Aside0.mk (blk_below (g := gb324) (o := .cells #[.string (⟨#[]⟩ : ByteArray), .int .i64 0, .slice none 0 0] 34 (0, 0)) (by (with_reducible repeat (first | refine blk_drewN ?_ _ | refine blk_drew ?_ | refine blk_alloc ?_ _)); exact BK324.out) hb); have n2_ := Aside0.mk (below_step (by repeat (first | (with_reducible first | exact HB.out | apply below_alloc | apply pw_below_drewN | apply below_drew1 | refine below_set ?_ GE323.out | refine below_set ?_ GE324.out) | exact HB.out)) hb); have n3_ := Aside0.mk (hbox); have n4_ := Aside0.mk ((by rw [hg]; exact (below_size (by repeat (first | (with_reducible first | exact HB.out | apply below_alloc | apply pw_below_drewN | apply below_drew1 | refine below_set ?_ GE323.out | refine below_set ?_ GE324.out) | exact HB.out))) : w.heap.size ≤ gb326)); have n5_ := Aside0.mk ((by rw [hg]; exact (below_size (by repeat (first | (with_reducible first | exact HB.out | apply below_alloc | apply pw_below_drewN | apply below_drew1 | refine below_set ?_ GE323.out | refine below_set ?_ GE324.out) | exact HB.out))) : w.heap.size ≤ gb326)); have n6_ := Aside0.mk ((by rw [hg]; exact Nat.ne_of_lt (blk_lt (g := gb323) (o := .cells #[.bool a0_0, .string a0_1, .slice A0_2 l0_2.length c0_2] 61 (0, 0)) (by (with_reducible repeat (first | refine blk_drewN ?_ _ | refine blk_drew ?_ | refine blk_alloc ?_ _)); exact BK323.out)) : gb323 ≠ gb326)); have n7_ := Aside0.mk ((by rw [hg]; exact Nat.ne_of_gt (blk_lt (g := gb323) (o := .cells #[.bool a0_0, .string a0_1, .slice A0_2 l0_2.length c0_2] 61 (0, 0)) (by (with_reducible repeat (first | refine blk_drewN ?_ _ | refine blk_drew ?_ | refine blk_alloc ?_ _)); exact BK323.out)) : gb326 ≠ gb323)); have n8_ := Aside0.mk ((by rw [hg]; exact Nat.ne_of_lt (blk_lt (g := gb324) (o := .cells #[.string (⟨#[]⟩ : ByteArray), .int .i64 0, .slice none 0 0] 34 (0, 0)) (by (with_reducible repeat (first | refine blk_drewN ?_ _ | refine blk_drew ?_ | refine blk_alloc ?_ _)); exact BK324.out)) : gb324 ≠ gb326)); have n9_ := Aside0.mk ((by rw [hg]; exact Nat.ne_of_gt (blk_lt (g := gb324) (o := .cells #[.string (⟨#[]⟩ : ByteArray), .int .i64 0, .slice none 0 0] 34 (0, 0)) (by (with_reducible repeat (first | refine blk_drewN ?_ _ | refine blk_drew ?_ | refine blk_alloc ?_ _)); exact BK324.out)) : gb326 ≠ gb324)); clear BK323; clear BK324; clear HB; have BK323 := n0_; have BK324 := n1_; have HB := n2_; have BK326 := n3_; have GW326 := n4_; have GE326 := n5_; have NB323_326 := n6_; have NB326_323 := n7_; have NB324_326 := n8_; have NB326_324 := n9_; clear n0_ n1_ n2_ n3_ n4_ n5_ n6_ n7_ n8_ n9_; clear hb hbox hg; have hnb11 := NB326_323.out; have hnc11 := NB323_326.out; have hnb12 := NB326_324.out; have hnc12 := NB324_326.out; have hcz13_0 : w10.cell? ⟨gb326, 0, none⟩ = some (.string (⟨#[]⟩ : ByteArray)) := (blk_cell BK326.out 0).trans rfl; have hcz13_1 : w10.cell? ⟨gb326, 1, none⟩ = some (.int .i64 0) := (blk_cell BK326.out 1).trans rfl; have hcz13_2 : w10.cell? ⟨gb326, 2, none⟩ = some (.slice none 0 0) := (blk_cell BK326.out 2).trans rfl; have hfz13_0 := blk_frozen BK326.out 0; have hfz13_1 := blk_frozen BK326.out 1; have hfz13_2 := blk_frozen BK326.out 2; have hcz14_0 : w10.cell? ⟨gb323, 0, none⟩ = some (.bool a0_0) := (blk_cell BK323.out 0).trans rfl; have hcz14_1 : w10.cell? ⟨gb323, 1, none⟩ = some (.string a0_1) := (blk_cell BK323.out 1).trans rfl; have hcz14_2 : w10.cell? ⟨gb323, 2, none⟩ = some (.slice A0_2 l0_2.length c0_2) := (blk_cell BK323.out 2).trans rfl; have hfz14_0 := blk_frozen BK323.out 0; have hfz14_1 := blk_frozen BK323.out 1; have hfz14_2 := blk_frozen BK323.out 2))
    go_loopg [20] k (fun kq v20 w' => ∃ (x20_1 : Int) (x327002_1 : List (S106)) (u327002 : Value), v20 = .int .i64 x20_1 ∧ Aside0 (spec_AlphaOf.l0 kq l0_2 (l0_2.length : Int) x20_1 a0_0 a0_1 l0_2 a0_1 (l0_2.length : Int) x327002_1 = some (r1, r2, r3)) ∧ Aside0 (kq ≤ k) ∧ Aside0 (Kd.R k106 106 w' w.heap.size (fun _ => True) u327002 x327002_1) ∧ Aside0 (w'.heap[gb323]? = some (.cells #[.bool a0_0, .string a0_1, (.slice A0_2 l0_2.length c0_2)] 61 (0, 0))) ∧ Aside0 (w'.heap[gb324]? = some (.cells #[.string (⟨#[]⟩ : ByteArray), .int .i64 0, (.slice none 0 0)] 34 (0, 0))) ∧ Aside0 (w'.heap[gb326]? = some (.cells #[.string a0_1, .int .i64 (l0_2.length : Int), u327002] 34 (0, 0))) ∧ Aside0 (Below w.heap.size w w'))
    case atStart => exact ⟨(0), (([] : List (S106))), (.slice none 0 0), (by first | rfl | (simp; done) | (simp [*]; done)), H', ⟨Nat.le_refl _⟩, ⟨by first | exact Kd.R_nil _ _ _ _ _ | exact Kd.N_nil _ _ _ _ _ | exact Kd.V_nil _ _ _ _ _ | exact Kd.Q_nil _ _ _ _ _ | exact Kd.S_nil _ _ _ _ _⟩, ⟨by (with_reducible repeat (first | refine blk_drewN ?_ _ | refine blk_drew ?_ | refine blk_alloc ?_ _)); refine blk_far ?_ NB323_326.out _; (with_reducible repeat (first | refine blk_drewN ?_ _ | refine blk_drew ?_ | refine blk_alloc ?_ _)); refine blk_far ?_ NB323_326.out _; (with_reducible repeat (first | refine blk_drewN ?_ _ | refine blk_drew ?_ | refine blk_alloc ?_ _)); refine blk_far ?_ NB323_326.out _; (with_reducible repeat (first | refine blk_drewN ?_ _ | refine blk_drew ?_ | refine blk_alloc ?_ _)); exact BK323.out⟩, ⟨by (with_reducible repeat (first | refine blk_drewN ?_ _ | refine blk_drew ?_ | refine blk_alloc ?_ _)); refine blk_far ?_ NB324_326.out _; (with_reducible repeat (first | refine blk_drewN ?_ _ | refine blk_drew ?_ | refine blk_alloc ?_ _)); refine blk_far ?_ NB324_326.out _; (with_reducible repeat (first | refine blk_drewN ?_ _ | refine blk_drew ?_ | refine blk_alloc ?_ _)); refine blk_far ?_ NB324_326.out _; (with_reducible repeat (first | refine blk_drewN ?_ _ | refine blk_drew ?_ | refine blk_alloc ?_ _)); exact BK324.out⟩, ⟨by (with_reducible repeat (first | refine blk_drewN ?_ _ | refine blk_drew ?_ | refine blk_alloc ?_ _)); refine blk_put (cs := #[.string a0_1, .int .i64 (l0_2.length : Int), .slice none 0 0]) ?_ 2 _ rfl; (with_reducible repeat (first | refine blk_drewN ?_ _ | refine blk_drew ?_ | refine blk_alloc ?_ _)); refine blk_put (cs := #[.string a0_1, .int .i64 0, .slice none 0 0]) ?_ 1 _ rfl; (with_reducible repeat (first | refine blk_drewN ?_ _ | refine blk_drew ?_ | refine blk_alloc ?_ _)); refine blk_put (cs := #[.string (⟨#[]⟩ : ByteArray), .int .i64 0, .slice none 0 0]) ?_ 0 _ rfl; (with_reducible repeat (first | refine blk_drewN ?_ _ | refine blk_drew ?_ | refine blk_alloc ?_ _)); exact BK326.out⟩, ⟨by repeat (first | (with_reducible first | exact HB.out | apply below_alloc | apply pw_below_drewN | apply below_drew1 | refine below_set ?_ GE323.out | refine below_set ?_ GE324.out | refine below_set ?_ GE326.out) | exact HB.out)⟩⟩
    case round =>
      clear H'
      try clear c1
      try clear c2
      try clear p2
      try clear c3
      try clear c6
      try clear c7
      try clear c11
      try clear c12
      try clear hcz13_0
      try clear hcz13_1
      try clear hcz13_2
      try clear hcz14_0
      try clear hcz14_1
      try clear hcz14_2
      try clear hcz7_0
      try clear hcz7_1
      try clear hcz7_2
      try clear hcz9_0
      try clear hcz9_1
      try clear hcz9_2
      try clear hfz13_0
      try clear hfz13_1
      try clear hfz13_2
      try clear hfz14_0
      try clear hfz14_1
      try clear hfz14_2
      try clear hfz7_0
      try clear hfz7_1
      try clear hfz7_2
      try clear hfz9_0
      try clear hfz9_1
      try clear hfz9_2
      obtain ⟨x20_1, x327002_1, u327002, rfl, HA, HK1, HO_327002, BK323, BK324, BK326, HB⟩ := hrel
      cases gk with
      | zero => exact absurd HA.out (by simp [spec_AlphaOf.l0])
      | succ k1 =>
        have H := HA.out
        clear HA
        simp only [spec_AlphaOf.l0] at H
        by_cases c15 : x20_1 < (l0_2.length : Int)
        · rw [if_pos c15] at H
          have c15b0 : decide (x20_1 < (l0_2.length : Int)) = true := decide_eq_true c15
          clear c15
          by_cases c16 : 0 ≤ x20_1
          · rw [if_pos c16] at H
            have c16b0 : decide (0 ≤ x20_1) = true := decide_eq_true c16
            clear c16
            by_cases c17 : x20_1 < (l0_2.length : Int)
            · rw [if_pos c17] at H
              have c17b0 : decide (x20_1 < (l0_2.length : Int)) = true := decide_eq_true c17
              clear c17
              have HC18 := Aside0.mk H
              clear H
              have p327 : 0 ≤ (x20_1 : Int) := of_decide_eq_true (by first | (with_reducible assumption) | assumption)
              have q327 : x20_1 < (l0_2.length : Int) := of_decide_eq_true (by first | (with_reducible assumption) | assumption)
              obtain ⟨ad327, e327, hx327_0, hx327_1, hx327_2, hx327_3, hx327_4, hx327_5⟩ := at_T120 HR0_2.out x20_1 p327 q327
              cases e327
              replace hx327_0 := (HB.out.cell (World.block_lt_of_cell? w _ hx327_0)).trans hx327_0
              replace hx327_1 := (HB.out.cell (World.block_lt_of_cell? w _ hx327_1)).trans hx327_1
              replace hx327_2 := (HB.out.cell (World.block_lt_of_cell? w _ hx327_2)).trans hx327_2
              replace hx327_3 := (HB.out.cell (World.block_lt_of_cell? w _ hx327_3)).trans hx327_3
              replace hx327_4 := (HB.out.cell (World.block_lt_of_cell? w _ hx327_4)).trans hx327_4
              replace hx327_5 := (HB.out.cell (World.block_lt_of_cell? w _ hx327_5)).trans hx327_5
              replace p327 := eq_true p327
              replace q327 := eq_true q327
              go_upto_if 31 with (first | ((with_reducible refine gate_dst (N := 5) rfl ?_); refine box_event ?hg (N := 5) ?hd (cs := #[.int .i64 0, .int .i64 0, .string (⟨#[]⟩ : ByteArray), .int .i64 0, .int .i64 0, .string (⟨#[]⟩ : ByteArray)]) (t := 120) ?hr ?_; (case hd => rfl); (case hg => rfl); (case hr => first | (go_simp; done) | (go_simp; rfl)); intro gb328 hg w19 hbox hb; have n0_ := Aside0.mk (Kd.R_below (by (with_reducible repeat (first | apply Kd.R_alloc | apply Kd.R_drewN | apply Kd.R_drew)); exact HO_327002.out) hb); have n1_ := Aside0.mk (blk_below (g := gb323) (o := .cells #[.bool a0_0, .string a0_1, .slice (some ad327) l0_2.length c0_2] 61 (0, 0)) (by (with_reducible repeat (first | refine blk_drewN ?_ _ | refine blk_drew ?_ | refine blk_alloc ?_ _)); exact BK323.out) hb); have n2_ := Aside0.mk (blk_below (g := gb324) (o := .cells #[.string (⟨#[]⟩ : ByteArray), .int .i64 0, .slice none 0 0] 34 (0, 0)) (by (with_reducible repeat (first | refine blk_drewN ?_ _ | refine blk_drew ?_ | refine blk_alloc ?_ _)); exact BK324.out) hb); have n3_ := Aside0.mk (blk_below (g := gb326) (o := .cells #[.string a0_1, .int .i64 (l0_2.length : Int), u327002] 34 (0, 0)) (by (with_reducible repeat (first | refine blk_drewN ?_ _ | refine blk_drew ?_ | refine blk_alloc ?_ _)); exact BK326.out) hb); have n4_ := Aside0.mk (below_step (by repeat (first | (with_reducible first | exact HB.out | apply below_alloc | apply pw_below_drewN | apply below_drew1 | refine below_set ?_ GE323.out | refine below_set ?_ GE324.out | refine below_set ?_ GE326.out) | exact HB.out)) hb); have n5_ := Aside0.mk (hbox); have n6_ := Aside0.mk ((by rw [hg]; exact (below_size (by repeat (first | (with_reducible first | exact HB.out | apply below_alloc | apply pw_below_drewN | apply below_drew1 | refine below_set ?_ GE323.out | refine below_set ?_ GE324.out | refine below_set ?_ GE326.out) | exact HB.out))) : w.heap.size ≤ gb328)); have n7_ := Aside0.mk ((by rw [hg]; exact (below_size (by repeat (first | (with_reducible first | exact HB.out | apply below_alloc | apply pw_below_drewN | apply below_drew1 | refine below_set ?_ GE323.out | refine below_set ?_ GE324.out | refine below_set ?_ GE326.out) | exact HB.out))) : w.heap.size ≤ gb328)); have n8_ := Aside0.mk ((by rw [hg]; exact Nat.ne_of_lt (blk_lt (g := gb323) (o := .cells #[.bool a0_0, .string a0_1, .slice (some ad327) l0_2.length c0_2] 61 (0, 0)) (by (with_reducible repeat (first | refine blk_drewN ?_ _ | refine blk_drew ?_ | refine blk_alloc ?_ _)); exact BK323.out)) : gb323 ≠ gb328)); have n9_ := Aside0.mk ((by rw [hg]; exact Nat.ne_of_gt (blk_lt (g := gb323) (o := .cells #[.bool a0_0, .string a0_1, .slice (some ad327) l0_2.length c0_2] 61 (0, 0)) (by (with_reducible repeat (first | refine blk_drewN ?_ _ | refine blk_drew ?_ | refine blk_alloc ?_ _)); exact BK323.out)) : gb328 ≠ gb323)); have n10_ := Aside0.mk ((by rw [hg]; exact Nat.ne_of_lt (blk_lt (g := gb324) (o := .cells #[.string (⟨#[]⟩ : ByteArray), .int .i64 0, .slice none 0 0] 34 (0, 0)) (by (with_reducible repeat (first | refine blk_drewN ?_ _ | refine blk_drew ?_ | refine blk_alloc ?_ _)); exact BK324.out)) : gb324 ≠ gb328)); have n11_ := Aside0.mk ((by rw [hg]; exact Nat.ne_of_gt (blk_lt (g := gb324) (o := .cells #[.string (⟨#[]⟩ : ByteArray), .int .i64 0, .slice none 0 0] 34 (0, 0)) (by (with_reducible repeat (first | refine blk_drewN ?_ _ | refine blk_drew ?_ | refine blk_alloc ?_ _)); exact BK324.out)) : gb328 ≠ gb324)); have n12_ := Aside0.mk ((by rw [hg]; exact Nat.ne_of_lt (blk_lt (g := gb326) (o := .cells #[.string a0_1, .int .i64 (l0_2.length : Int), u327002] 34 (0, 0)) (by (with_reducible repeat (first | refine blk_drewN ?_ _ | refine blk_drew ?_ | refine blk_alloc ?_ _)); exact BK326.out)) : gb326 ≠ gb328)); have n13_ := Aside0.mk ((by rw [hg]; exact Nat.ne_of_gt (blk_lt (g := gb326) (o := .cells #[.string a0_1, .int .i64 (l0_2.length : Int), u327002] 34 (0, 0)) (by (with_reducible repeat (first | refine blk_drewN ?_ _ | refine blk_drew ?_ | refine blk_alloc ?_ _)); exact BK326.out)) : gb328 ≠ gb326)); clear HO_327002; clear BK323; clear BK324; clear BK326; clear HB; have HO_327002 := n0_; have BK323 := n1_; have BK324 := n2_; have BK326 := n3_; have HB := n4_; have BK328 := n5_; have GW328 := n6_; have GE328 := n7_; have NB323_328 := n8_; have NB328_323 := n9_; have NB324_328 := n10_; have NB328_324 := n11_; have NB326_328 := n12_; have NB328_326 := n13_; clear n0_ n1_ n2_ n3_ n4_ n5_ n6_ n7_ n8_ n9_ n10_ n11_ n12_ n13_; clear hb hbox hg; have hnb20 := NB328_323.out; have hnc20 := NB323_328.out; have hnb21 := NB328_324.out; have hnc21 := NB324_328.out; have hnb22 := NB328_326.out; have hnc22 := NB326_328.out; have hcz23_0 : w19.cell? ⟨gb328, 0, none⟩ = some (.int .i64 0) := (blk_cell BK328.out 0).trans rfl; have hcz23_1 : w19.cell? ⟨gb328, 1, none⟩ = some (.int .i64 0) := (blk_cell BK328.out 1).trans rfl; have hcz23_2 : w19.cell? ⟨gb328, 2, none⟩ = some (.string (⟨#[]⟩ : ByteArray)) := (blk_cell BK328.out 2).trans rfl; have hcz23_3 : w19.cell? ⟨gb328, 3, none⟩ = some (.int .i64 0) := (blk_cell BK328.out 3).trans rfl; have hcz23_4 : w19.cell? ⟨gb328, 4, none⟩ = some (.int .i64 0) := (blk_cell BK328.out 4).trans rfl; have hcz23_5 : w19.cell? ⟨gb328, 5, none⟩ = some (.string (⟨#[]⟩ : ByteArray)) := (blk_cell BK328.out 5).trans rfl; have hfz23_0 := blk_frozen BK328.out 0; have hfz23_1 := blk_frozen BK328.out 1; have hfz23_2 := blk_frozen BK328.out 2; have hfz23_3 := blk_frozen BK328.out 3; have hfz23_4 := blk_frozen BK328.out 4; have hfz23_5 := blk_frozen BK328.out 5) | ((with_reducible refine gate_dst (N := 6) rfl ?_); refine box_event ?hg (N := 6) ?hd (cs := #[.int .i64 0, .int .i64 0, .int .i64 0, .int .i64 0, .int .i64 0, .string (⟨#[]⟩ : ByteArray)]) (t := 106) ?hr ?_; (case hd => rfl); (case hg => rfl); (case hr => first | (go_simp; done) | (go_simp; rfl)); intro gb329 hg w24 hbox hb; have n0_ := Aside0.mk (Kd.R_below (Kd.R_elderB (by (with_reducible repeat (first | apply Kd.R_alloc | apply Kd.R_drewN | apply Kd.R_drew)); exact (Kd.R_mono (Kd.R_far (p := ⟨gb328, 5, none⟩) (Kd.R_far (p := ⟨gb328, 4, none⟩) (Kd.R_far (p := ⟨gb328, 3, none⟩) (Kd.R_far (p := ⟨gb328, 2, none⟩) (Kd.R_far (p := ⟨gb328, 1, none⟩) (Kd.R_far (p := ⟨gb328, 0, none⟩) (Kd.R_types HO_327002.out BK328.out (by decide)) (fun _ hk => hk.2) (.int .i64 ((rd_T120 l0_2 x20_1).f0))) (fun _ hk => hk.2) (.int .i64 ((rd_T120 l0_2 x20_1).f1))) (fun _ hk => hk.2) (.string ((rd_T120 l0_2 x20_1).f2))) (fun _ hk => hk.2) (.int .i64 ((rd_T120 l0_2 x20_1).f3.f0))) (fun _ hk => hk.2) (.int .i64 ((rd_T120 l0_2 x20_1).f3.f1))) (fun _ hk => hk.2) (.string ((rd_T120 l0_2 x20_1).f3.f2))) (fun _ h_ => h_.1))) gb329 (Nat.le_of_eq hg.symm)) hb); have n1_ := Aside0.mk (blk_below (g := gb323) (o := .cells #[.bool a0_0, .string a0_1, .slice (some ad327) l0_2.length c0_2] 61 (0, 0)) (by (with_reducible repeat (first | refine blk_drewN ?_ _ | refine blk_drew ?_ | refine blk_alloc ?_ _)); refine blk_far ?_ NB323_328.out _; (with_reducible repeat (first | refine blk_drewN ?_ _ | refine blk_drew ?_ | refine blk_alloc ?_ _)); refine blk_far ?_ NB323_328.out _; (with_reducible repeat (first | refine blk_drewN ?_ _ | refine blk_drew ?_ | refine blk_alloc ?_ _)); refine blk_far ?_ NB323_328.out _; (with_reducible repeat (first | refine blk_drewN ?_ _ | refine blk_drew ?_ | refine blk_alloc ?_ _)); refine blk_far ?_ NB323_328.out _; (with_reducible repeat (first | refine blk_drewN ?_ _ | refine blk_drew ?_ | refine blk_alloc ?_ _)); refine blk_far ?_ NB323_328.out _; (with_reducible repeat (first | refine blk_drewN ?_ _ | refine blk_drew ?_ | refine blk_alloc ?_ _)); refine blk_far ?_ NB323_328.out _; (with_reducible repeat (first | refine blk_drewN ?_ _ | refine blk_drew ?_ | refine blk_alloc ?_ _)); exact BK323.out) hb); have n2_ := Aside0.mk (blk_below (g := gb324) (o := .cells #[.string (⟨#[]⟩ : ByteArray), .int .i64 0, .slice none 0 0] 34 (0, 0)) (by (with_reducible repeat (first | refine blk_drewN ?_ _ | refine blk_drew ?_ | refine blk_alloc ?_ _)); refine blk_far ?_ NB324_328.out _; (with_reducible repeat (first | refine blk_drewN ?_ _ | refine blk_drew ?_ | refine blk_alloc ?_ _)); refine blk_far ?_ NB324_328.out _; (with_reducible repeat (first | refine blk_drewN ?_ _ | refine blk_drew ?_ | refine blk_alloc ?_ _)); refine blk_far ?_ NB324_328.out _; (with_reducible repeat (first | refine blk_drewN ?_ _ | refine blk_drew ?_ | refine blk_alloc ?_ _)); refine blk_far ?_ NB324_328.out _; (with_reducible repeat (first | refine blk_drewN ?_ _ | refine blk_drew ?_ | refine blk_alloc ?_ _)); refine blk_far ?_ NB324_328.out _; (with_reducible repeat (first | refine blk_drewN ?_ _ | refine blk_drew ?_ | refine blk_alloc ?_ _)); refine blk_far ?_ NB324_328.out _; (with_reducible repeat (first | refine blk_drewN ?_ _ | refine blk_drew ?_ | refine blk_alloc ?_ _)); exact BK324.out) hb); have n3_ := Aside0.mk (blk_below (g := gb326) (o := .cells #[.string a0_1, .int .i64 (l0_2.length : Int), u327002] 34 (0, 0)) (by (with_reducible repeat (first | refine blk_drewN ?_ _ | refine blk_drew ?_ | refine blk_alloc ?_ _)); refine blk_far ?_ NB326_328.out _; (with_reducible repeat (first | refine blk_drewN ?_ _ | refine blk_drew ?_ | refine blk_alloc ?_ _)); refine blk_far ?_ NB326_328.out _; (with_reducible repeat (first | refine blk_drewN ?_ _ | refine blk_drew ?_ | refine blk_alloc ?_ _)); refine blk_far ?_ NB326_328.out _; (with_reducible repeat (first | refine blk_drewN ?_ _ | refine blk_drew ?_ | refine blk_alloc ?_ _)); refine blk_far ?_ NB326_328.out _; (with_reducible repeat (first | refine blk_drewN ?_ _ | refine blk_drew ?_ | refine blk_alloc ?_ _)); refine blk_far ?_ NB326_328.out _; (with_reducible repeat (first | refine blk_drewN ?_ _ | refine blk_drew ?_ | refine blk_alloc ?_ _)); refine blk_far ?_ NB326_328.out _; (with_reducible repeat (first | refine blk_drewN ?_ _ | refine blk_drew ?_ | refine blk_alloc ?_ _)); exact BK326.out) hb); have n4_ := Aside0.mk (blk_below (g := gb328) (o := .cells #[.int .i64 ((rd_T120 l0_2 x20_1).f0), .int .i64 ((rd_T120 l0_2 x20_1).f1), .string ((rd_T120 l0_2 x20_1).f2), .int .i64 ((rd_T120 l0_2 x20_1).f3.f0), .int .i64 ((rd_T120 l0_2 x20_1).f3.f1), .string ((rd_T120 l0_2 x20_1).f3.f2)] 120 (0, 0)) (by (with_reducible repeat (first | refine blk_drewN ?_ _ | refine blk_drew ?_ | refine blk_alloc ?_ _)); refine blk_put (cs := #[.int .i64 ((rd_T120 l0_2 x20_1).f0), .int .i64 ((rd_T120 l0_2 x20_1).f1), .string ((rd_T120 l0_2 x20_1).f2), .int .i64 ((rd_T120 l0_2 x20_1).f3.f0), .int .i64 ((rd_T120 l0_2 x20_1).f3.f1), .string (⟨#[]⟩ : ByteArray)]) ?_ 5 _ rfl; (with_reducible repeat (first | refine blk_drewN ?_ _ | refine blk_drew ?_ | refine blk_alloc ?_ _)); refine blk_put (cs := #[.int .i64 ((rd_T120 l0_2 x20_1).f0), .int .i64 ((rd_T120 l0_2 x20_1).f1), .string ((rd_T120 l0_2 x20_1).f2), .int .i64 ((rd_T120 l0_2 x20_1).f3.f0), .int .i64 0, .string (⟨#[]⟩ : ByteArray)]) ?_ 4 _ rfl; (with_reducible repeat (first | refine blk_drewN ?_ _ | refine blk_drew ?_ | refine blk_alloc ?_ _)); refine blk_put (cs := #[.int .i64 ((rd_T120 l0_2 x20_1).f0), .int .i64 ((rd_T120 l0_2 x20_1).f1), .string ((rd_T120 l0_2 x20_1).f2), .int .i64 0, .int .i64 0, .string (⟨#[]⟩ : ByteArray)]) ?_ 3 _ rfl; (with_reducible repeat (first | refine blk_drewN ?_ _ | refine blk_drew ?_ | refine blk_alloc ?_ _)); refine blk_put (cs := #[.int .i64 ((rd_T120 l0_2 x20_1).f0), .int .i64 ((rd_T120 l0_2 x20_1).f1), .string (⟨#[]⟩ : ByteArray), .int .i64 0, .int .i64 0, .string (⟨#[]⟩ : ByteArray)]) ?_ 2 _ rfl; (with_reducible repeat (first | refine blk_drewN ?_ _ | refine blk_drew ?_ | refine blk_alloc ?_ _)); refine blk_put (cs := #[.int .i64 ((rd_T120 l0_2 x20_1).f0), .int .i64 0, .string (⟨#[]⟩ : ByteArray), .int .i64 0, .int .i64 0, .string (⟨#[]⟩ : ByteArray)]) ?_ 1 _ rfl; (with_reducible repeat (first | refine blk_drewN ?_ _ | refine blk_drew ?_ | refine blk_alloc ?_ _)); refine blk_put (cs := #[.int .i64 0, .int .i64 0, .string (⟨#[]⟩ : ByteArray), .int .i64 0, .int .i64 0, .string (⟨#[]⟩ : ByteArray)]) ?_ 0 _ rfl; (with_reducible repeat (first | refine blk_drewN ?_ _ | refine blk_drew ?_ | refine blk_alloc ?_ _)); exact BK328.out) hb); have n5_ := Aside0.mk (below_step (by repeat (first | (with_reducible first | exact HB.out | apply below_alloc | apply pw_below_drewN | apply below_drew1 | refine below_set ?_ GE323.out | refine below_set ?_ GE324.out | refine below_set ?_ GE326.out | refine below_set ?_ GE328.out) | exact HB.out)) hb); have n6_ := Aside0.mk (hbox); have n7_ := Aside0.mk ((by rw [hg]; exact (below_size (by repeat (first | (with_reducible first | exact HB.out | apply below_alloc | apply pw_below_drewN | apply below_drew1 | refine below_set ?_ GE323.out | refine below_set ?_ GE324.out | refine below_set ?_ GE326.out | refine below_set ?_ GE328.out) | exact HB.out))) : w.heap.size ≤ gb329)); have n8_ := Aside0.mk ((by rw [hg]; exact (below_size (by repeat (first | (with_reducible first | exact HB.out | apply below_alloc | apply pw_below_drewN | apply below_drew1 | refine below_set ?_ GE323.out | refine below_set ?_ GE324.out | refine below_set ?_ GE326.out | refine below_set ?_ GE328.out) | exact HB.out))) : w.heap.size ≤ gb329)); have n9_ := Aside0.mk ((by rw [hg]; exact Nat.ne_of_lt (blk_lt (g := gb323) (o := .cells #[.bool a0_0, .string a0_1, .slice (some ad327) l0_2.length c0_2] 61 (0, 0)) (by (with_reducible repeat (first | refine blk_drewN ?_ _ | refine blk_drew ?_ | refine blk_alloc ?_ _)); refine blk_far ?_ NB323_328.out _; (with_reducible repeat (first | refine blk_drewN ?_ _ | refine blk_drew ?_ | refine blk_alloc ?_ _)); refine blk_far ?_ NB323_328.out _; (with_reducible repeat (first | refine blk_drewN ?_ _ | refine blk_drew ?_ | refine blk_alloc ?_ _)); refine blk_far ?_ NB323_328.out _; (with_reducible repeat (first | refine blk_drewN ?_ _ | refine blk_drew ?_ | refine blk_alloc ?_ _)); refine blk_far ?_ NB323_328.out _; (with_reducible repeat (first | refine blk_drewN ?_ _ | refine blk_drew ?_ | refine blk_alloc ?_ _)); refine blk_far ?_ NB323_328.out _; (with_reducible repeat (first | refine blk_drewN ?_ _ | refine blk_drew ?_ | refine blk_alloc ?_ _)); refine blk_far ?_ NB323_328.out _; (with_reducible repeat (first | refine blk_drewN ?_ _ | refine blk_drew ?_ | refine blk_alloc ?_ _)); exact BK323.out)) : gb323 ≠ gb329)); have n10_ := Aside0.mk ((by rw [hg]; exact Nat.ne_of_gt (blk_lt (g := gb323) (o := .cells #[.bool a0_0, .string a0_1, .slice (some ad327) l0_2.length c0_2] 61 (0, 0)) (by (with_reducible repeat (first | refine blk_drewN ?_ _ | refine blk_drew ?_ | refine blk_alloc ?_ _)); refine blk_far ?_ NB323_328.out _; (with_reducible repeat (first | refine blk_drewN ?_ _ | refine blk_drew ?_ | refine blk_alloc ?_ _)); refine blk_far ?_ NB323_328.out _; (with_reducible repeat (first | refine blk_drewN ?_ _ | refine blk_drew ?_ | refine blk_alloc ?_ _)); refine blk_far ?_ NB323_328.out _; (with_reducible repeat (first | refine blk_drewN ?_ _ | refine blk_drew ?_ | refine blk_alloc ?_ _)); refine blk_far ?_ NB323_328.out _; (with_reducible repeat (first | refine blk_drewN ?_ _ | refine blk_drew ?_ | refine blk_alloc ?_ _)); refine blk_far ?_ NB323_328.out _; (with_reducible repeat (first | refine blk_drewN ?_ _ | refine blk_drew ?_ | refine blk_alloc ?_ _)); refine blk_far ?_ NB323_328.out _; (with_reducible repeat (first | refine blk_drewN ?_ _ | refine blk_drew ?_ | refine blk_alloc ?_ _)); exact BK323.out)) : gb329 ≠ gb323)); have n11_ := Aside0.mk ((by rw [hg]; exact Nat.ne_of_lt (blk_lt (g := gb324) (o := .cells #[.string (⟨#[]⟩ : ByteArray), .int .i64 0, .slice none 0 0] 34 (0, 0)) (by (with_reducible repeat (first | refine blk_drewN ?_ _ | refine blk_drew ?_ | refine blk_alloc ?_ _)); refine blk_far ?_ NB324_328.out _; (with_reducible repeat (first | refine blk_drewN ?_ _ | refine blk_drew ?_ | refine blk_alloc ?_ _)); refine blk_far ?_ NB324_328.out _; (with_reducible repeat (first | refine blk_drewN ?_ _ | refine blk_drew ?_ | refine blk_alloc ?_ _)); refine blk_far ?_ NB324_328.out _; (with_reducible repeat (first | refine blk_drewN ?_ _ | refine blk_drew ?_ | refine blk_alloc ?_ _)); refine blk_far ?_ NB324_328.out _; (with_reducible repeat (first | refine blk_drewN ?_ _ | refine blk_drew ?_ | refine blk_alloc ?_ _)); refine blk_far ?_ NB324_328.out _; (with_reducible repeat (first | refine blk_drewN ?_ _ | refine blk_drew ?_ | refine blk_alloc ?_ _)); refine blk_far ?_ NB324_328.out _; (with_reducible repeat (first | refine blk_drewN ?_ _ | refine blk_drew ?_ | refine blk_alloc ?_ _)); exact BK324.out)) : gb324 ≠ gb329)); have n12_ := Aside0.mk ((by rw [hg]; exact Nat.ne_of_gt (blk_lt (g := gb324) (o := .cells #[.string (⟨#[]⟩ : ByteArray), .int .i64 0, .slice none 0 0] 34 (0, 0)) (by (with_reducible repeat (first | refine blk_drewN ?_ _ | refine blk_drew ?_ | refine blk_alloc ?_ _)); refine blk_far ?_ NB324_328.out _; (with_reducible repeat (first | refine blk_drewN ?_ _ | refine blk_drew ?_ | refine blk_alloc ?_ _)); refine blk_far ?_ NB324_328.out _; (with_reducible repeat (first | refine blk_drewN ?_ _ | refine blk_drew ?_ | refine blk_alloc ?_ _)); refine blk_far ?_ NB324_328.out _; (with_reducible repeat (first | refine blk_drewN ?_ _ | refine blk_drew ?_ | refine blk_alloc ?_ _)); refine blk_far ?_ NB324_328.out _; (with_reducible repeat (first | refine blk_drewN ?_ _ | refine blk_drew ?_ | refine blk_alloc ?_ _)); refine blk_far ?_ NB324_328.out _; (with_reducible repeat (first | refine blk_drewN ?_ _ | refine blk_drew ?_ | refine blk_alloc ?_ _)); refine blk_far ?_ NB324_328.out _; (with_reducible repeat (first | refine blk_drewN ?_ _ | refine blk_drew ?_ | refine blk_alloc ?_ _)); exact BK324.out)) : gb329 ≠ gb324)); have n13_ := Aside0.mk ((by rw [hg]; exact Nat.ne_of_lt (blk_lt (g := gb326) (o := .cells #[.string a0_1, .int .i64 (l0_2.length : Int), u327002] 34 (0, 0)) (by (with_reducible repeat (first | refine blk_drewN ?_ _ | refine blk_drew ?_ | refine blk_alloc ?_ _)); refine blk_far ?_ NB326_328.out _; (with_reducible repeat (first | refine blk_drewN ?_ _ | refine blk_drew ?_ | refine blk_alloc ?_ _)); refine blk_far ?_ NB326_328.out _; (with_reducible repeat (first | refine blk_drewN ?_ _ | refine blk_drew ?_ | refine blk_alloc ?_ _)); refine blk_far ?_ NB326_328.out _; (with_reducible repeat (first | refine blk_drewN ?_ _ | refine blk_drew ?_ | refine blk_alloc ?_ _)); refine blk_far ?_ NB326_328.out _; (with_reducible repeat (first | refine blk_drewN ?_ _ | refine blk_drew ?_ | refine blk_alloc ?_ _)); refine blk_far ?_ NB326_328.out _; (with_reducible repeat (first | refine blk_drewN ?_ _ | refine blk_drew ?_ | refine blk_alloc ?_ _)); refine blk_far ?_ NB326_328.out _; (with_reducible repeat (first | refine blk_drewN ?_ _ | refine blk_drew ?_ | refine blk_alloc ?_ _)); exact BK326.out)) : gb326 ≠ gb329)); have n14_ := Aside0.mk ((by rw [hg]; exact Nat.ne_of_gt (blk_lt (g := gb326) (o := .cells #[.string a0_1, .int .i64 (l0_2.length : Int), u327002] 34 (0, 0)) (by (with_reducible repeat (first | refine blk_drewN ?_ _ | refine blk_drew ?_ | refine blk_alloc ?_ _)); refine blk_far ?_ NB326_328.out _; (with_reducible repeat (first | refine blk_drewN ?_ _ | refine blk_drew ?_ | refine blk_alloc ?_ _)); refine blk_far ?_ NB326_328.out _; (with_reducible repeat (first | refine blk_drewN ?_ _ | refine blk_drew ?_ | refine blk_alloc ?_ _)); refine blk_far ?_ NB326_328.out _; (with_reducible repeat (first | refine blk_drewN ?_ _ | refine blk_drew ?_ | refine blk_alloc ?_ _)); refine blk_far ?_ NB326_328.out _; (with_reducible repeat (first | refine blk_drewN ?_ _ | refine blk_drew ?_ | refine blk_alloc ?_ _)); refine blk_far ?_ NB326_328.out _; (with_reducible repeat (first | refine blk_drewN ?_ _ | refine blk_drew ?_ | refine blk_alloc ?_ _)); refine blk_far ?_ NB326_328.out _; (with_reducible repeat (first | refine blk_drewN ?_ _ | refine blk_drew ?_ | refine blk_alloc ?_ _)); exact BK326.out)) : gb329 ≠ gb326)); have n15_ := Aside0.mk ((by rw [hg]; exact Nat.ne_of_lt (blk_lt (g := gb328) (o := .cells #[.int .i64 ((rd_T120 l0_2 x20_1).f0), .int .i64 ((rd_T120 l0_2 x20_1).f1), .string ((rd_T120 l0_2 x20_1).f2), .int .i64 ((rd_T120 l0_2 x20_1).f3.f0), .int .i64 ((rd_T120 l0_2 x20_1).f3.f1), .string ((rd_T120 l0_2 x20_1).f3.f2)] 120 (0, 0)) (by (with_reducible repeat (first | refine blk_drewN ?_ _ | refine blk_drew ?_ | refine blk_alloc ?_ _)); refine blk_put (cs := #[.int .i64 ((rd_T120 l0_2 x20_1).f0), .int .i64 ((rd_T120 l0_2 x20_1).f1), .string ((rd_T120 l0_2 x20_1).f2), .int .i64 ((rd_T120 l0_2 x20_1).f3.f0), .int .i64 ((rd_T120 l0_2 x20_1).f3.f1), .string (⟨#[]⟩ : ByteArray)]) ?_ 5 _ rfl; (with_reducible repeat (first | refine blk_drewN ?_ _ | refine blk_drew ?_ | refine blk_alloc ?_ _)); refine blk_put (cs := #[.int .i64 ((rd_T120 l0_2 x20_1).f0), .int .i64 ((rd_T120 l0_2 x20_1).f1), .string ((rd_T120 l0_2 x20_1).f2), .int .i64 ((rd_T120 l0_2 x20_1).f3.f0), .int .i64 0, .string (⟨#[]⟩ : ByteArray)]) ?_ 4 _ rfl; (with_reducible repeat (first | refine blk_drewN ?_ _ | refine blk_drew ?_ | refine blk_alloc ?_ _)); refine blk_put (cs := #[.int .i64 ((rd_T120 l0_2 x20_1).f0), .int .i64 ((rd_T120 l0_2 x20_1).f1), .string ((rd_T120 l0_2 x20_1).f2), .int .i64 0, .int .i64 0, .string (⟨#[]⟩ : ByteArray)]) ?_ 3 _ rfl; (with_reducible repeat (first | refine blk_drewN ?_ _ | refine blk_drew ?_ | refine blk_alloc ?_ _)); refine blk_put (cs := #[.int .i64 ((rd_T120 l0_2 x20_1).f0), .int .i64 ((rd_T120 l0_2 x20_1).f1), .string (⟨#[]⟩ : ByteArray), .int .i64 0, .int .i64 0, .string (⟨#[]⟩ : ByteArray)]) ?_ 2 _ rfl; (with_reducible repeat (first | refine blk_drewN ?_ _ | refine blk_drew ?_ | refine blk_alloc ?_ _)); refine blk_put (cs := #[.int .i64 ((rd_T120 l0_2 x20_1).f0), .int .i64 0, .string (⟨#[]⟩ : ByteArray), .int .i64 0, .int .i64 0, .string (⟨#[]⟩ : ByteArray)]) ?_ 1 _ rfl; (with_reducible repeat (first | refine blk_drewN ?_ _ | refine blk_drew ?_ | refine blk_alloc ?_ _)); refine blk_put (cs := #[.int .i64 0, .int .i64 0, .string (⟨#[]⟩ : ByteArray), .int .i64 0, .int .i64 0, .string (⟨#[]⟩ : ByteArray)]) ?_ 0 _ rfl; (with_reducible repeat (first | refine blk_drewN ?_ _ | refine blk_drew ?_ | refine blk_alloc ?_ _)); exact BK328.out)) : gb328 ≠ gb329)); have n16_ := Aside0.mk ((by rw [hg]; exact Nat.ne_of_gt (blk_lt (g := gb328) (o := .cells #[.int .i64 ((rd_T120 l0_2 x20_1).f0), .int .i64 ((rd_T120 l0_2 x20_1).f1), .string ((rd_T120 l0_2 x20_1).f2), .int .i64 ((rd_T120 l0_2 x20_1).f3.f0), .int .i64 ((rd_T120 l0_2 x20_1).f3.f1), .string ((rd_T120 l0_2 x20_1).f3.f2)] 120 (0, 0)) (by (with_reducible repeat (first | refine blk_drewN ?_ _ | refine blk_drew ?_ | refine blk_alloc ?_ _)); refine blk_put (cs := #[.int .i64 ((rd_T120 l0_2 x20_1).f0), .int .i64 ((rd_T120 l0_2 x20_1).f1), .string ((rd_T120 l0_2 x20_1).f2), .int .i64 ((rd_T120 l0_2 x20_1).f3.f0), .int .i64 ((rd_T120 l0_2 x20_1).f3.f1), .string (⟨#[]⟩ : ByteArray)]) ?_ 5 _ rfl; (with_reducible repeat (first | refine blk_drewN ?_ _ | refine blk_drew ?_ | refine blk_alloc ?_ _)); refine blk_put (cs := #[.int .i64 ((rd_T120 l0_2 x20_1).f0), .int .i64 ((rd_T120 l0_2 x20_1).f1), .string ((rd_T120 l0_2 x20_1).f2), .int .i64 ((rd_T120 l0_2 x20_1).f3.f0), .int .i64 0, .string (⟨#[]⟩ : ByteArray)]) ?_ 4 _ rfl; (with_reducible repeat (first | refine blk_drewN ?_ _ | refine blk_drew ?_ | refine blk_alloc ?_ _)); refine blk_put (cs := #[.int .i64 ((rd_T120 l0_2 x20_1).f0), .int .i64 ((rd_T120 l0_2 x20_1).f1), .string ((rd_T120 l0_2 x20_1).f2), .int .i64 0, .int .i64 0, .string (⟨#[]⟩ : ByteArray)]) ?_ 3 _ rfl; (with_reducible repeat (first | refine blk_drewN ?_ _ | refine blk_drew ?_ | refine blk_alloc ?_ _)); refine blk_put (cs := #[.int .i64 ((rd_T120 l0_2 x20_1).f0), .int .i64 ((rd_T120 l0_2 x20_1).f1), .string (⟨#[]⟩ : ByteArray), .int .i64 0, .int .i64 0, .string (⟨#[]⟩ : ByteArray)]) ?_ 2 _ rfl; (with_reducible repeat (first | refine blk_drewN ?_ _ | refine blk_drew ?_ | refine blk_alloc ?_ _)); refine blk_put (cs := #[.int .i64 ((rd_T120 l0_2 x20_1).f0), .int .i64 0, .string (⟨#[]⟩ : ByteArray), .int .i64 0, .int .i64 0, .string (⟨#[]⟩ : ByteArray)]) ?_ 1 _ rfl; (with_reducible repeat (first | refine blk_drewN ?_ _ | refine blk_drew ?_ | refine blk_alloc ?_ _)); refine blk_put (cs := #[.int .i64 0, .int .i64 0, .string (⟨#[]⟩ : ByteArray), .int .i64 0, .int .i64 0, .string (⟨#[]⟩ : ByteArray)]) ?_ 0 _ rfl; (with_reducible repeat (first | refine blk_drewN ?_ _ | refine blk_drew ?_ | refine blk_alloc ?_ _)); exact BK328.out)) : gb329 ≠ gb328)); clear HO_327002; clear BK323; clear BK324; clear BK326; clear BK328; clear HB; have HO_327002 := n0_; have BK323 := n1_; have BK324 := n2_; have BK326 := n3_; have BK328 := n4_; have HB := n5_; have BK329 := n6_; have GW329 := n7_; have GE329 := n8_; have NB323_329 := n9_; have NB329_323 := n10_; have NB324_329 := n11_; have NB329_324 := n12_; have NB326_329 := n13_; have NB329_326 := n14_; have NB328_329 := n15_; have NB329_328 := n16_; clear n0_ n1_ n2_ n3_ n4_ n5_ n6_ n7_ n8_ n9_ n10_ n11_ n12_ n13_ n14_ n15_ n16_; clear hb hbox hg; have hnb25 := NB329_323.out; have hnc25 := NB323_329.out; have hnb26 := NB329_324.out; have hnc26 := NB324_329.out; have hnb27 := NB329_326.out; have hnc27 := NB326_329.out; have hnb28 := NB329_328.out; have hnc28 := NB328_329.out; have hcz29_0 : w24.cell? ⟨gb329, 0, none⟩ = some (.int .i64 0) := (blk_cell BK329.out 0).trans rfl; have hcz29_1 : w24.cell? ⟨gb329, 1, none⟩ = some (.int .i64 0) := (blk_cell BK329.out 1).trans rfl; have hcz29_2 : w24.cell? ⟨gb329, 2, none⟩ = some (.int .i64 0) := (blk_cell BK329.out 2).trans rfl; have hcz29_3 : w24.cell? ⟨gb329, 3, none⟩ = some (.int .i64 0) := (blk_cell BK329.out 3).trans rfl; have hcz29_4 : w24.cell? ⟨gb329, 4, none⟩ = some (.int .i64 0) := (blk_cell BK329.out 4).trans rfl; have hcz29_5 : w24.cell? ⟨gb329, 5, none⟩ = some (.string (⟨#[]⟩ : ByteArray)) := (blk_cell BK329.out 5).trans rfl; have hfz29_0 := blk_frozen BK329.out 0; have hfz29_1 := blk_frozen BK329.out 1; have hfz29_2 := blk_frozen BK329.out 2; have hfz29_3 := blk_frozen BK329.out 3; have hfz29_4 := blk_frozen BK329.out 4; have hfz29_5 := blk_frozen BK329.out 5; have hcz30_0 : w24.cell? ⟨gb328, 0, none⟩ = some (.int .i64 ((rd_T120 l0_2 x20_1).f0)) := (blk_cell BK328.out 0).trans rfl; have hcz30_1 : w24.cell? ⟨gb328, 1, none⟩ = some (.int .i64 ((rd_T120 l0_2 x20_1).f1)) := (blk_cell BK328.out 1).trans rfl; have hcz30_2 : w24.cell? ⟨gb328, 2, none⟩ = some (.string ((rd_T120 l0_2 x20_1).f2)) := (blk_cell BK328.out 2).trans rfl; have hcz30_3 : w24.cell? ⟨gb328, 3, none⟩ = some (.int .i64 ((rd_T120 l0_2 x20_1).f3.f0)) := (blk_cell BK328.out 3).trans rfl; have hcz30_4 : w24.cell? ⟨gb328, 4, none⟩ = some (.int .i64 ((rd_T120 l0_2 x20_1).f3.f1)) := (blk_cell BK328.out 4).trans rfl; have hcz30_5 : w24.cell? ⟨gb328, 5, none⟩ = some (.string ((rd_T120 l0_2 x20_1).f3.f2)) := (blk_cell BK328.out 5).trans rfl; have hfz30_0 := blk_frozen BK328.out 0; have hfz30_1 := blk_frozen BK328.out 1; have hfz30_2 := blk_frozen BK328.out 2; have hfz30_3 := blk_frozen BK328.out 3; have hfz30_4 := blk_frozen BK328.out 4; have hfz30_5 := blk_frozen BK328.out 5))
              (try simp only [Act.put, List.setIfInBounds_toArray, List.set_cons_zero, List.set_cons_succ])
              go_cut [] (fun wc => ∃ (kq : Nat) (x330001_17 : Int), Aside0 (spec_AlphaOf.j1 kq x20_1 l0_2 (l0_2.length : Int) x20_1 a0_0 a0_1 l0_2 a0_1 (l0_2.length : Int) x327002_1 ((rd_T120 l0_2 x20_1).f0) ((rd_T120 l0_2 x20_1).f1) ((rd_T120 l0_2 x20_1).f2) ((rd_T120 l0_2 x20_1).f3.f0) ((rd_T120 l0_2 x20_1).f3.f1) ((rd_T120 l0_2 x20_1).f3.f2) x20_1 x330001_17 (-1) ((rd_T120 l0_2 x20_1).f3.f0) ((rd_T120 l0_2 x20_1).f3.f1) ((rd_T120 l0_2 x20_1).f3.f2) = some (r1, r2, r3)) ∧ Aside0 (kq ≤ k1) ∧ Aside0 (Kd.R k106 106 wc w.heap.size (fun k_ => k_ ≠ gb329) u327002 x327002_1) ∧ Aside0 (wc.heap[gb323]? = some (.cells #[.bool a0_0, .string a0_1, (.slice (some ad327) l0_2.length c0_2)] 61 (0, 0))) ∧ Aside0 (wc.heap[gb324]? = some (.cells #[.string (⟨#[]⟩ : ByteArray), .int .i64 0, (.slice none 0 0)] 34 (0, 0))) ∧ Aside0 (wc.heap[gb326]? = some (.cells #[.string a0_1, .int .i64 (l0_2.length : Int), u327002] 34 (0, 0))) ∧ Aside0 (wc.heap[gb328]? = some (.cells #[.int .i64 ((rd_T120 l0_2 x20_1).f0), .int .i64 ((rd_T120 l0_2 x20_1).f1), .string ((rd_T120 l0_2 x20_1).f2), .int .i64 ((rd_T120 l0_2 x20_1).f3.f0), .int .i64 ((rd_T120 l0_2 x20_1).f3.f1), .string ((rd_T120 l0_2 x20_1).f3.f2)] 120 (0, 0))) ∧ Aside0 (wc.heap[gb329]? = some (.cells #[.int .i64 x20_1, .int .i64 x330001_17, .int .i64 (-1), .int .i64 ((rd_T120 l0_2 x20_1).f3.f0), .int .i64 ((rd_T120 l0_2 x20_1).f3.f1), .string ((rd_T120 l0_2 x20_1).f3.f2)] 106 (0, 0))) ∧ Aside0 (Below w.heap.size w wc))
              case first =>
                have H := HC18.out
                clear HC18
                by_cases c31 : ((rd_T120 l0_2 x20_1).f0) = 3
                · rw [if_pos c31] at H
                  have c31b0 : (((rd_T120 l0_2 x20_1).f0) == 3) = true := beq_iff_eq.mpr c31
                  have c31b1 : (((rd_T120 l0_2 x20_1).f0) != 3) = false := bne_eq_false_iff_eq.mpr c31
                  clear c31
                  (first | rw [c31b0] | (simp only [i64_w, i32_w]; rw [c31b0]) | skip)
                  have H' := Aside0.mk H
                  clear H
                  have hnb32 := NB328_323.out
                  have hnc32 := NB323_328.out
                  have hnb33 := NB328_324.out
                  have hnc33 := NB324_328.out
                  have hnb34 := NB328_326.out
                  have hnc34 := NB326_328.out
                  have hnb35 := NB328_329.out
                  have hnc35 := NB329_328.out
                  have hcz36_0 : w24.cell? ⟨gb328, 0, none⟩ = some (.int .i64 ((rd_T120 l0_2 x20_1).f0)) := (blk_cell BK328.out 0).trans rfl
                  have hcz36_1 : w24.cell? ⟨gb328, 1, none⟩ = some (.int .i64 ((rd_T120 l0_2 x20_1).f1)) := (blk_cell BK328.out 1).trans rfl
                  have hcz36_2 : w24.cell? ⟨gb328, 2, none⟩ = some (.string ((rd_T120 l0_2 x20_1).f2)) := (blk_cell BK328.out 2).trans rfl
                  have hcz36_3 : w24.cell? ⟨gb328, 3, none⟩ = some (.int .i64 ((rd_T120 l0_2 x20_1).f3.f0)) := (blk_cell BK328.out 3).trans rfl
                  have hcz36_4 : w24.cell? ⟨gb328, 4, none⟩ = some (.int .i64 ((rd_T120 l0_2 x20_1).f3.f1)) := (blk_cell BK328.out 4).trans rfl
                  have hcz36_5 : w24.cell? ⟨gb328, 5, none⟩ = some (.string ((rd_T120 l0_2 x20_1).f3.f2)) := (blk_cell BK328.out 5).trans rfl
                  have hfz36_0 := blk_frozen BK328.out 0
                  have hfz36_1 := blk_frozen BK328.out 1
                  have hfz36_2 := blk_frozen BK328.out 2
                  have hfz36_3 := blk_frozen BK328.out 3
                  have hfz36_4 := blk_frozen BK328.out 4
                  have hfz36_5 := blk_frozen BK328.out 5
                  have hnb37 := NB329_323.out
                  have hnc37 := NB323_329.out
                  have hnb38 := NB329_324.out
                  have hnc38 := NB324_329.out
                  have hnb39 := NB329_326.out
                  have hnc39 := NB326_329.out
                  have hcz40_0 : w24.cell? ⟨gb329, 0, none⟩ = some (.int .i64 0) := (blk_cell BK329.out 0).trans rfl
                  have hcz40_1 : w24.cell? ⟨gb329, 1, none⟩ = some (.int .i64 0) := (blk_cell BK329.out 1).trans rfl
                  have hcz40_2 : w24.cell? ⟨gb329, 2, none⟩ = some (.int .i64 0) := (blk_cell BK329.out 2).trans rfl
                  have hcz40_3 : w24.cell? ⟨gb329, 3, none⟩ = some (.int .i64 0) := (blk_cell BK329.out 3).trans rfl
                  have hcz40_4 : w24.cell? ⟨gb329, 4, none⟩ = some (.int .i64 0) := (blk_cell BK329.out 4).trans rfl
                  have hcz40_5 : w24.cell? ⟨gb329, 5, none⟩ = some (.string (⟨#[]⟩ : ByteArray)) := (blk_cell BK329.out 5).trans rfl
                  have hfz40_0 := blk_frozen BK329.out 0
                  have hfz40_1 := blk_frozen BK329.out 1
                  have hfz40_2 := blk_frozen BK329.out 2
                  have hfz40_3 := blk_frozen BK329.out 3
                  have hfz40_4 := blk_frozen BK329.out 4
                  have hfz40_5 := blk_frozen BK329.out 5
                  go_wp2
                  go_meet
                  case rel => exact ⟨_, ((rd_T120 l0_2 x20_1).f1), H', ⟨by have := HK1.out; first | omega | exact Nat.le_refl _⟩, ⟨by (with_reducible repeat (first | apply Kd.R_alloc | apply Kd.R_drewN | apply Kd.R_drew)); exact Kd.R_mono (Kd.R_far (p := ⟨gb329, 1, none⟩) (Kd.R_far (p := ⟨gb329, 5, none⟩) (Kd.R_far (p := ⟨gb329, 4, none⟩) (Kd.R_far (p := ⟨gb329, 3, none⟩) (Kd.R_far (p := ⟨gb329, 2, none⟩) (Kd.R_far (p := ⟨gb329, 1, none⟩) (Kd.R_far (p := ⟨gb329, 0, none⟩) (Kd.R_mono HO_327002.out (fun k_ hk => (⟨hk, hk.2⟩ : _ ∧ k_ ≠ gb329))) (fun _ hk => hk.2) (.int .i64 x20_1)) (fun _ hk => hk.2) (.int .i64 1)) (fun _ hk => hk.2) (.int .i64 (-1))) (fun _ hk => hk.2) (.int .i64 ((rd_T120 l0_2 x20_1).f3.f0))) (fun _ hk => hk.2) (.int .i64 ((rd_T120 l0_2 x20_1).f3.f1))) (fun _ hk => hk.2) (.string ((rd_T120 l0_2 x20_1).f3.f2))) (fun _ hk => hk.2) (.int .i64 ((rd_T120 l0_2 x20_1).f1))) (fun _ hk => hk.1.2)⟩, ⟨by (with_reducible repeat (first | refine blk_drewN ?_ _ | refine blk_drew ?_ | refine blk_alloc ?_ _)); refine blk_far ?_ NB323_329.out _; (with_reducible repeat (first | refine blk_drewN ?_ _ | refine blk_drew ?_ | refine blk_alloc ?_ _)); refine blk_far ?_ NB323_329.out _; (with_reducible repeat (first | refine blk_drewN ?_ _ | refine blk_drew ?_ | refine blk_alloc ?_ _)); refine blk_far ?_ NB323_329.out _; (with_reducible repeat (first | refine blk_drewN ?_ _ | refine blk_drew ?_ | refine blk_alloc ?_ _)); refine blk_far ?_ NB323_329.out _; (with_reducible repeat (first | refine blk_drewN ?_ _ | refine blk_drew ?_ | refine blk_alloc ?_ _)); refine blk_far ?_ NB323_329.out _; (with_reducible repeat (first | refine blk_drewN ?_ _ | refine blk_drew ?_ | refine blk_alloc ?_ _)); refine blk_far ?_ NB323_329.out _; (with_reducible repeat (first | refine blk_drewN ?_ _ | refine blk_drew ?_ | refine blk_alloc ?_ _)); refine blk_far ?_ NB323_329.out _; (with_reducible repeat (first | refine blk_drewN ?_ _ | refine blk_drew ?_ | refine blk_alloc ?_ _)); exact BK323.out⟩, ⟨by (with_reducible repeat (first | refine blk_drewN ?_ _ | refine blk_drew ?_ | refine blk_alloc ?_ _)); refine blk_far ?_ NB324_329.out _; (with_reducible repeat (first | refine blk_drewN ?_ _ | refine blk_drew ?_ | refine blk_alloc ?_ _)); refine blk_far ?_ NB324_329.out _; (with_reducible repeat (first | refine blk_drewN ?_ _ | refine blk_drew ?_ | refine blk_alloc ?_ _)); refine blk_far ?_ NB324_329.out _; (with_reducible repeat (first | refine blk_drewN ?_ _ | refine blk_drew ?_ | refine blk_alloc ?_ _)); refine blk_far ?_ NB324_329.out _; (with_reducible repeat (first | refine blk_drewN ?_ _ | refine blk_drew ?_ | refine blk_alloc ?_ _)); refine blk_far ?_ NB324_329.out _; (with_reducible repeat (first | refine blk_drewN ?_ _ | refine blk_drew ?_ | refine blk_alloc ?_ _)); refine blk_far ?_ NB324_329.out _; (with_reducible repeat (first | refine blk_drewN ?_ _ | refine blk_drew ?_ | refine blk_alloc ?_ _)); refine blk_far ?_ NB324_329.out _; (with_reducible repeat (first | refine blk_drewN ?_ _ | refine blk_drew ?_ | refine blk_alloc ?_ _)); exact BK324.out⟩, ⟨by (with_reducible repeat (first | refine blk_drewN ?_ _ | refine blk_drew ?_ | refine blk_alloc ?_ _)); refine blk_far ?_ NB326_329.out _; (with_reducible repeat (first | refine blk_drewN ?_ _ | refine blk_drew ?_ | refine blk_alloc ?_ _)); refine blk_far ?_ NB326_329.out _; (with_reducible repeat (first | refine blk_drewN ?_ _ | refine blk_drew ?_ | refine blk_alloc ?_ _)); refine blk_far ?_ NB326_329.out _; (with_reducible repeat (first | refine blk_drewN ?_ _ | refine blk_drew ?_ | refine blk_alloc ?_ _)); refine blk_far ?_ NB326_329.out _; (with_reducible repeat (first | refine blk_drewN ?_ _ | refine blk_drew ?_ | refine blk_alloc ?_ _)); refine blk_far ?_ NB326_329.out _; (with_reducible repeat (first | refine blk_drewN ?_ _ | refine blk_drew ?_ | refine blk_alloc ?_ _)); refine blk_far ?_ NB326_329.out _; (with_reducible repeat (first | refine blk_drewN ?_ _ | refine blk_drew ?_ | refine blk_alloc ?_ _)); refine blk_far ?_ NB326_329.out _; (with_reducible repeat (first | refine blk_drewN ?_ _ | refine blk_drew ?_ | refine blk_alloc ?_ _)); exact BK326.out⟩, ⟨by (with_reducible repeat (first | refine blk_drewN ?_ _ | refine blk_drew ?_ | refine blk_alloc ?_ _)); refine blk_far ?_ NB328_329.out _; (with_reducible repeat (first | refine blk_drewN ?_ _ | refine blk_drew ?_ | refine blk_alloc ?_ _)); refine blk_far ?_ NB328_329.out _; (with_reducible repeat (first | refine blk_drewN ?_ _ | refine blk_drew ?_ | refine blk_alloc ?_ _)); refine blk_far ?_ NB328_329.out _; (with_reducible repeat (first | refine blk_drewN ?_ _ | refine blk_drew ?_ | refine blk_alloc ?_ _)); refine blk_far ?_ NB328_329.out _; (with_reducible repeat (first | refine blk_drewN ?_ _ | refine blk_drew ?_ | refine blk_alloc ?_ _)); refine blk_far ?_ NB328_329.out _; (with_reducible repeat (first | refine blk_drewN ?_ _ | refine blk_drew ?_ | refine blk_alloc ?_ _)); refine blk_far ?_ NB328_329.out _; (with_reducible repeat (first | refine blk_drewN ?_ _ | refine blk_drew ?_ | refine blk_alloc ?_ _)); refine blk_far ?_ NB328_329.out _; (with_reducible repeat (first | refine blk_drewN ?_ _ | refine blk_drew ?_ | refine blk_alloc ?_ _)); exact BK328.out⟩, ⟨by (with_reducible repeat (first | refine blk_drewN ?_ _ | refine blk_drew ?_ | refine blk_alloc ?_ _)); refine blk_put (cs := #[.int .i64 x20_1, .int .i64 1, .int .i64 (-1), .int .i64 ((rd_T120 l0_2 x20_1).f3.f0), .int .i64 ((rd_T120 l0_2 x20_1).f3.f1), .string ((rd_T120 l0_2 x20_1).f3.f2)]) ?_ 1 _ rfl; (with_reducible repeat (first | refine blk_drewN ?_ _ | refine blk_drew ?_ | refine blk_alloc ?_ _)); refine blk_put (cs := #[.int .i64 x20_1, .int .i64 1, .int .i64 (-1), .int .i64 ((rd_T120 l0_2 x20_1).f3.f0), .int .i64 ((rd_T120 l0_2 x20_1).f3.f1), .string (⟨#[]⟩ : ByteArray)]) ?_ 5 _ rfl; (with_reducible repeat (first | refine blk_drewN ?_ _ | refine blk_drew ?_ | refine blk_alloc ?_ _)); refine blk_put (cs := #[.int .i64 x20_1, .int .i64 1, .int .i64 (-1), .int .i64 ((rd_T120 l0_2 x20_1).f3.f0), .int .i64 0, .string (⟨#[]⟩ : ByteArray)]) ?_ 4 _ rfl; (with_reducible repeat (first | refine blk_drewN ?_ _ | refine blk_drew ?_ | refine blk_alloc ?_ _)); refine blk_put (cs := #[.int .i64 x20_1, .int .i64 1, .int .i64 (-1), .int .i64 0, .int .i64 0, .string (⟨#[]⟩ : ByteArray)]) ?_ 3 _ rfl; (with_reducible repeat (first | refine blk_drewN ?_ _ | refine blk_drew ?_ | refine blk_alloc ?_ _)); refine blk_put (cs := #[.int .i64 x20_1, .int .i64 1, .int .i64 0, .int .i64 0, .int .i64 0, .string (⟨#[]⟩ : ByteArray)]) ?_ 2 _ rfl; (with_reducible repeat (first | refine blk_drewN ?_ _ | refine blk_drew ?_ | refine blk_alloc ?_ _)); refine blk_put (cs := #[.int .i64 x20_1, .int .i64 0, .int .i64 0, .int .i64 0, .int .i64 0, .string (⟨#[]⟩ : ByteArray)]) ?_ 1 _ rfl; (with_reducible repeat (first | refine blk_drewN ?_ _ | refine blk_drew ?_ | refine blk_alloc ?_ _)); refine blk_put (cs := #[.int .i64 0, .int .i64 0, .int .i64 0, .int .i64 0, .int .i64 0, .string (⟨#[]⟩ : ByteArray)]) ?_ 0 _ rfl; (with_reducible repeat (first | refine blk_drewN ?_ _ | refine blk_drew ?_ | refine blk_alloc ?_ _)); exact BK329.out⟩, ⟨by repeat (first | (with_reducible first | exact HB.out | apply below_alloc | apply pw_below_drewN | apply below_drew1 | refine below_set ?_ GE323.out | refine below_set ?_ GE324.out | refine below_set ?_ GE326.out | refine below_set ?_ GE328.out | refine below_set ?_ GE329.out) | exact HB.out)⟩⟩
                · rw [if_neg c31] at H
                  have c31b0 : (((rd_T120 l0_2 x20_1).f0) == 3) = false := beq_eq_false_iff_ne.mpr c31
                  have c31b1 : (((rd_T120 l0_2 x20_1).f0) != 3) = true := bne_iff_ne.mpr c31
                  (first | rw [c31b0] | (simp only [i64_w, i32_w]; rw [c31b0]) | skip)
                  have H' := Aside0.mk H
                  clear H
                  go_wp2
                  go_meet
                  case rel => exact ⟨_, (1), H', ⟨by have := HK1.out; first | omega | exact Nat.le_refl _⟩, ⟨by (with_reducible repeat (first | apply Kd.R_alloc | apply Kd.R_drewN | apply Kd.R_drew)); exact Kd.R_mono (Kd.R_far (p := ⟨gb329, 5, none⟩) (Kd.R_far (p := ⟨gb329, 4, none⟩) (Kd.R_far (p := ⟨gb329, 3, none⟩) (Kd.R_far (p := ⟨gb329, 2, none⟩) (Kd.R_far (p := ⟨gb329, 1, none⟩) (Kd.R_far (p := ⟨gb329, 0, none⟩) (Kd.R_mono HO_327002.out (fun k_ hk => (⟨hk, hk.2⟩ : _ ∧ k_ ≠ gb329))) (fun _ hk => hk.2) (.int .i64 x20_1)) (fun _ hk => hk.2) (.int .i64 1)) (fun _ hk => hk.2) (.int .i64 (-1))) (fun _ hk => hk.2) (.int .i64 ((rd_T120 l0_2 x20_1).f3.f0))) (fun _ hk => hk.2) (.int .i64 ((rd_T120 l0_2 x20_1).f3.f1))) (fun _ hk => hk.2) (.string ((rd_T120 l0_2 x20_1).f3.f2))) (fun _ hk => hk.1.2)⟩, ⟨by (with_reducible repeat (first | refine blk_drewN ?_ _ | refine blk_drew ?_ | refine blk_alloc ?_ _)); refine blk_far ?_ NB323_329.out _; (with_reducible repeat (first | refine blk_drewN ?_ _ | refine blk_drew ?_ | refine blk_alloc ?_ _)); refine blk_far ?_ NB323_329.out _; (with_reducible repeat (first | refine blk_drewN ?_ _ | refine blk_drew ?_ | refine blk_alloc ?_ _)); refine blk_far ?_ NB323_329.out _; (with_reducible repeat (first | refine blk_drewN ?_ _ | refine blk_drew ?_ | refine blk_alloc ?_ _)); refine blk_far ?_ NB323_329.out _; (with_reducible repeat (first | refine blk_drewN ?_ _ | refine blk_drew ?_ | refine blk_alloc ?_ _)); refine blk_far ?_ NB323_329.out _; (with_reducible repeat (first | refine blk_drewN ?_ _ | refine blk_drew ?_ | refine blk_alloc ?_ _)); refine blk_far ?_ NB323_329.out _; (with_reducible repeat (first | refine blk_drewN ?_ _ | refine blk_drew ?_ | refine blk_alloc ?_ _)); exact BK323.out⟩, ⟨by (with_reducible repeat (first | refine blk_drewN ?_ _ | refine blk_drew ?_ | refine blk_alloc ?_ _)); refine blk_far ?_ NB324_329.out _; (with_reducible repeat (first | refine blk_drewN ?_ _ | refine blk_drew ?_ | refine blk_alloc ?_ _)); refine blk_far ?_ NB324_329.out _; (with_reducible repeat (first | refine blk_drewN ?_ _ | refine blk_drew ?_ | refine blk_alloc ?_ _)); refine blk_far ?_ NB324_329.out _; (with_reducible repeat (first | refine blk_drewN ?_ _ | refine blk_drew ?_ | refine blk_alloc ?_ _)); refine blk_far ?_ NB324_329.out _; (with_reducible repeat (first | refine blk_drewN ?_ _ | refine blk_drew ?_ | refine blk_alloc ?_ _)); refine blk_far ?_ NB324_329.out _; (with_reducible repeat (first | refine blk_drewN ?_ _ | refine blk_drew ?_ | refine blk_alloc ?_ _)); refine blk_far ?_ NB324_329.out _; (with_reducible repeat (first | refine blk_drewN ?_ _ | refine blk_drew ?_ | refine blk_alloc ?_ _)); exact BK324.out⟩, ⟨by (with_reducible repeat (first | refine blk_drewN ?_ _ | refine blk_drew ?_ | refine blk_alloc ?_ _)); refine blk_far ?_ NB326_329.out _; (with_reducible repeat (first | refine blk_drewN ?_ _ | refine blk_drew ?_ | refine blk_alloc ?_ _)); refine blk_far ?_ NB326_329.out _; (with_reducible repeat (first | refine blk_drewN ?_ _ | refine blk_drew ?_ | refine blk_alloc ?_ _)); refine blk_far ?_ NB326_329.out _; (with_reducible repeat (first | refine blk_drewN ?_ _ | refine blk_drew ?_ | refine blk_alloc ?_ _)); refine blk_far ?_ NB326_329.out _; (with_reducible repeat (first | refine blk_drewN ?_ _ | refine blk_drew ?_ | refine blk_alloc ?_ _)); refine blk_far ?_ NB326_329.out _; (with_reducible repeat (first | refine blk_drewN ?_ _ | refine blk_drew ?_ | refine blk_alloc ?_ _)); refine blk_far ?_ NB326_329.out _; (with_reducible repeat (first | refine blk_drewN ?_ _ | refine blk_drew ?_ | refine blk_alloc ?_ _)); exact BK326.out⟩, ⟨by (with_reducible repeat (first | refine blk_drewN ?_ _ | refine blk_drew ?_ | refine blk_alloc ?_ _)); refine blk_far ?_ NB328_329.out _; (with_reducible repeat (first | refine blk_drewN ?_ _ | refine blk_drew ?_ | refine blk_alloc ?_ _)); refine blk_far ?_ NB328_329.out _; (with_reducible repeat (first | refine blk_drewN ?_ _ | refine blk_drew ?_ | refine blk_alloc ?_ _)); refine blk_far ?_ NB328_329.out _; (with_reducible repeat (first | refine blk_drewN ?_ _ | refine blk_drew ?_ | refine blk_alloc ?_ _)); refine blk_far ?_ NB328_329.out _; (with_reducible repeat (first | refine blk_drewN ?_ _ | refine blk_drew ?_ | refine blk_alloc ?_ _)); refine blk_far ?_ NB328_329.out _; (with_reducible repeat (first | refine blk_drewN ?_ _ | refine blk_drew ?_ | refine blk_alloc ?_ _)); refine blk_far ?_ NB328_329.out _; (with_reducible repeat (first | refine blk_drewN ?_ _ | refine blk_drew ?_ | refine blk_alloc ?_ _)); exact BK328.out⟩, ⟨by (with_reducible repeat (first | refine blk_drewN ?_ _ | refine blk_drew ?_ | refine blk_alloc ?_ _)); refine blk_put (cs := #[.int .i64 x20_1, .int .i64 1, .int .i64 (-1), .int .i64 ((rd_T120 l0_2 x20_1).f3.f0), .int .i64 ((rd_T120 l0_2 x20_1).f3.f1), .string (⟨#[]⟩ : ByteArray)]) ?_ 5 _ rfl; (with_reducible repeat (first | refine blk_drewN ?_ _ | refine blk_drew ?_ | refine blk_alloc ?_ _)); refine blk_put (cs := #[.int .i64 x20_1, .int .i64 1, .int .i64 (-1), .int .i64 ((rd_T120 l0_2 x20_1).f3.f0), .int .i64 0, .string (⟨#[]⟩ : ByteArray)]) ?_ 4 _ rfl; (with_reducible repeat (first | refine blk_drewN ?_ _ | refine blk_drew ?_ | refine blk_alloc ?_ _)); refine blk_put (cs := #[.int .i64 x20_1, .int .i64 1, .int .i64 (-1), .int .i64 0, .int .i64 0, .string (⟨#[]⟩ : ByteArray)]) ?_ 3 _ rfl; (with_reducible repeat (first | refine blk_drewN ?_ _ | refine blk_drew ?_ | refine blk_alloc ?_ _)); refine blk_put (cs := #[.int .i64 x20_1, .int .i64 1, .int .i64 0, .int .i64 0, .int .i64 0, .string (⟨#[]⟩ : ByteArray)]) ?_ 2 _ rfl; (with_reducible repeat (first | refine blk_drewN ?_ _ | refine blk_drew ?_ | refine blk_alloc ?_ _)); refine blk_put (cs := #[.int .i64 x20_1, .int .i64 0, .int .i64 0, .int .i64 0, .int .i64 0, .string (⟨#[]⟩ : ByteArray)]) ?_ 1 _ rfl; (with_reducible repeat (first | refine blk_drewN ?_ _ | refine blk_drew ?_ | refine blk_alloc ?_ _)); refine blk_put (cs := #[.int .i64 0, .int .i64 0, .int .i64 0, .int .i64 0, .int .i64 0, .string (⟨#[]⟩ : ByteArray)]) ?_ 0 _ rfl; (with_reducible repeat (first | refine blk_drewN ?_ _ | refine blk_drew ?_ | refine blk_alloc ?_ _)); exact BK329.out⟩, ⟨by repeat (first | (with_reducible first | exact HB.out | apply below_alloc | apply pw_below_drewN | apply below_drew1 | refine below_set ?_ GE323.out | refine below_set ?_ GE324.out | refine below_set ?_ GE326.out | refine below_set ?_ GE328.out | refine below_set ?_ GE329.out) | exact HB.out)⟩⟩
              case rest =>
                clear HC18
                try clear c1
                try clear c2
                try clear p2
                try clear c3
                try clear p3
                try clear q3
                try clear hx3
                try clear c6
                try clear c7
                try clear c11
                try clear c12
                try clear c15
                try clear c15b0
                try clear c16
                try clear c16b0
                try clear c17
                try clear c17b0
                try clear c20
                try clear c21
                try clear c22
                try clear c24
                try clear c25
                try clear c26
                try clear c27
                try clear c28
                try clear c31
                try clear c31b0
                try clear c31b1
                try clear c32
                try clear p32
                try clear q32
                try clear hx32
                try clear c33
                try clear c34
                try clear c35
                try clear c37
                try clear c38
                try clear c39
                try clear hcz13_0
                try clear hcz13_1
                try clear hcz13_2
                try clear hcz14_0
                try clear hcz14_1
                try clear hcz14_2
                try clear hcz23_0
                try clear hcz23_1
                try clear hcz23_2
                try clear hcz23_3
                try clear hcz23_4
                try clear hcz23_5
                try clear hcz29_0
                try clear hcz29_1
                try clear hcz29_2
                try clear hcz29_3
                try clear hcz29_4
                try clear hcz29_5
                try clear hcz30_0
                try clear hcz30_1
                try clear hcz30_2
                try clear hcz30_3
                try clear hcz30_4
                try clear hcz30_5
                try clear hcz36_0
                try clear hcz36_1
                try clear hcz36_2
                try clear hcz36_3
                try clear hcz36_4
                try clear hcz36_5
                try clear hcz40_0
                try clear hcz40_1
                try clear hcz40_2
                try clear hcz40_3
                try clear hcz40_4
                try clear hcz40_5
                try clear hcz7_0
                try clear hcz7_1
                try clear hcz7_2
                try clear hcz9_0
                try clear hcz9_1
                try clear hcz9_2
                try clear hfz13_0
                try clear hfz13_1
                try clear hfz13_2
                try clear hfz14_0
                try clear hfz14_1
                try clear hfz14_2
                try clear hfz23_0
                try clear hfz23_1
                try clear hfz23_2
                try clear hfz23_3
                try clear hfz23_4
                try clear hfz23_5
                try clear hfz29_0
                try clear hfz29_1
                try clear hfz29_2
                try clear hfz29_3
                try clear hfz29_4
                try clear hfz29_5
                try clear hfz30_0
                try clear hfz30_1
                try clear hfz30_2
                try clear hfz30_3
                try clear hfz30_4
                try clear hfz30_5
                try clear hfz36_0
                try clear hfz36_1
                try clear hfz36_2
                try clear hfz36_3
                try clear hfz36_4
                try clear hfz36_5
                try clear hfz40_0
                try clear hfz40_1
                try clear hfz40_2
                try clear hfz40_3
                try clear hfz40_4
                try clear hfz40_5
                try clear hfz7_0
                try clear hfz7_1
                try clear hfz7_2
                try clear hfz9_0
                try clear hfz9_1
                try clear hfz9_2
                try clear hx327_0
                try clear hx327_1
                try clear hx327_2
                try clear hx327_3
                try clear hx327_4
                try clear hx327_5
                try clear p2
                try clear p327
                try clear q327
                obtain ⟨kq, x330001_17, HA, HJ17, HO_327002, BK323, BK324, BK326, BK328, BK329, HB⟩ := hcut
                cases kq with
                | zero => exact absurd HA.out (by simp [spec_AlphaOf.j1])
                | succ kj17 =>
                  have H := HA.out
                  clear HA
                  simp only [spec_AlphaOf.j1] at H
                  by_cases c41 : ((rd_T120 l0_2 x20_1).f0) = 0
                  · rw [if_pos c41] at H
                    have c41b0 : (((rd_T120 l0_2 x20_1).f0) == 0) = true := beq_iff_eq.mpr c41
                    have c41b1 : (((rd_T120 l0_2 x20_1).f0) != 0) = false := bne_eq_false_iff_eq.mpr c41
                    clear c41
                    have H' := Aside0.mk H
                    clear H
                    have hnb42 := NB328_323.out
                    have hnc42 := NB323_328.out
                    have hnb43 := NB328_324.out
                    have hnc43 := NB324_328.out
                    have hnb44 := NB328_326.out
                    have hnc44 := NB326_328.out
                    have hnb45 := NB328_329.out
                    have hnc45 := NB329_328.out
                    have hcz46_0 : wc.cell? ⟨gb328, 0, none⟩ = some (.int .i64 ((rd_T120 l0_2 x20_1).f0)) := (blk_cell BK328.out 0).trans rfl
                    have hcz46_1 : wc.cell? ⟨gb328, 1, none⟩ = some (.int .i64 ((rd_T120 l0_2 x20_1).f1)) := (blk_cell BK328.out 1).trans rfl
                    have hcz46_2 : wc.cell? ⟨gb328, 2, none⟩ = some (.string ((rd_T120 l0_2 x20_1).f2)) := (blk_cell BK328.out 2).trans rfl
                    have hcz46_3 : wc.cell? ⟨gb328, 3, none⟩ = some (.int .i64 ((rd_T120 l0_2 x20_1).f3.f0)) := (blk_cell BK328.out 3).trans rfl
                    have hcz46_4 : wc.cell? ⟨gb328, 4, none⟩ = some (.int .i64 ((rd_T120 l0_2 x20_1).f3.f1)) := (blk_cell BK328.out 4).trans rfl
                    have hcz46_5 : wc.cell? ⟨gb328, 5, none⟩ = some (.string ((rd_T120 l0_2 x20_1).f3.f2)) := (blk_cell BK328.out 5).trans rfl
                    have hfz46_0 := blk_frozen BK328.out 0
                    have hfz46_1 := blk_frozen BK328.out 1
                    have hfz46_2 := blk_frozen BK328.out 2
                    have hfz46_3 := blk_frozen BK328.out 3
                    have hfz46_4 := blk_frozen BK328.out 4
                    have hfz46_5 := blk_frozen BK328.out 5
                    go_wp2
                    go_roundg kj17
                    case measure => have := HK1.out; have := HJ17.out; omega
                    case rel => exact ⟨(wrap64 (x20_1 + 1)), (x327002_1), (u327002), (by first | rfl | (simp; done) | (simp [*]; done)), H', ⟨by have := HK1.out; have := HJ17.out; omega⟩, ⟨by (with_reducible repeat (first | apply Kd.R_alloc | apply Kd.R_drewN | apply Kd.R_drew)); exact Kd.R_mono HO_327002.out (fun _ hk => trivial)⟩, ⟨by (with_reducible repeat (first | refine blk_drewN ?_ _ | refine blk_drew ?_ | refine blk_alloc ?_ _)); exact BK323.out⟩, ⟨by (with_reducible repeat (first | refine blk_drewN ?_ _ | refine blk_drew ?_ | refine blk_alloc ?_ _)); exact BK324.out⟩, ⟨by (with_reducible repeat (first | refine blk_drewN ?_ _ | refine blk_drew ?_ | refine blk_alloc ?_ _)); exact BK326.out⟩, ⟨by repeat (first | (with_reducible first | exact HB.out | apply below_alloc | apply pw_below_drewN | apply below_drew1 | refine below_set ?_ GE323.out | refine below_set ?_ GE324.out | refine below_set ?_ GE326.out | refine below_set ?_ GE328.out | refine below_set ?_ GE329.out) | exact HB.out)⟩⟩
                  · rw [if_neg c41] at H
                    have c41b0 : (((rd_T120 l0_2 x20_1).f0) == 0) = false := beq_eq_false_iff_ne.mpr c41
                    have c41b1 : (((rd_T120 l0_2 x20_1).f0) != 0) = true := bne_iff_ne.mpr c41
                    by_cases c47 : ((rd_T120 l0_2 x20_1).f2).toList = ([] : List UInt8)
                    · rw [if_pos c47] at H
                      have c47b0 : (((rd_T120 l0_2 x20_1).f2).toList == ([] : List UInt8)) = true := beq_iff_eq.mpr c47
                      have c47b1 : (((rd_T120 l0_2 x20_1).f2).toList != ([] : List UInt8)) = false := bne_eq_false_iff_eq.mpr c47
                      clear c47
                      by_cases c48 : x327002_1.length < 2513169434916
                      · rw [if_pos c48] at H
                        have LMc48 := Aside0.mk c48
                        clear c48
                        obtain ⟨y330, hy330⟩ : ∃ y_ : List (S106), y_ = (x327002_1 ++ [(⟨x20_1, x330001_17, (-1), (⟨((rd_T120 l0_2 x20_1).f3.f0), ((rd_T120 l0_2 x20_1).f3.f1), ((rd_T120 l0_2 x20_1).f3.f2)⟩ : S104)⟩ : S106)]) := ⟨_, rfl⟩
                        replace H : (spec_AlphaOf.l0 kj17 l0_2 (l0_2.length : Int) (wrap64 (x20_1 + 1)) a0_0 a0_1 l0_2 a0_1 (l0_2.length : Int) y330) = some (r1, r2, r3) := by first | (rw [hy330]; with_reducible exact H) | (have H2_ := (Option.bind_some _ _).symm.trans H; rw [hy330]; with_reducible exact H2_) | (have H2_ := (Option.bind_some _ _).symm.trans H; with_reducible exact H2_) | with_reducible exact H | (rw [hy330]; exact H) | exact H
                        have Ny330 := Aside0.mk hy330
                        clear hy330
                        have H' := Aside0.mk H
                        clear H
                        have hnb49 := NB328_323.out
                        have hnc49 := NB323_328.out
                        have hnb50 := NB328_324.out
                        have hnc50 := NB324_328.out
                        have hnb51 := NB328_326.out
                        have hnc51 := NB326_328.out
                        have hnb52 := NB328_329.out
                        have hnc52 := NB329_328.out
                        have hcz53_0 : wc.cell? ⟨gb328, 0, none⟩ = some (.int .i64 ((rd_T120 l0_2 x20_1).f0)) := (blk_cell BK328.out 0).trans rfl
                        have hcz53_1 : wc.cell? ⟨gb328, 1, none⟩ = some (.int .i64 ((rd_T120 l0_2 x20_1).f1)) := (blk_cell BK328.out 1).trans rfl
                        have hcz53_2 : wc.cell? ⟨gb328, 2, none⟩ = some (.string ((rd_T120 l0_2 x20_1).f2)) := (blk_cell BK328.out 2).trans rfl
                        have hcz53_3 : wc.cell? ⟨gb328, 3, none⟩ = some (.int .i64 ((rd_T120 l0_2 x20_1).f3.f0)) := (blk_cell BK328.out 3).trans rfl
                        have hcz53_4 : wc.cell? ⟨gb328, 4, none⟩ = some (.int .i64 ((rd_T120 l0_2 x20_1).f3.f1)) := (blk_cell BK328.out 4).trans rfl
                        have hcz53_5 : wc.cell? ⟨gb328, 5, none⟩ = some (.string ((rd_T120 l0_2 x20_1).f3.f2)) := (blk_cell BK328.out 5).trans rfl
                        have hfz53_0 := blk_frozen BK328.out 0
                        have hfz53_1 := blk_frozen BK328.out 1
                        have hfz53_2 := blk_frozen BK328.out 2
                        have hfz53_3 := blk_frozen BK328.out 3
                        have hfz53_4 := blk_frozen BK328.out 4
                        have hfz53_5 := blk_frozen BK328.out 5
                        have hnb54 := NB326_323.out
                        have hnc54 := NB323_326.out
                        have hnb55 := NB326_324.out
                        have hnc55 := NB324_326.out
                        have hnb56 := NB326_329.out
                        have hnc56 := NB329_326.out
                        have hcz57_0 : wc.cell? ⟨gb326, 0, none⟩ = some (.string a0_1) := (blk_cell BK326.out 0).trans rfl
                        have hcz57_1 : wc.cell? ⟨gb326, 1, none⟩ = some (.int .i64 (l0_2.length : Int)) := (blk_cell BK326.out 1).trans rfl
                        have hcz57_2 : wc.cell? ⟨gb326, 2, none⟩ = some (u327002) := (blk_cell BK326.out 2).trans rfl
                        have hfz57_0 := blk_frozen BK326.out 0
                        have hfz57_1 := blk_frozen BK326.out 1
                        have hfz57_2 := blk_frozen BK326.out 2
                        have hnb58 := NB329_323.out
                        have hnc58 := NB323_329.out
                        have hnb59 := NB329_324.out
                        have hnc59 := NB324_329.out
                        have hcz60_0 : wc.cell? ⟨gb329, 0, none⟩ = some (.int .i64 x20_1) := (blk_cell BK329.out 0).trans rfl
                        have hcz60_1 : wc.cell? ⟨gb329, 1, none⟩ = some (.int .i64 x330001_17) := (blk_cell BK329.out 1).trans rfl
                        have hcz60_2 : wc.cell? ⟨gb329, 2, none⟩ = some (.int .i64 (-1)) := (blk_cell BK329.out 2).trans rfl
                        have hcz60_3 : wc.cell? ⟨gb329, 3, none⟩ = some (.int .i64 ((rd_T120 l0_2 x20_1).f3.f0)) := (blk_cell BK329.out 3).trans rfl
                        have hcz60_4 : wc.cell? ⟨gb329, 4, none⟩ = some (.int .i64 ((rd_T120 l0_2 x20_1).f3.f1)) := (blk_cell BK329.out 4).trans rfl
                        have hcz60_5 : wc.cell? ⟨gb329, 5, none⟩ = some (.string ((rd_T120 l0_2 x20_1).f3.f2)) := (blk_cell BK329.out 5).trans rfl
                        have hfz60_0 := blk_frozen BK329.out 0
                        have hfz60_1 := blk_frozen BK329.out 1
                        have hfz60_2 := blk_frozen BK329.out 2
                        have hfz60_3 := blk_frozen BK329.out 3
                        have hfz60_4 := blk_frozen BK329.out 4
                        have hfz60_5 := blk_frozen BK329.out 5
                        go_wp2_with (first | ((with_reducible refine gate_builtin (b := .append) (xs := #[.tmp 51, .tmp 53]) rfl ?_); at_builtin; refine Kd.R_append k106 (w0 := w) w.heap.size rfl (.tmp 51) (.tmp 53) 32 106 (.agg #[(.int .i64 0), (.int .i64 0), (.int .i64 0), (.int .i64 0), (.int .i64 0), (.string ⟨#[]⟩)]) 56 rfl Try.underlying32 info106 rfl (by decide) (by omega) u327002 x327002_1 (⟨x20_1, x330001_17, (-1), (⟨((rd_T120 l0_2 x20_1).f3.f0), ((rd_T120 l0_2 x20_1).f3.f1), ((rd_T120 l0_2 x20_1).f3.f2)⟩ : S104)⟩ : S106) [.int .i64 x20_1, .int .i64 x330001_17, .int .i64 (-1), .int .i64 ((rd_T120 l0_2 x20_1).f3.f0), .int .i64 ((rd_T120 l0_2 x20_1).f3.f1), .string ((rd_T120 l0_2 x20_1).f3.f2)] (fun k_ => k_ ≠ gb329) (fun _ => False) rfl rfl ?aP (fun _ hk => hk.elim) ?aF ?aO ?aB ?aS ?aL ?_; (case aP => exact k106_mkM _ _ _ (⟨x20_1, x330001_17, (-1), (⟨((rd_T120 l0_2 x20_1).f3.f0), ((rd_T120 l0_2 x20_1).f3.f1), ((rd_T120 l0_2 x20_1).f3.f2)⟩ : S104)⟩ : S106)); (case aB => exact (by repeat (first | (with_reducible first | exact HB.out | apply below_alloc | apply pw_below_drewN | apply below_drew1 | refine below_set ?_ GE323.out | refine below_set ?_ GE324.out | refine below_set ?_ GE326.out | refine below_set ?_ GE328.out | refine below_set ?_ GE329.out) | exact HB.out))); (case aF => exact (fun k_ hk => Kd.freshB (g := gb329) (o := .cells #[.int .i64 x20_1, .int .i64 x330001_17, .int .i64 (-1), .int .i64 ((rd_T120 l0_2 x20_1).f3.f0), .int .i64 ((rd_T120 l0_2 x20_1).f3.f1), .string ((rd_T120 l0_2 x20_1).f3.f2)] 106 (0, 0)) (by (with_reducible repeat (first | refine blk_drewN ?_ _ | refine blk_drew ?_ | refine blk_alloc ?_ _)); exact BK329.out) k_ hk)); (case aO => exact (by (with_reducible repeat (first | apply Kd.R_alloc | apply Kd.R_drewN | apply Kd.R_drew)); exact HO_327002.out)); (case aS => exact (below_size (by repeat (first | (with_reducible first | exact HB.out | apply below_alloc | apply pw_below_drewN | apply below_drew1 | refine below_set ?_ GE323.out | refine below_set ?_ GE324.out | refine below_set ?_ GE326.out | refine below_set ?_ GE328.out | refine below_set ?_ GE329.out) | exact HB.out)))); (case aL => have := LMc48.out; omega); intro v331 w61 ho hb hg hat; rw [← Ny330.out] at ho; have n0_ := Aside0.mk (blk_grown (g := gb323) (o := .cells #[.bool a0_0, .string a0_1, .slice (some ad327) l0_2.length c0_2] 61 (0, 0)) (by (with_reducible repeat (first | refine blk_drewN ?_ _ | refine blk_drew ?_ | refine blk_alloc ?_ _)); exact BK323.out) hg (Kd.R_ne HO_327002.out BK323.out (by decide))); have n1_ := Aside0.mk (blk_grown (g := gb324) (o := .cells #[.string (⟨#[]⟩ : ByteArray), .int .i64 0, .slice none 0 0] 34 (0, 0)) (by (with_reducible repeat (first | refine blk_drewN ?_ _ | refine blk_drew ?_ | refine blk_alloc ?_ _)); exact BK324.out) hg (Kd.R_ne HO_327002.out BK324.out (by decide))); have n2_ := Aside0.mk (blk_grown (g := gb326) (o := .cells #[.string a0_1, .int .i64 (l0_2.length : Int), u327002] 34 (0, 0)) (by (with_reducible repeat (first | refine blk_drewN ?_ _ | refine blk_drew ?_ | refine blk_alloc ?_ _)); exact BK326.out) hg (Kd.R_ne HO_327002.out BK326.out (by decide))); have n3_ := Aside0.mk (blk_grown (g := gb328) (o := .cells #[.int .i64 ((rd_T120 l0_2 x20_1).f0), .int .i64 ((rd_T120 l0_2 x20_1).f1), .string ((rd_T120 l0_2 x20_1).f2), .int .i64 ((rd_T120 l0_2 x20_1).f3.f0), .int .i64 ((rd_T120 l0_2 x20_1).f3.f1), .string ((rd_T120 l0_2 x20_1).f3.f2)] 120 (0, 0)) (by (with_reducible repeat (first | refine blk_drewN ?_ _ | refine blk_drew ?_ | refine blk_alloc ?_ _)); exact BK328.out) hg (Kd.R_ne HO_327002.out BK328.out (by decide))); have n4_ := Aside0.mk (blk_grown (g := gb329) (o := .cells #[.int .i64 x20_1, .int .i64 x330001_17, .int .i64 (-1), .int .i64 ((rd_T120 l0_2 x20_1).f3.f0), .int .i64 ((rd_T120 l0_2 x20_1).f3.f1), .string ((rd_T120 l0_2 x20_1).f3.f2)] 106 (0, 0)) (by (with_reducible repeat (first | refine blk_drewN ?_ _ | refine blk_drew ?_ | refine blk_alloc ?_ _)); exact BK329.out) hg (Kd.R_away HO_327002.out (fun _ hk => hk))); have n5_ := Aside0.mk (hb); have n6_ := Aside0.mk (ho); clear BK323; clear BK324; clear BK326; clear BK328; clear BK329; clear HB; clear HO_327002; have BK323 := n0_; have BK324 := n1_; have BK326 := n2_; have BK328 := n3_; have BK329 := n4_; have HB := n5_; have HO332 := n6_; clear n0_ n1_ n2_ n3_ n4_ n5_ n6_; clear ho hb hg hat; obtain ⟨Ao62, co62, eo62⟩ := Kd.R_slice HO332.out; subst eo62; have hcz63_0 : w61.cell? ⟨gb326, 0, none⟩ = some (.string a0_1) := (blk_cell BK326.out 0).trans rfl; have hcz63_1 : w61.cell? ⟨gb326, 1, none⟩ = some (.int .i64 (l0_2.length : Int)) := (blk_cell BK326.out 1).trans rfl; have hcz63_2 : w61.cell? ⟨gb326, 2, none⟩ = some (u327002) := (blk_cell BK326.out 2).trans rfl; have hfz63_0 := blk_frozen BK326.out 0; have hfz63_1 := blk_frozen BK326.out 1; have hfz63_2 := blk_frozen BK326.out 2))
                        go_roundg kj17
                        case measure => have := HK1.out; have := HJ17.out; omega
                        case rel => exact ⟨(wrap64 (x20_1 + 1)), (y330), (.slice Ao62 y330.length co62), (by first | rfl | (simp; done) | (simp [*]; done)), H', ⟨by have := HK1.out; have := HJ17.out; omega⟩, ⟨by (with_reducible repeat (first | apply Kd.R_alloc | apply Kd.R_drewN | apply Kd.R_drew)); exact Kd.R_mono (Kd.R_far (p := ⟨gb326, 2, none⟩) (Kd.R_types HO332.out BK326.out (by decide)) (fun _ hk => hk.2) (.slice Ao62 y330.length co62)) (fun _ hk => trivial)⟩, ⟨by (with_reducible repeat (first | refine blk_drewN ?_ _ | refine blk_drew ?_ | refine blk_alloc ?_ _)); refine blk_far ?_ NB323_326.out _; (with_reducible repeat (first | refine blk_drewN ?_ _ | refine blk_drew ?_ | refine blk_alloc ?_ _)); exact BK323.out⟩, ⟨by (with_reducible repeat (first | refine blk_drewN ?_ _ | refine blk_drew ?_ | refine blk_alloc ?_ _)); refine blk_far ?_ NB324_326.out _; (with_reducible repeat (first | refine blk_drewN ?_ _ | refine blk_drew ?_ | refine blk_alloc ?_ _)); exact BK324.out⟩, ⟨by (with_reducible repeat (first | refine blk_drewN ?_ _ | refine blk_drew ?_ | refine blk_alloc ?_ _)); refine blk_put (cs := #[.string a0_1, .int .i64 (l0_2.length : Int), u327002]) ?_ 2 _ rfl; (with_reducible repeat (first | refine blk_drewN ?_ _ | refine blk_drew ?_ | refine blk_alloc ?_ _)); exact BK326.out⟩, ⟨by repeat (first | (with_reducible first | exact HB.out | apply below_alloc | apply pw_below_drewN | apply below_drew1 | refine below_set ?_ GE323.out | refine below_set ?_ GE324.out | refine below_set ?_ GE326.out | refine below_set ?_ GE328.out | refine below_set ?_ GE329.out) | exact HB.out)⟩⟩
                      · rw [if_neg c48] at H
                        exact absurd H (by simp)
                    · rw [if_neg c47] at H
                      have c47b0 : (((rd_T120 l0_2 x20_1).f2).toList == ([] : List UInt8)) = false := beq_eq_false_iff_ne.mpr c47
                      have c47b1 : (((rd_T120 l0_2 x20_1).f2).toList != ([] : List UInt8)) = true := bne_iff_ne.mpr c47
                      replace H := Option.bind_eq_some_iff.mp H
                      obtain ⟨t333, A640, H⟩ := H
                      replace H : (if t333 < 0 then (spec_AlphaOf.l0 kj17 l0_2 (l0_2.length : Int) (wrap64 (x20_1 + 1)) a0_0 a0_1 l0_2 a0_1 (l0_2.length : Int) x327002_1) else (if x327002_1.length < 2513169434916 then (spec_AlphaOf.l0 kj17 l0_2 (l0_2.length : Int) (wrap64 (x20_1 + 1)) a0_0 a0_1 l0_2 a0_1 (l0_2.length : Int) (x327002_1 ++ [(⟨x20_1, x330001_17, t333, (⟨((rd_T120 l0_2 x20_1).f3.f0), ((rd_T120 l0_2 x20_1).f3.f1), ((rd_T120 l0_2 x20_1).f3.f2)⟩ : S104)⟩ : S106)])) else (none))) = some (r1, r2, r3) := H
                      have A64 := Aside0.mk A640
                      clear A640
                      by_cases c65 : t333 < 0
                      · rw [if_pos c65] at H
                        have c65b0 : decide (t333 < 0) = true := decide_eq_true c65
                        clear c65
                        have H' := Aside0.mk H
                        clear H
                        have hnb66 := NB328_323.out
                        have hnc66 := NB323_328.out
                        have hnb67 := NB328_324.out
                        have hnc67 := NB324_328.out
                        have hnb68 := NB328_326.out
                        have hnc68 := NB326_328.out
                        have hnb69 := NB328_329.out
                        have hnc69 := NB329_328.out
                        have hcz70_0 : wc.cell? ⟨gb328, 0, none⟩ = some (.int .i64 ((rd_T120 l0_2 x20_1).f0)) := (blk_cell BK328.out 0).trans rfl
                        have hcz70_1 : wc.cell? ⟨gb328, 1, none⟩ = some (.int .i64 ((rd_T120 l0_2 x20_1).f1)) := (blk_cell BK328.out 1).trans rfl
                        have hcz70_2 : wc.cell? ⟨gb328, 2, none⟩ = some (.string ((rd_T120 l0_2 x20_1).f2)) := (blk_cell BK328.out 2).trans rfl
                        have hcz70_3 : wc.cell? ⟨gb328, 3, none⟩ = some (.int .i64 ((rd_T120 l0_2 x20_1).f3.f0)) := (blk_cell BK328.out 3).trans rfl
                        have hcz70_4 : wc.cell? ⟨gb328, 4, none⟩ = some (.int .i64 ((rd_T120 l0_2 x20_1).f3.f1)) := (blk_cell BK328.out 4).trans rfl
                        have hcz70_5 : wc.cell? ⟨gb328, 5, none⟩ = some (.string ((rd_T120 l0_2 x20_1).f3.f2)) := (blk_cell BK328.out 5).trans rfl
                        have hfz70_0 := blk_frozen BK328.out 0
                        have hfz70_1 := blk_frozen BK328.out 1
                        have hfz70_2 := blk_frozen BK328.out 2
                        have hfz70_3 := blk_frozen BK328.out 3
                        have hfz70_4 := blk_frozen BK328.out 4
                        have hfz70_5 := blk_frozen BK328.out 5
                        have hnb71 := NB323_324.out
                        have hnc71 := NB324_323.out
                        have hnb72 := NB323_326.out
                        have hnc72 := NB326_323.out
                        have hnb73 := NB323_329.out
                        have hnc73 := NB329_323.out
                        have hcz74_0 : wc.cell? ⟨gb323, 0, none⟩ = some (.bool a0_0) := (blk_cell BK323.out 0).trans rfl
                        have hcz74_1 : wc.cell? ⟨gb323, 1, none⟩ = some (.string a0_1) := (blk_cell BK323.out 1).trans rfl
                        have hcz74_2 : wc.cell? ⟨gb323, 2, none⟩ = some (.slice (some ad327) l0_2.length c0_2) := (blk_cell BK323.out 2).trans rfl
                        have hfz74_0 := blk_frozen BK323.out 0
                        have hfz74_1 := blk_frozen BK323.out 1
                        have hfz74_2 := blk_frozen BK323.out 2
                        go_wp2_with (first | ((with_reducible refine gate_callee (f := 72) rfl ?_); refine goesL_ (some 45) rfl rfl Try.func72 (by kernel_rfl) rfl #[.agg #[.bool a0_0, .string a0_1, .slice (some ad327) l0_2.length c0_2], .int .i64 x20_1, .string ((rd_T120 l0_2 x20_1).f2)] rfl (by (try simp only [List.map_toArray, List.map_cons, List.map_nil]); first | done | rfl | (simp only [List.length_drop, List.length_take]; rfl)) ?_; (with_reducible refine (spec_l3Earlier.calls kj17 a0_0 a0_1 _ _ l0_2 x20_1 ((rd_T120 l0_2 x20_1).f2) t333 _ ?side1 ?side2 A64.out).mono ?_); (case side1 => repeat (first | exact (Kd.C_below HR0_2.out HB.out) | (with_reducible refine Kd.C_alloc ?_ _) | (with_reducible refine Kd.C_drewN ?_ _) | (with_reducible refine Kd.C_drew ?_))); (case side2 => exact HC0_2.out); rintro e w75 ⟨rfl, hb⟩; refine ⟨_, rfl, ?_⟩; have n0_ := Aside0.mk (Kd.R_below (by (with_reducible repeat (first | apply Kd.R_alloc | apply Kd.R_drewN | apply Kd.R_drew)); exact HO_327002.out) hb); have n1_ := Aside0.mk (blk_below (g := gb323) (o := .cells #[.bool a0_0, .string a0_1, .slice (some ad327) l0_2.length c0_2] 61 (0, 0)) (by (with_reducible repeat (first | refine blk_drewN ?_ _ | refine blk_drew ?_ | refine blk_alloc ?_ _)); exact BK323.out) hb); have n2_ := Aside0.mk (blk_below (g := gb324) (o := .cells #[.string (⟨#[]⟩ : ByteArray), .int .i64 0, .slice none 0 0] 34 (0, 0)) (by (with_reducible repeat (first | refine blk_drewN ?_ _ | refine blk_drew ?_ | refine blk_alloc ?_ _)); exact BK324.out) hb); have n3_ := Aside0.mk (blk_below (g := gb326) (o := .cells #[.string a0_1, .int .i64 (l0_2.length : Int), u327002] 34 (0, 0)) (by (with_reducible repeat (first | refine blk_drewN ?_ _ | refine blk_drew ?_ | refine blk_alloc ?_ _)); exact BK326.out) hb); have n4_ := Aside0.mk (blk_below (g := gb328) (o := .cells #[.int .i64 ((rd_T120 l0_2 x20_1).f0), .int .i64 ((rd_T120 l0_2 x20_1).f1), .string ((rd_T120 l0_2 x20_1).f2), .int .i64 ((rd_T120 l0_2 x20_1).f3.f0), .int .i64 ((rd_T120 l0_2 x20_1).f3.f1), .string ((rd_T120 l0_2 x20_1).f3.f2)] 120 (0, 0)) (by (with_reducible repeat (first | refine blk_drewN ?_ _ | refine blk_drew ?_ | refine blk_alloc ?_ _)); exact BK328.out) hb); have n5_ := Aside0.mk (blk_below (g := gb329) (o := .cells #[.int .i64 x20_1, .int .i64 x330001_17, .int .i64 (-1), .int .i64 ((rd_T120 l0_2 x20_1).f3.f0), .int .i64 ((rd_T120 l0_2 x20_1).f3.f1), .string ((rd_T120 l0_2 x20_1).f3.f2)] 106 (0, 0)) (by (with_reducible repeat (first | refine blk_drewN ?_ _ | refine blk_drew ?_ | refine blk_alloc ?_ _)); exact BK329.out) hb); have n6_ := Aside0.mk (below_step (by repeat (first | (with_reducible first | exact HB.out | apply below_alloc | apply pw_below_drewN | apply below_drew1 | refine below_set ?_ GE323.out | refine below_set ?_ GE324.out | refine below_set ?_ GE326.out | refine below_set ?_ GE328.out | refine below_set ?_ GE329.out) | exact HB.out)) hb); clear HO_327002; clear BK323; clear BK324; clear BK326; clear BK328; clear BK329; clear HB; have HO_327002 := n0_; have BK323 := n1_; have BK324 := n2_; have BK326 := n3_; have BK328 := n4_; have BK329 := n5_; have HB := n6_; clear n0_ n1_ n2_ n3_ n4_ n5_ n6_; (try clear hb); (try clear hb2); (try clear hk); (try clear hi); have hnb76 := NB329_324.out; have hnc76 := NB324_329.out; have hnb77 := NB329_326.out; have hnc77 := NB326_329.out; have hcz78_0 : w75.cell? ⟨gb329, 0, none⟩ = some (.int .i64 x20_1) := (blk_cell BK329.out 0).trans rfl; have hcz78_1 : w75.cell? ⟨gb329, 1, none⟩ = some (.int .i64 x330001_17) := (blk_cell BK329.out 1).trans rfl; have hcz78_2 : w75.cell? ⟨gb329, 2, none⟩ = some (.int .i64 (-1)) := (blk_cell BK329.out 2).trans rfl; have hcz78_3 : w75.cell? ⟨gb329, 3, none⟩ = some (.int .i64 ((rd_T120 l0_2 x20_1).f3.f0)) := (blk_cell BK329.out 3).trans rfl; have hcz78_4 : w75.cell? ⟨gb329, 4, none⟩ = some (.int .i64 ((rd_T120 l0_2 x20_1).f3.f1)) := (blk_cell BK329.out 4).trans rfl; have hcz78_5 : w75.cell? ⟨gb329, 5, none⟩ = some (.string ((rd_T120 l0_2 x20_1).f3.f2)) := (blk_cell BK329.out 5).trans rfl; have hfz78_0 := blk_frozen BK329.out 0; have hfz78_1 := blk_frozen BK329.out 1; have hfz78_2 := blk_frozen BK329.out 2; have hfz78_3 := blk_frozen BK329.out 3; have hfz78_4 := blk_frozen BK329.out 4; have hfz78_5 := blk_frozen BK329.out 5))
                        go_roundg kj17
                        case measure => have := HK1.out; have := HJ17.out; omega
                        case rel => exact ⟨(wrap64 (x20_1 + 1)), (x327002_1), (u327002), (by first | rfl | (simp; done) | (simp [*]; done)), H', ⟨by have := HK1.out; have := HJ17.out; omega⟩, ⟨by (with_reducible repeat (first | apply Kd.R_alloc | apply Kd.R_drewN | apply Kd.R_drew)); exact Kd.R_mono (Kd.R_far (p := ⟨gb329, 2, none⟩) (Kd.R_mono HO_327002.out (fun k_ hk => (⟨hk, hk⟩ : _ ∧ k_ ≠ gb329))) (fun _ hk => hk.2) (.int .i64 t333)) (fun _ hk => trivial)⟩, ⟨by (with_reducible repeat (first | refine blk_drewN ?_ _ | refine blk_drew ?_ | refine blk_alloc ?_ _)); refine blk_far ?_ NB323_329.out _; (with_reducible repeat (first | refine blk_drewN ?_ _ | refine blk_drew ?_ | refine blk_alloc ?_ _)); exact BK323.out⟩, ⟨by (with_reducible repeat (first | refine blk_drewN ?_ _ | refine blk_drew ?_ | refine blk_alloc ?_ _)); refine blk_far ?_ NB324_329.out _; (with_reducible repeat (first | refine blk_drewN ?_ _ | refine blk_drew ?_ | refine blk_alloc ?_ _)); exact BK324.out⟩, ⟨by (with_reducible repeat (first | refine blk_drewN ?_ _ | refine blk_drew ?_ | refine blk_alloc ?_ _)); refine blk_far ?_ NB326_329.out _; (with_reducible repeat (first | refine blk_drewN ?_ _ | refine blk_drew ?_ | refine blk_alloc ?_ _)); exact BK326.out⟩, ⟨by repeat (first | (with_reducible first | exact HB.out | apply below_alloc | apply pw_below_drewN | apply below_drew1 | refine below_set ?_ GE323.out | refine below_set ?_ GE324.out | refine below_set ?_ GE326.out | refine below_set ?_ GE328.out | refine below_set ?_ GE329.out) | exact HB.out)⟩⟩
                      · rw [if_neg c65] at H
                        have c65b0 : decide (t333 < 0) = false := decide_eq_false c65
                        clear c65
                        by_cases c79 : x327002_1.length < 2513169434916
                        · rw [if_pos c79] at H
                          have LMc79 := Aside0.mk c79
                          clear c79
                          obtain ⟨y334, hy334⟩ : ∃ y_ : List (S106), y_ = (x327002_1 ++ [(⟨x20_1, x330001_17, t333, (⟨((rd_T120 l0_2 x20_1).f3.f0), ((rd_T120 l0_2 x20_1).f3.f1), ((rd_T120 l0_2 x20_1).f3.f2)⟩ : S104)⟩ : S106)]) := ⟨_, rfl⟩
                          replace H : (spec_AlphaOf.l0 kj17 l0_2 (l0_2.length : Int) (wrap64 (x20_1 + 1)) a0_0 a0_1 l0_2 a0_1 (l0_2.length : Int) y334) = some (r1, r2, r3) := by first | (rw [hy334]; with_reducible exact H) | (have H2_ := (Option.bind_some _ _).symm.trans H; rw [hy334]; with_reducible exact H2_) | (have H2_ := (Option.bind_some _ _).symm.trans H; with_reducible exact H2_) | with_reducible exact H | (rw [hy334]; exact H) | exact H
                          have Ny334 := Aside0.mk hy334
                          clear hy334
                          have H' := Aside0.mk H
                          clear H
                          have hnb80 := NB328_323.out
                          have hnc80 := NB323_328.out
                          have hnb81 := NB328_324.out
                          have hnc81 := NB324_328.out
                          have hnb82 := NB328_326.out
                          have hnc82 := NB326_328.out
                          have hnb83 := NB328_329.out
                          have hnc83 := NB329_328.out
                          have hcz84_0 : wc.cell? ⟨gb328, 0, none⟩ = some (.int .i64 ((rd_T120 l0_2 x20_1).f0)) := (blk_cell BK328.out 0).trans rfl
                          have hcz84_1 : wc.cell? ⟨gb328, 1, none⟩ = some (.int .i64 ((rd_T120 l0_2 x20_1).f1)) := (blk_cell BK328.out 1).trans rfl
                          have hcz84_2 : wc.cell? ⟨gb328, 2, none⟩ = some (.string ((rd_T120 l0_2 x20_1).f2)) := (blk_cell BK328.out 2).trans rfl
                          have hcz84_3 : wc.cell? ⟨gb328, 3, none⟩ = some (.int .i64 ((rd_T120 l0_2 x20_1).f3.f0)) := (blk_cell BK328.out 3).trans rfl
                          have hcz84_4 : wc.cell? ⟨gb328, 4, none⟩ = some (.int .i64 ((rd_T120 l0_2 x20_1).f3.f1)) := (blk_cell BK328.out 4).trans rfl
                          have hcz84_5 : wc.cell? ⟨gb328, 5, none⟩ = some (.string ((rd_T120 l0_2 x20_1).f3.f2)) := (blk_cell BK328.out 5).trans rfl
                          have hfz84_0 := blk_frozen BK328.out 0
                          have hfz84_1 := blk_frozen BK328.out 1
                          have hfz84_2 := blk_frozen BK328.out 2
                          have hfz84_3 := blk_frozen BK328.out 3
                          have hfz84_4 := blk_frozen BK328.out 4
                          have hfz84_5 := blk_frozen BK328.out 5
                          have hnb85 := NB323_324.out
                          have hnc85 := NB324_323.out
                          have hnb86 := NB323_326.out
                          have hnc86 := NB326_323.out
                          have hnb87 := NB323_329.out
                          have hnc87 := NB329_323.out
                          have hcz88_0 : wc.cell? ⟨gb323, 0, none⟩ = some (.bool a0_0) := (blk_cell BK323.out 0).trans rfl
                          have hcz88_1 : wc.cell? ⟨gb323, 1, none⟩ = some (.string a0_1) := (blk_cell BK323.out 1).trans rfl
                          have hcz88_2 : wc.cell? ⟨gb323, 2, none⟩ = some (.slice (some ad327) l0_2.length c0_2) := (blk_cell BK323.out 2).trans rfl
                          have hfz88_0 := blk_frozen BK323.out 0
                          have hfz88_1 := blk_frozen BK323.out 1
                          have hfz88_2 := blk_frozen BK323.out 2
                          go_wp2_with (first | ((with_reducible refine gate_callee (f := 72) rfl ?_); refine goesL_ (some 45) rfl rfl Try.func72 (by kernel_rfl) rfl #[.agg #[.bool a0_0, .string a0_1, .slice (some ad327) l0_2.length c0_2], .int .i64 x20_1, .string ((rd_T120 l0_2 x20_1).f2)] rfl (by (try simp only [List.map_toArray, List.map_cons, List.map_nil]); first | done | rfl | (simp only [List.length_drop, List.length_take]; rfl)) ?_; (with_reducible refine (spec_l3Earlier.calls kj17 a0_0 a0_1 _ _ l0_2 x20_1 ((rd_T120 l0_2 x20_1).f2) t333 _ ?side1 ?side2 A64.out).mono ?_); (case side1 => repeat (first | exact (Kd.C_below HR0_2.out HB.out) | (with_reducible refine Kd.C_alloc ?_ _) | (with_reducible refine Kd.C_drewN ?_ _) | (with_reducible refine Kd.C_drew ?_))); (case side2 => exact HC0_2.out); rintro e w89 ⟨rfl, hb⟩; refine ⟨_, rfl, ?_⟩; have n0_ := Aside0.mk (Kd.R_below (by (with_reducible repeat (first | apply Kd.R_alloc | apply Kd.R_drewN | apply Kd.R_drew)); exact HO_327002.out) hb); have n1_ := Aside0.mk (blk_below (g := gb323) (o := .cells #[.bool a0_0, .string a0_1, .slice (some ad327) l0_2.length c0_2] 61 (0, 0)) (by (with_reducible repeat (first | refine blk_drewN ?_ _ | refine blk_drew ?_ | refine blk_alloc ?_ _)); exact BK323.out) hb); have n2_ := Aside0.mk (blk_below (g := gb324) (o := .cells #[.string (⟨#[]⟩ : ByteArray), .int .i64 0, .slice none 0 0] 34 (0, 0)) (by (with_reducible repeat (first | refine blk_drewN ?_ _ | refine blk_drew ?_ | refine blk_alloc ?_ _)); exact BK324.out) hb); have n3_ := Aside0.mk (blk_below (g := gb326) (o := .cells #[.string a0_1, .int .i64 (l0_2.length : Int), u327002] 34 (0, 0)) (by (with_reducible repeat (first | refine blk_drewN ?_ _ | refine blk_drew ?_ | refine blk_alloc ?_ _)); exact BK326.out) hb); have n4_ := Aside0.mk (blk_below (g := gb328) (o := .cells #[.int .i64 ((rd_T120 l0_2 x20_1).f0), .int .i64 ((rd_T120 l0_2 x20_1).f1), .string ((rd_T120 l0_2 x20_1).f2), .int .i64 ((rd_T120 l0_2 x20_1).f3.f0), .int .i64 ((rd_T120 l0_2 x20_1).f3.f1), .string ((rd_T120 l0_2 x20_1).f3.f2)] 120 (0, 0)) (by (with_reducible repeat (first | refine blk_drewN ?_ _ | refine blk_drew ?_ | refine blk_alloc ?_ _)); exact BK328.out) hb); have n5_ := Aside0.mk (blk_below (g := gb329) (o := .cells #[.int .i64 x20_1, .int .i64 x330001_17, .int .i64 (-1), .int .i64 ((rd_T120 l0_2 x20_1).f3.f0), .int .i64 ((rd_T120 l0_2 x20_1).f3.f1), .string ((rd_T120 l0_2 x20_1).f3.f2)] 106 (0, 0)) (by (with_reducible repeat (first | refine blk_drewN ?_ _ | refine blk_drew ?_ | refine blk_alloc ?_ _)); exact BK329.out) hb); have n6_ := Aside0.mk (below_step (by repeat (first | (with_reducible first | exact HB.out | apply below_alloc | apply pw_below_drewN | apply below_drew1 | refine below_set ?_ GE323.out | refine below_set ?_ GE324.out | refine below_set ?_ GE326.out | refine below_set ?_ GE328.out | refine below_set ?_ GE329.out) | exact HB.out)) hb); clear HO_327002; clear BK323; clear BK324; clear BK326; clear BK328; clear BK329; clear HB; have HO_327002 := n0_; have BK323 := n1_; have BK324 := n2_; have BK326 := n3_; have BK328 := n4_; have BK329 := n5_; have HB := n6_; clear n0_ n1_ n2_ n3_ n4_ n5_ n6_; (try clear hb); (try clear hb2); (try clear hk); (try clear hi); have hnb90 := NB329_324.out; have hnc90 := NB324_329.out; have hnb91 := NB329_326.out; have hnc91 := NB326_329.out; have hcz92_0 : w89.cell? ⟨gb329, 0, none⟩ = some (.int .i64 x20_1) := (blk_cell BK329.out 0).trans rfl; have hcz92_1 : w89.cell? ⟨gb329, 1, none⟩ = some (.int .i64 x330001_17) := (blk_cell BK329.out 1).trans rfl; have hcz92_2 : w89.cell? ⟨gb329, 2, none⟩ = some (.int .i64 (-1)) := (blk_cell BK329.out 2).trans rfl; have hcz92_3 : w89.cell? ⟨gb329, 3, none⟩ = some (.int .i64 ((rd_T120 l0_2 x20_1).f3.f0)) := (blk_cell BK329.out 3).trans rfl; have hcz92_4 : w89.cell? ⟨gb329, 4, none⟩ = some (.int .i64 ((rd_T120 l0_2 x20_1).f3.f1)) := (blk_cell BK329.out 4).trans rfl; have hcz92_5 : w89.cell? ⟨gb329, 5, none⟩ = some (.string ((rd_T120 l0_2 x20_1).f3.f2)) := (blk_cell BK329.out 5).trans rfl; have hfz92_0 := blk_frozen BK329.out 0; have hfz92_1 := blk_frozen BK329.out 1; have hfz92_2 := blk_frozen BK329.out 2; have hfz92_3 := blk_frozen BK329.out 3; have hfz92_4 := blk_frozen BK329.out 4; have hfz92_5 := blk_frozen BK329.out 5; have hnb93 := NB326_324.out; have hnc93 := NB324_326.out; have hcz94_0 : w89.cell? ⟨gb326, 0, none⟩ = some (.string a0_1) := (blk_cell BK326.out 0).trans rfl; have hcz94_1 : w89.cell? ⟨gb326, 1, none⟩ = some (.int .i64 (l0_2.length : Int)) := (blk_cell BK326.out 1).trans rfl; have hcz94_2 : w89.cell? ⟨gb326, 2, none⟩ = some (u327002) := (blk_cell BK326.out 2).trans rfl; have hfz94_0 := blk_frozen BK326.out 0; have hfz94_1 := blk_frozen BK326.out 1; have hfz94_2 := blk_frozen BK326.out 2) | ((with_reducible refine gate_builtin (b := .append) (xs := #[.tmp 51, .tmp 53]) rfl ?_); at_builtin; refine Kd.R_append k106 (w0 := w) w.heap.size rfl (.tmp 51) (.tmp 53) 32 106 (.agg #[(.int .i64 0), (.int .i64 0), (.int .i64 0), (.int .i64 0), (.int .i64 0), (.string ⟨#[]⟩)]) 56 rfl Try.underlying32 info106 rfl (by decide) (by omega) u327002 x327002_1 (⟨x20_1, x330001_17, t333, (⟨((rd_T120 l0_2 x20_1).f3.f0), ((rd_T120 l0_2 x20_1).f3.f1), ((rd_T120 l0_2 x20_1).f3.f2)⟩ : S104)⟩ : S106) [.int .i64 x20_1, .int .i64 x330001_17, .int .i64 t333, .int .i64 ((rd_T120 l0_2 x20_1).f3.f0), .int .i64 ((rd_T120 l0_2 x20_1).f3.f1), .string ((rd_T120 l0_2 x20_1).f3.f2)] (fun k_ => k_ ≠ gb329) (fun _ => False) rfl (by first | (go_simp; done) | (go_simp; rfl)) ?aP (fun _ hk => hk.elim) ?aF ?aO ?aB ?aS ?aL ?_; (case aP => exact k106_mkM _ _ _ (⟨x20_1, x330001_17, t333, (⟨((rd_T120 l0_2 x20_1).f3.f0), ((rd_T120 l0_2 x20_1).f3.f1), ((rd_T120 l0_2 x20_1).f3.f2)⟩ : S104)⟩ : S106)); (case aB => exact (by repeat (first | (with_reducible first | exact HB.out | apply below_alloc | apply pw_below_drewN | apply below_drew1 | refine below_set ?_ GE323.out | refine below_set ?_ GE324.out | refine below_set ?_ GE326.out | refine below_set ?_ GE328.out | refine below_set ?_ GE329.out) | exact HB.out))); (case aF => exact (fun k_ hk => Kd.freshB (g := gb329) (o := .cells #[.int .i64 x20_1, .int .i64 x330001_17, .int .i64 t333, .int .i64 ((rd_T120 l0_2 x20_1).f3.f0), .int .i64 ((rd_T120 l0_2 x20_1).f3.f1), .string ((rd_T120 l0_2 x20_1).f3.f2)] 106 (0, 0)) (by (with_reducible repeat (first | refine blk_drewN ?_ _ | refine blk_drew ?_ | refine blk_alloc ?_ _)); refine blk_put (cs := #[.int .i64 x20_1, .int .i64 x330001_17, .int .i64 (-1), .int .i64 ((rd_T120 l0_2 x20_1).f3.f0), .int .i64 ((rd_T120 l0_2 x20_1).f3.f1), .string ((rd_T120 l0_2 x20_1).f3.f2)]) ?_ 2 _ rfl; (with_reducible repeat (first | refine blk_drewN ?_ _ | refine blk_drew ?_ | refine blk_alloc ?_ _)); exact BK329.out) k_ hk)); (case aO => exact (by (with_reducible repeat (first | apply Kd.R_alloc | apply Kd.R_drewN | apply Kd.R_drew)); exact Kd.R_mono (Kd.R_far (p := ⟨gb329, 2, none⟩) (Kd.R_mono HO_327002.out (fun k_ hk => (⟨hk, hk⟩ : _ ∧ k_ ≠ gb329))) (fun _ hk => hk.2) (.int .i64 t333)) (fun _ hk => hk.1))); (case aS => exact (below_size (by repeat (first | (with_reducible first | exact HB.out | apply below_alloc | apply pw_below_drewN | apply below_drew1 | refine below_set ?_ GE323.out | refine below_set ?_ GE324.out | refine below_set ?_ GE326.out | refine below_set ?_ GE328.out | refine below_set ?_ GE329.out) | exact HB.out)))); (case aL => have := LMc79.out; omega); intro v335 w95 ho hb hg hat; rw [← Ny334.out] at ho; have n0_ := Aside0.mk (blk_grown (g := gb323) (o := .cells #[.bool a0_0, .string a0_1, .slice (some ad327) l0_2.length c0_2] 61 (0, 0)) (by (with_reducible repeat (first | refine blk_drewN ?_ _ | refine blk_drew ?_ | refine blk_alloc ?_ _)); refine blk_far ?_ NB323_329.out _; (with_reducible repeat (first | refine blk_drewN ?_ _ | refine blk_drew ?_ | refine blk_alloc ?_ _)); exact BK323.out) hg (Kd.R_ne HO_327002.out BK323.out (by decide))); have n1_ := Aside0.mk (blk_grown (g := gb324) (o := .cells #[.string (⟨#[]⟩ : ByteArray), .int .i64 0, .slice none 0 0] 34 (0, 0)) (by (with_reducible repeat (first | refine blk_drewN ?_ _ | refine blk_drew ?_ | refine blk_alloc ?_ _)); refine blk_far ?_ NB324_329.out _; (with_reducible repeat (first | refine blk_drewN ?_ _ | refine blk_drew ?_ | refine blk_alloc ?_ _)); exact BK324.out) hg (Kd.R_ne HO_327002.out BK324.out (by decide))); have n2_ := Aside0.mk (blk_grown (g := gb326) (o := .cells #[.string a0_1, .int .i64 (l0_2.length : Int), u327002] 34 (0, 0)) (by (with_reducible repeat (first | refine blk_drewN ?_ _ | refine blk_drew ?_ | refine blk_alloc ?_ _)); refine blk_far ?_ NB326_329.out _; (with_reducible repeat (first | refine blk_drewN ?_ _ | refine blk_drew ?_ | refine blk_alloc ?_ _)); exact BK326.out) hg (Kd.R_ne HO_327002.out BK326.out (by decide))); have n3_ := Aside0.mk (blk_grown (g := gb328) (o := .cells #[.int .i64 ((rd_T120 l0_2 x20_1).f0), .int .i64 ((rd_T120 l0_2 x20_1).f1), .string ((rd_T120 l0_2 x20_1).f2), .int .i64 ((rd_T120 l0_2 x20_1).f3.f0), .int .i64 ((rd_T120 l0_2 x20_1).f3.f1), .string ((rd_T120 l0_2 x20_1).f3.f2)] 120 (0, 0)) (by (with_reducible repeat (first | refine blk_drewN ?_ _ | refine blk_drew ?_ | refine blk_alloc ?_ _)); refine blk_far ?_ NB328_329.out _; (with_reducible repeat (first | refine blk_drewN ?_ _ | refine blk_drew ?_ | refine blk_alloc ?_ _)); exact BK328.out) hg (Kd.R_ne HO_327002.out BK328.out (by decide))); have n4_ := Aside0.mk (blk_grown (g := gb329) (o := .cells #[.int .i64 x20_1, .int .i64 x330001_17, .int .i64 t333, .int .i64 ((rd_T120 l0_2 x20_1).f3.f0), .int .i64 ((rd_T120 l0_2 x20_1).f3.f1), .string ((rd_T120 l0_2 x20_1).f3.f2)] 106 (0, 0)) (by (with_reducible repeat (first | refine blk_drewN ?_ _ | refine blk_drew ?_ | refine blk_alloc ?_ _)); refine blk_put (cs := #[.int .i64 x20_1, .int .i64 x330001_17, .int .i64 (-1), .int .i64 ((rd_T120 l0_2 x20_1).f3.f0), .int .i64 ((rd_T120 l0_2 x20_1).f3.f1), .string ((rd_T120 l0_2 x20_1).f3.f2)]) ?_ 2 _ rfl; (with_reducible repeat (first | refine blk_drewN ?_ _ | refine blk_drew ?_ | refine blk_alloc ?_ _)); exact BK329.out) hg (Kd.R_away HO_327002.out (fun _ hk => hk))); have n5_ := Aside0.mk (hb); have n6_ := Aside0.mk (ho); clear BK323; clear BK324; clear BK326; clear BK328; clear BK329; clear HB; clear HO_327002; have BK323 := n0_; have BK324 := n1_; have BK326 := n2_; have BK328 := n3_; have BK329 := n4_; have HB := n5_; have HO336 := n6_; clear n0_ n1_ n2_ n3_ n4_ n5_ n6_; clear ho hb hg hat; obtain ⟨Ao96, co96, eo96⟩ := Kd.R_slice HO336.out; subst eo96; have hcz97_0 : w95.cell? ⟨gb326, 0, none⟩ = some (.string a0_1) := (blk_cell BK326.out 0).trans rfl; have hcz97_1 : w95.cell? ⟨gb326, 1, none⟩ = some (.int .i64 (l0_2.length : Int)) := (blk_cell BK326.out 1).trans rfl; have hcz97_2 : w95.cell? ⟨gb326, 2, none⟩ = some (u327002) := (blk_cell BK326.out 2).trans rfl; have hfz97_0 := blk_frozen BK326.out 0; have hfz97_1 := blk_frozen BK326.out 1; have hfz97_2 := blk_frozen BK326.out 2))
                          go_roundg kj17
                          case measure => have := HK1.out; have := HJ17.out; omega
                          case rel => exact ⟨(wrap64 (x20_1 + 1)), (y334), (.slice Ao96 y334.length co96), (by first | rfl | (simp; done) | (simp [*]; done)), H', ⟨by have := HK1.out; have := HJ17.out; omega⟩, ⟨by (with_reducible repeat (first | apply Kd.R_alloc | apply Kd.R_drewN | apply Kd.R_drew)); exact Kd.R_mono (Kd.R_far (p := ⟨gb326, 2, none⟩) (Kd.R_types HO336.out BK326.out (by decide)) (fun _ hk => hk.2) (.slice Ao96 y334.length co96)) (fun _ hk => trivial)⟩, ⟨by (with_reducible repeat (first | refine blk_drewN ?_ _ | refine blk_drew ?_ | refine blk_alloc ?_ _)); refine blk_far ?_ NB323_326.out _; (with_reducible repeat (first | refine blk_drewN ?_ _ | refine blk_drew ?_ | refine blk_alloc ?_ _)); exact BK323.out⟩, ⟨by (with_reducible repeat (first | refine blk_drewN ?_ _ | refine blk_drew ?_ | refine blk_alloc ?_ _)); refine blk_far ?_ NB324_326.out _; (with_reducible repeat (first | refine blk_drewN ?_ _ | refine blk_drew ?_ | refine blk_alloc ?_ _)); exact BK324.out⟩, ⟨by (with_reducible repeat (first | refine blk_drewN ?_ _ | refine blk_drew ?_ | refine blk_alloc ?_ _)); refine blk_put (cs := #[.string a0_1, .int .i64 (l0_2.length : Int), u327002]) ?_ 2 _ rfl; (with_reducible repeat (first | refine blk_drewN ?_ _ | refine blk_drew ?_ | refine blk_alloc ?_ _)); exact BK326.out⟩, ⟨by repeat (first | (with_reducible first | exact HB.out | apply below_alloc | apply pw_below_drewN | apply below_drew1 | refine below_set ?_ GE323.out | refine below_set ?_ GE324.out | refine below_set ?_ GE326.out | refine below_set ?_ GE328.out | refine below_set ?_ GE329.out) | exact HB.out)⟩⟩
                        · rw [if_neg c79] at H
                          exact absurd H (by simp)
            · rw [if_neg c17] at H
              exact absurd H (by simp)
          · rw [if_neg c16] at H
            exact absurd H (by simp)
        · rw [if_neg c15] at H
          have c15b0 : decide (x20_1 < (l0_2.length : Int)) = false := decide_eq_false c15
          clear c15
          simp only [Option.some.injEq, Prod.mk.injEq] at H
          obtain ⟨rfl, rfl, rfl⟩ := H
          have hnb98 := NB326_323.out
          have hnc98 := NB323_326.out
          have hnb99 := NB326_324.out
          have hnc99 := NB324_326.out
          have hcz100_0 : wr.cell? ⟨gb326, 0, none⟩ = some (.string a0_1) := (blk_cell BK326.out 0).trans rfl
          have hcz100_1 : wr.cell? ⟨gb326, 1, none⟩ = some (.int .i64 (l0_2.length : Int)) := (blk_cell BK326.out 1).trans rfl
          have hcz100_2 : wr.cell? ⟨gb326, 2, none⟩ = some (u327002) := (blk_cell BK326.out 2).trans rfl
          have hfz100_0 := blk_frozen BK326.out 0
          have hfz100_1 := blk_frozen BK326.out 1
          have hfz100_2 := blk_frozen BK326.out 2
          have hnb101 := NB324_323.out
          have hnc101 := NB323_324.out
          have hcz102_0 : wr.cell? ⟨gb324, 0, none⟩ = some (.string (⟨#[]⟩ : ByteArray)) := (blk_cell BK324.out 0).trans rfl
          have hcz102_1 : wr.cell? ⟨gb324, 1, none⟩ = some (.int .i64 0) := (blk_cell BK324.out 1).trans rfl
          have hcz102_2 : wr.cell? ⟨gb324, 2, none⟩ = some (.slice none 0 0) := (blk_cell BK324.out 2).trans rfl
          have hfz102_0 := blk_frozen BK324.out 0
          have hfz102_1 := blk_frozen BK324.out 1
          have hfz102_2 := blk_frozen BK324.out 2
          obtain ⟨Ao103, co103, eo103⟩ := Kd.R_slice HO_327002.out
          subst eo103
          go_wp2
          refine bodyPost_ret (results_cell_row rfl _ _ gb324 34 #[.string a0_1, .int .i64 (l0_2.length : Int), .slice Ao103 x327002_1.length co103] (0, 0) _ rfl (by (with_reducible repeat (first | refine blk_drewN ?_ _ | refine blk_drew ?_ | refine blk_alloc ?_ _)); refine blk_put (cs := #[.string a0_1, .int .i64 (l0_2.length : Int), .slice none 0 0]) ?_ 2 _ rfl; (with_reducible repeat (first | refine blk_drewN ?_ _ | refine blk_drew ?_ | refine blk_alloc ?_ _)); refine blk_put (cs := #[.string a0_1, .int .i64 0, .slice none 0 0]) ?_ 1 _ rfl; (with_reducible repeat (first | refine blk_drewN ?_ _ | refine blk_drew ?_ | refine blk_alloc ?_ _)); refine blk_put (cs := #[.string (⟨#[]⟩ : ByteArray), .int .i64 0, .slice none 0 0]) ?_ 0 _ rfl; (with_reducible repeat (first | refine blk_drewN ?_ _ | refine blk_drew ?_ | refine blk_alloc ?_ _)); exact BK324.out) Try.underlying34 rfl (by kernel_rfl)) rfl ?_
          exact ⟨_, by first | rfl | (simp [errW_none, errW_some] <;> rfl) | (simp [*, errW_none, errW_some] <;> rfl), by (with_reducible repeat (first | apply Kd.R_alloc | apply Kd.R_drewN | apply Kd.R_drew)); exact Kd.R_mono (Kd.R_far (p := ⟨gb324, 2, none⟩) (Kd.R_far (p := ⟨gb324, 1, none⟩) (Kd.R_far (p := ⟨gb324, 0, none⟩) (Kd.R_types HO_327002.out BK324.out (by decide)) (fun _ hk => hk.2) (.string a0_1)) (fun _ hk => hk.2) (.int .i64 (l0_2.length : Int))) (fun _ hk => hk.2) (.slice Ao103 x327002_1.length co103)) (fun _ hk => trivial), by repeat (first | (with_reducible first | exact HB.out | apply below_alloc | apply pw_below_drewN | apply below_drew1 | refine below_set ?_ GE323.out | refine below_set ?_ GE324.out | refine below_set ?_ GE326.out) | exact HB.out)⟩
  · replace c3 := Bool.eq_false_iff.mpr c3
    subst c3
    have H1 : (some ((⟨#[]⟩ : ByteArray), 0, ([] : List (S106)))) = some (r1, r2, r3) := by first | (rw [if_neg (show ¬ (false = true) by decide)] at H; exact H) | rfl
    clear H
    have H := H1
    clear H1
    simp only [Option.some.injEq, Prod.mk.injEq] at H
    obtain ⟨rfl, rfl, rfl⟩ := H
    go_enter Try.func24, Try.ntmps24
    go_wp2_with (first | ((with_reducible refine gate_dst (N := 1) rfl ?_); refine box_event ?hg (N := 1) ?hd (cs := #[.bool a0_0, .string a0_1, .slice A0_2 l0_2.length c0_2]) (t := 61) ?hr ?_; (case hd => rfl); (case hg => rfl); (case hr => first | (go_simp; done) | (go_simp; rfl)); intro gb323 hg w104 hbox hb; have n0_ := Aside0.mk (below_step (by repeat (first | (with_reducible first | exact HB.out | apply below_alloc | apply pw_below_drewN | apply below_drew1) | exact HB.out)) hb); have n1_ := Aside0.mk (hbox); have n2_ := Aside0.mk ((by rw [hg]; exact (below_size (by repeat (first | (with_reducible first | exact HB.out | apply below_alloc | apply pw_below_drewN | apply below_drew1) | exact HB.out))) : w.heap.size ≤ gb323)); have n3_ := Aside0.mk ((by rw [hg]; exact (below_size (by repeat (first | (with_reducible first | exact HB.out | apply below_alloc | apply pw_below_drewN | apply below_drew1) | exact HB.out))) : w.heap.size ≤ gb323)); clear HB; have HB := n0_; have BK323 := n1_; have GW323 := n2_; have GE323 := n3_; clear n0_ n1_ n2_ n3_; clear hb hbox hg) | ((with_reducible refine gate_dst (N := 2) rfl ?_); refine box_event ?hg (N := 2) ?hd (cs := #[.string (⟨#[]⟩ : ByteArray), .int .i64 0, .slice none 0 0]) (t := 34) ?hr ?_; (case hd => rfl); (case hg => rfl); (case hr => first | (go_simp; done) | (go_simp; rfl)); intro gb324 hg w105 hbox hb; have n0_ := Aside0.mk (blk_below (g := gb323) (o := .cells #[.bool a0_0, .string a0_1, .slice A0_2 l0_2.length c0_2] 61 (0, 0)) (by (with_reducible repeat (first | refine blk_drewN ?_ _ | refine blk_drew ?_ | refine blk_alloc ?_ _)); exact BK323.out) hb); have n1_ := Aside0.mk (below_step (by repeat (first | (with_reducible first | exact HB.out | apply below_alloc | apply pw_below_drewN | apply below_drew1 | refine below_set ?_ GE323.out) | exact HB.out)) hb); have n2_ := Aside0.mk (hbox); have n3_ := Aside0.mk ((by rw [hg]; exact (below_size (by repeat (first | (with_reducible first | exact HB.out | apply below_alloc | apply pw_below_drewN | apply below_drew1 | refine below_set ?_ GE323.out) | exact HB.out))) : w.heap.size ≤ gb324)); have n4_ := Aside0.mk ((by rw [hg]; exact (below_size (by repeat (first | (with_reducible first | exact HB.out | apply below_alloc | apply pw_below_drewN | apply below_drew1 | refine below_set ?_ GE323.out) | exact HB.out))) : w.heap.size ≤ gb324)); have n5_ := Aside0.mk ((by rw [hg]; exact Nat.ne_of_lt (blk_lt (g := gb323) (o := .cells #[.bool a0_0, .string a0_1, .slice A0_2 l0_2.length c0_2] 61 (0, 0)) (by (with_reducible repeat (first | refine blk_drewN ?_ _ | refine blk_drew ?_ | refine blk_alloc ?_ _)); exact BK323.out)) : gb323 ≠ gb324)); have n6_ := Aside0.mk ((by rw [hg]; exact Nat.ne_of_gt (blk_lt (g := gb323) (o := .cells #[.bool a0_0, .string a0_1, .slice A0_2 l0_2.length c0_2] 61 (0, 0)) (by (with_reducible repeat (first | refine blk_drewN ?_ _ | refine blk_drew ?_ | refine blk_alloc ?_ _)); exact BK323.out)) : gb324 ≠ gb323)); clear BK323; clear HB; have BK323 := n0_; have HB := n1_; have BK324 := n2_; have GW324 := n3_; have GE324 := n4_; have NB323_324 := n5_; have NB324_323 := n6_; clear n0_ n1_ n2_ n3_ n4_ n5_ n6_; clear hb hbox hg; have hnb106 := NB323_324.out; have hnc106 := NB324_323.out; have hcz107_0 : w105.cell? ⟨gb323, 0, none⟩ = some (.bool a0_0) := (blk_cell BK323.out 0).trans rfl; have hcz107_1 : w105.cell? ⟨gb323, 1, none⟩ = some (.string a0_1) := (blk_cell BK323.out 1).trans rfl; have hcz107_2 : w105.cell? ⟨gb323, 2, none⟩ = some (.slice A0_2 l0_2.length c0_2) := (blk_cell BK323.out 2).trans rfl; have hfz107_0 := blk_frozen BK323.out 0; have hfz107_1 := blk_frozen BK323.out 1; have hfz107_2 := blk_frozen BK323.out 2) | ((with_reducible refine gate_callee (f := 71) rfl ?_); refine goesL_ (some 8) rfl rfl Try.func71 (by kernel_rfl) rfl #[.agg #[.bool a0_0, .string a0_1, .slice A0_2 l0_2.length c0_2]] rfl (by (try simp only [List.map_toArray, List.map_cons, List.map_nil]); first | done | rfl | (simp only [List.length_drop, List.length_take]; rfl)) ?_; (with_reducible refine (spec_l2GoodPat.calls k a0_0 a0_1 _ _ l0_2 false _ ?side1 ?side2 A2.out).mono ?_); (case side1 => repeat (first | exact (Kd.C_below HR0_2.out HB.out) | (with_reducible refine Kd.C_alloc ?_ _) | (with_reducible refine Kd.C_drewN ?_ _) | (with_reducible refine Kd.C_drew ?_))); (case side2 => exact HC0_2.out); rintro e w108 ⟨rfl, hb⟩; refine ⟨_, rfl, ?_⟩; have n0_ := Aside0.mk (blk_below (g := gb323) (o := .cells #[.bool a0_0, .string a0_1, .slice A0_2 l0_2.length c0_2] 61 (0, 0)) (by (with_reducible repeat (first | refine blk_drewN ?_ _ | refine blk_drew ?_ | refine blk_alloc ?_ _)); exact BK323.out) hb); have n1_ := Aside0.mk (blk_below (g := gb324) (o := .cells #[.string (⟨#[]⟩ : ByteArray), .int .i64 0, .slice none 0 0] 34 (0, 0)) (by (with_reducible repeat (first | refine blk_drewN ?_ _ | refine blk_drew ?_ | refine blk_alloc ?_ _)); exact BK324.out) hb); have n2_ := Aside0.mk (below_step (by repeat (first | (with_reducible first | exact HB.out | apply below_alloc | apply pw_below_drewN | apply below_drew1 | refine below_set ?_ GE323.out | refine below_set ?_ GE324.out) | exact HB.out)) hb); clear BK323; clear BK324; clear HB; have BK323 := n0_; have BK324 := n1_; have HB := n2_; clear n0_ n1_ n2_; (try clear hb); (try clear hb2); (try clear hk); (try clear hi); have hcz109_0 : w108.cell? ⟨gb324, 0, none⟩ = some (.string (⟨#[]⟩ : ByteArray)) := (blk_cell BK324.out 0).trans rfl; have hcz109_1 : w108.cell? ⟨gb324, 1, none⟩ = some (.int .i64 0) := (blk_cell BK324.out 1).trans rfl; have hcz109_2 : w108.cell? ⟨gb324, 2, none⟩ = some (.slice none 0 0) := (blk_cell BK324.out 2).trans rfl; have hfz109_0 := blk_frozen BK324.out 0; have hfz109_1 := blk_frozen BK324.out 1; have hfz109_2 := blk_frozen BK324.out 2))
    refine bodyPost_ret (results_cell_row rfl _ _ gb324 34 #[.string (⟨#[]⟩ : ByteArray), .int .i64 0, .slice none 0 0] (0, 0) _ rfl (by (with_reducible repeat (first | refine blk_drewN ?_ _ | refine blk_drew ?_ | refine blk_alloc ?_ _)); refine blk_put (cs := #[.string (⟨#[]⟩ : ByteArray), .int .i64 0, .slice none 0 0]) ?_ 2 _ rfl; (with_reducible repeat (first | refine blk_drewN ?_ _ | refine blk_drew ?_ | refine blk_alloc ?_ _)); refine blk_put (cs := #[.string (⟨#[]⟩ : ByteArray), .int .i64 0, .slice none 0 0]) ?_ 1 _ rfl; (with_reducible repeat (first | refine blk_drewN ?_ _ | refine blk_drew ?_ | refine blk_alloc ?_ _)); refine blk_put (cs := #[.string (⟨#[]⟩ : ByteArray), .int .i64 0, .slice none 0 0]) ?_ 0 _ rfl; (with_reducible repeat (first | refine blk_drewN ?_ _ | refine blk_drew ?_ | refine blk_alloc ?_ _)); exact BK324.out) Try.underlying34 rfl (by kernel_rfl)) rfl ?_
    exact ⟨_, by first | rfl | (simp [errW_none, errW_some] <;> rfl) | (simp [*, errW_none, errW_some] <;> rfl), by first | exact Kd.R_nil _ _ _ _ _ | exact Kd.N_nil _ _ _ _ _ | exact Kd.V_nil _ _ _ _ _ | exact Kd.Q_nil _ _ _ _ _ | exact Kd.S_nil _ _ _ _ _, by repeat (first | (with_reducible first | exact HB.out | apply below_alloc | apply pw_below_drewN | apply below_drew1 | refine below_set ?_ GE323.out | refine below_set ?_ GE324.out) | exact HB.out)⟩
def laws_toTerm.f (a0_0 : Int) (a0_1 : Int) (a0_2 : ByteArray) (a0_3 : Int) (a0_4 : Int) (a0_5 : ByteArray) : Option (Int × Int × ByteArray × Int × Int × ByteArray) := (laws_toValue.f a0_3 a0_4 a0_5).bind fun bt340 => (some (a0_0, a0_1, a0_2, bt340.1, bt340.2.1, bt340.2.2))
set_option maxHeartbeats 8000000 in
set_option maxRecDepth 100000 in
theorem laws_toTerm.calls (a0_0 : Int) (a0_1 : Int) (a0_2 : ByteArray) (a0_3 : Int) (a0_4 : Int) (a0_5 : ByteArray) (r1 : Int) (r2 : Int) (r3 : ByteArray) (r4 : Int) (r5 : Int) (r6 : ByteArray) (w : World) (h : laws_toTerm.f a0_0 a0_1 a0_2 a0_3 a0_4 a0_5 = some (r1, r2, r3, r4, r5, r6)) :
    Calls Try.prog 115 #[.agg #[.int .i64 a0_0, .int .i64 a0_1, .string a0_2, .int .i64 a0_3, .int .i64 a0_4, .string a0_5]] w fun e w' => e = .returned (.agg #[.int .i64 r1, .int .i64 r2, .string r3, .int .i64 r4, .int .i64 r5, .string r6]) ∧ Below w.heap.size w w' := by
  have hu174 := Try.underlying174
  have hu120 := Try.underlying120
  have hu158 := Try.underlying158
  have hu104 := Try.underlying104
  have HB := Aside0.mk (Below.refl w.heap.size w)
  have H : ((laws_toValue.f a0_3 a0_4 a0_5).bind fun bt340 => (some (a0_0, a0_1, a0_2, bt340.1, bt340.2.1, bt340.2.2))) = some (r1, r2, r3, r4, r5, r6) := h
  clear h
  replace H := Option.bind_eq_some_iff.mp H
  obtain ⟨⟨t340, t341, t342⟩, A20, H⟩ := H
  replace H : (some (a0_0, a0_1, a0_2, t340, t341, t342)) = some (r1, r2, r3, r4, r5, r6) := H
  have A2 := Aside0.mk A20
  clear A20
  simp only [Option.some.injEq, Prod.mk.injEq] at H
  obtain ⟨rfl, rfl, rfl, rfl, rfl, rfl⟩ := H
  go_enter Try.func115, Try.ntmps115
  go_wp2_with (first | ((with_reducible refine gate_dst (N := 1) rfl ?_); refine box_event ?hg (N := 1) ?hd (cs := #[.int .i64 a0_0, .int .i64 a0_1, .string a0_2, .int .i64 a0_3, .int .i64 a0_4, .string a0_5]) (t := 174) ?hr ?_; (case hd => rfl); (case hg => rfl); (case hr => first | (go_simp; done) | (go_simp; rfl)); intro gb337 hg w3 hbox hb; have n0_ := Aside0.mk (below_step (by repeat (first | (with_reducible first | exact HB.out | apply below_alloc | apply pw_below_drewN | apply below_drew1) | exact HB.out)) hb); have n1_ := Aside0.mk (hbox); have n2_ := Aside0.mk ((by rw [hg]; exact (below_size (by repeat (first | (with_reducible first | exact HB.out | apply below_alloc | apply pw_below_drewN | apply below_drew1) | exact HB.out))) : w.heap.size ≤ gb337)); have n3_ := Aside0.mk ((by rw [hg]; exact (below_size (by repeat (first | (with_reducible first | exact HB.out | apply below_alloc | apply pw_below_drewN | apply below_drew1) | exact HB.out))) : w.heap.size ≤ gb337)); clear HB; have HB := n0_; have BK337 := n1_; have GW337 := n2_; have GE337 := n3_; clear n0_ n1_ n2_ n3_; clear hb hbox hg) | ((with_reducible refine gate_dst (N := 2) rfl ?_); refine box_event ?hg (N := 2) ?hd (cs := #[.int .i64 0, .int .i64 0, .string (⟨#[]⟩ : ByteArray), .int .i64 0, .int .i64 0, .string (⟨#[]⟩ : ByteArray)]) (t := 120) ?hr ?_; (case hd => rfl); (case hg => rfl); (case hr => first | (go_simp; done) | (go_simp; rfl)); intro gb338 hg w4 hbox hb; have n0_ := Aside0.mk (blk_below (g := gb337) (o := .cells #[.int .i64 a0_0, .int .i64 a0_1, .string a0_2, .int .i64 a0_3, .int .i64 a0_4, .string a0_5] 174 (0, 0)) (by (with_reducible repeat (first | refine blk_drewN ?_ _ | refine blk_drew ?_ | refine blk_alloc ?_ _)); exact BK337.out) hb); have n1_ := Aside0.mk (below_step (by repeat (first | (with_reducible first | exact HB.out | apply below_alloc | apply pw_below_drewN | apply below_drew1 | refine below_set ?_ GE337.out) | exact HB.out)) hb); have n2_ := Aside0.mk (hbox); have n3_ := Aside0.mk ((by rw [hg]; exact (below_size (by repeat (first | (with_reducible first | exact HB.out | apply below_alloc | apply pw_below_drewN | apply below_drew1 | refine below_set ?_ GE337.out) | exact HB.out))) : w.heap.size ≤ gb338)); have n4_ := Aside0.mk ((by rw [hg]; exact (below_size (by repeat (first | (with_reducible first | exact HB.out | apply below_alloc | apply pw_below_drewN | apply below_drew1 | refine below_set ?_ GE337.out) | exact HB.out))) : w.heap.size ≤ gb338)); have n5_ := Aside0.mk ((by rw [hg]; exact Nat.ne_of_lt (blk_lt (g := gb337) (o := .cells #[.int .i64 a0_0, .int .i64 a0_1, .string a0_2, .int .i64 a0_3, .int .i64 a0_4, .string a0_5] 174 (0, 0)) (by (with_reducible repeat (first | refine blk_drewN ?_ _ | refine blk_drew ?_ | refine blk_alloc ?_ _)); exact BK337.out)) : gb337 ≠ gb338)); have n6_ := Aside0.mk ((by rw [hg]; exact Nat.ne_of_gt (blk_lt (g := gb337) (o := .cells #[.int .i64 a0_0, .int .i64 a0_1, .string a0_2, .int .i64 a0_3, .int .i64 a0_4, .string a0_5] 174 (0, 0)) (by (with_reducible repeat (first | refine blk_drewN ?_ _ | refine blk_drew ?_ | refine blk_alloc ?_ _)); exact BK337.out)) : gb338 ≠ gb337)); clear BK337; clear HB; have BK337 := n0_; have HB := n1_; have BK338 := n2_; have GW338 := n3_; have GE338 := n4_; have NB337_338 := n5_; have NB338_337 := n6_; clear n0_ n1_ n2_ n3_ n4_ n5_ n6_; clear hb hbox hg) | ((with_reducible refine gate_dst (N := 3) rfl ?_); refine box_event ?hg (N := 3) ?hd (cs := #[.int .i64 0, .int .i64 0, .string (⟨#[]⟩ : ByteArray), .int .i64 0, .int .i64 0, .string (⟨#[]⟩ : ByteArray)]) (t := 120) ?hr ?_; (case hd => rfl); (case hg => rfl); (case hr => first | (go_simp; done) | (go_simp; rfl)); intro gb339 hg w5 hbox hb; have n0_ := Aside0.mk (blk_below (g := gb337) (o := .cells #[.int .i64 a0_0, .int .i64 a0_1, .string a0_2, .int .i64 a0_3, .int .i64 a0_4, .string a0_5] 174 (0, 0)) (by (with_reducible repeat (first | refine blk_drewN ?_ _ | refine blk_drew ?_ | refine blk_alloc ?_ _)); exact BK337.out) hb); have n1_ := Aside0.mk (blk_below (g := gb338) (o := .cells #[.int .i64 0, .int .i64 0, .string (⟨#[]⟩ : ByteArray), .int .i64 0, .int .i64 0, .string (⟨#[]⟩ : ByteArray)] 120 (0, 0)) (by (with_reducible repeat (first | refine blk_drewN ?_ _ | refine blk_drew ?_ | refine blk_alloc ?_ _)); exact BK338.out) hb); have n2_ := Aside0.mk (below_step (by repeat (first | (with_reducible first | exact HB.out | apply below_alloc | apply pw_below_drewN | apply below_drew1 | refine below_set ?_ GE337.out | refine below_set ?_ GE338.out) | exact HB.out)) hb); have n3_ := Aside0.mk (hbox); have n4_ := Aside0.mk ((by rw [hg]; exact (below_size (by repeat (first | (with_reducible first | exact HB.out | apply below_alloc | apply pw_below_drewN | apply below_drew1 | refine below_set ?_ GE337.out | refine below_set ?_ GE338.out) | exact HB.out))) : w.heap.size ≤ gb339)); have n5_ := Aside0.mk ((by rw [hg]; exact (below_size (by repeat (first | (with_reducible first | exact HB.out | apply below_alloc | apply pw_below_drewN | apply below_drew1 | refine below_set ?_ GE337.out | refine below_set ?_ GE338.out) | exact HB.out))) : w.heap.size ≤ gb339)); have n6_ := Aside0.mk ((by rw [hg]; exact Nat.ne_of_lt (blk_lt (g := gb337) (o := .cells #[.int .i64 a0_0, .int .i64 a0_1, .string a0_2, .int .i64 a0_3, .int .i64 a0_4, .string a0_5] 174 (0, 0)) (by (with_reducible repeat (first | refine blk_drewN ?_ _ | refine blk_drew ?_ | refine blk_alloc ?_ _)); exact BK337.out)) : gb337 ≠ gb339)); have n7_ := Aside0.mk ((by rw [hg]; exact Nat.ne_of_gt (blk_lt (g := gb337) (o := .cells #[.int .i64 a0_0, .int .i64 a0_1, .string a0_2, .int .i64 a0_3, .int .i64 a0_4, .string a0_5] 174 (0, 0)) (by (with_reducible repeat (first | refine blk_drewN ?_ _ | refine blk_drew ?_ | refine blk_alloc ?_ _)); exact BK337.out)) : gb339 ≠ gb337)); have n8_ := Aside0.mk ((by rw [hg]; exact Nat.ne_of_lt (blk_lt (g := gb338) (o := .cells #[.int .i64 0, .int .i64 0, .string (⟨#[]⟩ : ByteArray), .int .i64 0, .int .i64 0, .string (⟨#[]⟩ : ByteArray)] 120 (0, 0)) (by (with_reducible repeat (first | refine blk_drewN ?_ _ | refine blk_drew ?_ | refine blk_alloc ?_ _)); exact BK338.out)) : gb338 ≠ gb339)); have n9_ := Aside0.mk ((by rw [hg]; exact Nat.ne_of_gt (blk_lt (g := gb338) (o := .cells #[.int .i64 0, .int .i64 0, .string (⟨#[]⟩ : ByteArray), .int .i64 0, .int .i64 0, .string (⟨#[]⟩ : ByteArray)] 120 (0, 0)) (by (with_reducible repeat (first | refine blk_drewN ?_ _ | refine blk_drew ?_ | refine blk_alloc ?_ _)); exact BK338.out)) : gb339 ≠ gb338)); clear BK337; clear BK338; clear HB; have BK337 := n0_; have BK338 := n1_; have HB := n2_; have BK339 := n3_; have GW339 := n4_; have GE339 := n5_; have NB337_339 := n6_; have NB339_337 := n7_; have NB338_339 := n8_; have NB339_338 := n9_; clear n0_ n1_ n2_ n3_ n4_ n5_ n6_ n7_ n8_ n9_; clear hb hbox hg; have hnb6 := NB337_338.out; have hnc6 := NB338_337.out; have hnb7 := NB337_339.out; have hnc7 := NB339_337.out; have hcz8_0 : w5.cell? ⟨gb337, 0, none⟩ = some (.int .i64 a0_0) := (blk_cell BK337.out 0).trans rfl; have hcz8_1 : w5.cell? ⟨gb337, 1, none⟩ = some (.int .i64 a0_1) := (blk_cell BK337.out 1).trans rfl; have hcz8_2 : w5.cell? ⟨gb337, 2, none⟩ = some (.string a0_2) := (blk_cell BK337.out 2).trans rfl; have hcz8_3 : w5.cell? ⟨gb337, 3, none⟩ = some (.int .i64 a0_3) := (blk_cell BK337.out 3).trans rfl; have hcz8_4 : w5.cell? ⟨gb337, 4, none⟩ = some (.int .i64 a0_4) := (blk_cell BK337.out 4).trans rfl; have hcz8_5 : w5.cell? ⟨gb337, 5, none⟩ = some (.string a0_5) := (blk_cell BK337.out 5).trans rfl; have hfz8_0 := blk_frozen BK337.out 0; have hfz8_1 := blk_frozen BK337.out 1; have hfz8_2 := blk_frozen BK337.out 2; have hfz8_3 := blk_frozen BK337.out 3; have hfz8_4 := blk_frozen BK337.out 4; have hfz8_5 := blk_frozen BK337.out 5; have hnb9 := NB339_338.out; have hnc9 := NB338_339.out; have hcz10_0 : w5.cell? ⟨gb339, 0, none⟩ = some (.int .i64 0) := (blk_cell BK339.out 0).trans rfl; have hcz10_1 : w5.cell? ⟨gb339, 1, none⟩ = some (.int .i64 0) := (blk_cell BK339.out 1).trans rfl; have hcz10_2 : w5.cell? ⟨gb339, 2, none⟩ = some (.string (⟨#[]⟩ : ByteArray)) := (blk_cell BK339.out 2).trans rfl; have hcz10_3 : w5.cell? ⟨gb339, 3, none⟩ = some (.int .i64 0) := (blk_cell BK339.out 3).trans rfl; have hcz10_4 : w5.cell? ⟨gb339, 4, none⟩ = some (.int .i64 0) := (blk_cell BK339.out 4).trans rfl; have hcz10_5 : w5.cell? ⟨gb339, 5, none⟩ = some (.string (⟨#[]⟩ : ByteArray)) := (blk_cell BK339.out 5).trans rfl; have hfz10_0 := blk_frozen BK339.out 0; have hfz10_1 := blk_frozen BK339.out 1; have hfz10_2 := blk_frozen BK339.out 2; have hfz10_3 := blk_frozen BK339.out 3; have hfz10_4 := blk_frozen BK339.out 4; have hfz10_5 := blk_frozen BK339.out 5) | ((with_reducible refine gate_callee (f := 103) rfl ?_); refine goesL_ (some 15) rfl rfl Try.func103 (by kernel_rfl) rfl #[.agg #[.int .i64 a0_3, .int .i64 a0_4, .string a0_5]] rfl (by (try simp only [List.map_toArray, List.map_cons, List.map_nil]); first | done | rfl | (simp only [List.length_drop, List.length_take]; rfl)) ?_; (with_reducible refine (laws_toValue.calls a0_3 a0_4 a0_5 t340 t341 t342 _ A2.out).mono ?_); rintro e w11 ⟨rfl, hb⟩; refine ⟨_, rfl, ?_⟩; have n0_ := Aside0.mk (blk_below (g := gb337) (o := .cells #[.int .i64 a0_0, .int .i64 a0_1, .string a0_2, .int .i64 a0_3, .int .i64 a0_4, .string a0_5] 174 (0, 0)) (by (with_reducible repeat (first | refine blk_drewN ?_ _ | refine blk_drew ?_ | refine blk_alloc ?_ _)); refine blk_far ?_ NB337_339.out _; (with_reducible repeat (first | refine blk_drewN ?_ _ | refine blk_drew ?_ | refine blk_alloc ?_ _)); refine blk_far ?_ NB337_339.out _; (with_reducible repeat (first | refine blk_drewN ?_ _ | refine blk_drew ?_ | refine blk_alloc ?_ _)); refine blk_far ?_ NB337_339.out _; (with_reducible repeat (first | refine blk_drewN ?_ _ | refine blk_drew ?_ | refine blk_alloc ?_ _)); exact BK337.out) hb); have n1_ := Aside0.mk (blk_below (g := gb338) (o := .cells #[.int .i64 0, .int .i64 0, .string (⟨#[]⟩ : ByteArray), .int .i64 0, .int .i64 0, .string (⟨#[]⟩ : ByteArray)] 120 (0, 0)) (by (with_reducible repeat (first | refine blk_drewN ?_ _ | refine blk_drew ?_ | refine blk_alloc ?_ _)); refine blk_far ?_ NB338_339.out _; (with_reducible repeat (first | refine blk_drewN ?_ _ | refine blk_drew ?_ | refine blk_alloc ?_ _)); refine blk_far ?_ NB338_339.out _; (with_reducible repeat (first | refine blk_drewN ?_ _ | refine blk_drew ?_ | refine blk_alloc ?_ _)); refine blk_far ?_ NB338_339.out _; (with_reducible repeat (first | refine blk_drewN ?_ _ | refine blk_drew ?_ | refine blk_alloc ?_ _)); exact BK338.out) hb); have n2_ := Aside0.mk (blk_below (g := gb339) (o := .cells #[.int .i64 a0_0, .int .i64 a0_1, .string a0_2, .int .i64 0, .int .i64 0, .string (⟨#[]⟩ : ByteArray)] 120 (0, 0)) (by (with_reducible repeat (first | refine blk_drewN ?_ _ | refine blk_drew ?_ | refine blk_alloc ?_ _)); refine blk_put (cs := #[.int .i64 a0_0, .int .i64 a0_1, .string (⟨#[]⟩ : ByteArray), .int .i64 0, .int .i64 0, .string (⟨#[]⟩ : ByteArray)]) ?_ 2 _ rfl; (with_reducible repeat (first | refine blk_drewN ?_ _ | refine blk_drew ?_ | refine blk_alloc ?_ _)); refine blk_put (cs := #[.int .i64 a0_0, .int .i64 0, .string (⟨#[]⟩ : ByteArray), .int .i64 0, .int .i64 0, .string (⟨#[]⟩ : ByteArray)]) ?_ 1 _ rfl; (with_reducible repeat (first | refine blk_drewN ?_ _ | refine blk_drew ?_ | refine blk_alloc ?_ _)); refine blk_put (cs := #[.int .i64 0, .int .i64 0, .string (⟨#[]⟩ : ByteArray), .int .i64 0, .int .i64 0, .string (⟨#[]⟩ : ByteArray)]) ?_ 0 _ rfl; (with_reducible repeat (first | refine blk_drewN ?_ _ | refine blk_drew ?_ | refine blk_alloc ?_ _)); exact BK339.out) hb); have n3_ := Aside0.mk (below_step (by repeat (first | (with_reducible first | exact HB.out | apply below_alloc | apply pw_below_drewN | apply below_drew1 | refine below_set ?_ GE337.out | refine below_set ?_ GE338.out | refine below_set ?_ GE339.out) | exact HB.out)) hb); clear BK337; clear BK338; clear BK339; clear HB; have BK337 := n0_; have BK338 := n1_; have BK339 := n2_; have HB := n3_; clear n0_ n1_ n2_ n3_; (try clear hb); (try clear hb2); (try clear hk); (try clear hi); have hcz12_0 : w11.cell? ⟨gb339, 0, none⟩ = some (.int .i64 a0_0) := (blk_cell BK339.out 0).trans rfl; have hcz12_1 : w11.cell? ⟨gb339, 1, none⟩ = some (.int .i64 a0_1) := (blk_cell BK339.out 1).trans rfl; have hcz12_2 : w11.cell? ⟨gb339, 2, none⟩ = some (.string a0_2) := (blk_cell BK339.out 2).trans rfl; have hcz12_3 : w11.cell? ⟨gb339, 3, none⟩ = some (.int .i64 0) := (blk_cell BK339.out 3).trans rfl; have hcz12_4 : w11.cell? ⟨gb339, 4, none⟩ = some (.int .i64 0) := (blk_cell BK339.out 4).trans rfl; have hcz12_5 : w11.cell? ⟨gb339, 5, none⟩ = some (.string (⟨#[]⟩ : ByteArray)) := (blk_cell BK339.out 5).trans rfl; have hfz12_0 := blk_frozen BK339.out 0; have hfz12_1 := blk_frozen BK339.out 1; have hfz12_2 := blk_frozen BK339.out 2; have hfz12_3 := blk_frozen BK339.out 3; have hfz12_4 := blk_frozen BK339.out 4; have hfz12_5 := blk_frozen BK339.out 5; have hcz13_0 : w11.cell? ⟨gb338, 0, none⟩ = some (.int .i64 0) := (blk_cell BK338.out 0).trans rfl; have hcz13_1 : w11.cell? ⟨gb338, 1, none⟩ = some (.int .i64 0) := (blk_cell BK338.out 1).trans rfl; have hcz13_2 : w11.cell? ⟨gb338, 2, none⟩ = some (.string (⟨#[]⟩ : ByteArray)) := (blk_cell BK338.out 2).trans rfl; have hcz13_3 : w11.cell? ⟨gb338, 3, none⟩ = some (.int .i64 0) := (blk_cell BK338.out 3).trans rfl; have hcz13_4 : w11.cell? ⟨gb338, 4, none⟩ = some (.int .i64 0) := (blk_cell BK338.out 4).trans rfl; have hcz13_5 : w11.cell? ⟨gb338, 5, none⟩ = some (.string (⟨#[]⟩ : ByteArray)) := (blk_cell BK338.out 5).trans rfl; have hfz13_0 := blk_frozen BK338.out 0; have hfz13_1 := blk_frozen BK338.out 1; have hfz13_2 := blk_frozen BK338.out 2; have hfz13_3 := blk_frozen BK338.out 3; have hfz13_4 := blk_frozen BK338.out 4; have hfz13_5 := blk_frozen BK338.out 5))
  refine bodyPost_ret (results_cell_row rfl _ _ gb338 120 #[.int .i64 a0_0, .int .i64 a0_1, .string a0_2, .int .i64 t340, .int .i64 t341, .string t342] (0, 0) _ rfl (by (with_reducible repeat (first | refine blk_drewN ?_ _ | refine blk_drew ?_ | refine blk_alloc ?_ _)); refine blk_put (cs := #[.int .i64 a0_0, .int .i64 a0_1, .string a0_2, .int .i64 t340, .int .i64 t341, .string (⟨#[]⟩ : ByteArray)]) ?_ 5 _ rfl; (with_reducible repeat (first | refine blk_drewN ?_ _ | refine blk_drew ?_ | refine blk_alloc ?_ _)); refine blk_put (cs := #[.int .i64 a0_0, .int .i64 a0_1, .string a0_2, .int .i64 t340, .int .i64 0, .string (⟨#[]⟩ : ByteArray)]) ?_ 4 _ rfl; (with_reducible repeat (first | refine blk_drewN ?_ _ | refine blk_drew ?_ | refine blk_alloc ?_ _)); refine blk_put (cs := #[.int .i64 a0_0, .int .i64 a0_1, .string a0_2, .int .i64 0, .int .i64 0, .string (⟨#[]⟩ : ByteArray)]) ?_ 3 _ rfl; (with_reducible repeat (first | refine blk_drewN ?_ _ | refine blk_drew ?_ | refine blk_alloc ?_ _)); refine blk_put (cs := #[.int .i64 a0_0, .int .i64 a0_1, .string (⟨#[]⟩ : ByteArray), .int .i64 0, .int .i64 0, .string (⟨#[]⟩ : ByteArray)]) ?_ 2 _ rfl; (with_reducible repeat (first | refine blk_drewN ?_ _ | refine blk_drew ?_ | refine blk_alloc ?_ _)); refine blk_put (cs := #[.int .i64 a0_0, .int .i64 0, .string (⟨#[]⟩ : ByteArray), .int .i64 0, .int .i64 0, .string (⟨#[]⟩ : ByteArray)]) ?_ 1 _ rfl; (with_reducible repeat (first | refine blk_drewN ?_ _ | refine blk_drew ?_ | refine blk_alloc ?_ _)); refine blk_put (cs := #[.int .i64 0, .int .i64 0, .string (⟨#[]⟩ : ByteArray), .int .i64 0, .int .i64 0, .string (⟨#[]⟩ : ByteArray)]) ?_ 0 _ rfl; (with_reducible repeat (first | refine blk_drewN ?_ _ | refine blk_drew ?_ | refine blk_alloc ?_ _)); refine blk_far ?_ NB338_339.out _; (with_reducible repeat (first | refine blk_drewN ?_ _ | refine blk_drew ?_ | refine blk_alloc ?_ _)); refine blk_far ?_ NB338_339.out _; (with_reducible repeat (first | refine blk_drewN ?_ _ | refine blk_drew ?_ | refine blk_alloc ?_ _)); refine blk_far ?_ NB338_339.out _; (with_reducible repeat (first | refine blk_drewN ?_ _ | refine blk_drew ?_ | refine blk_alloc ?_ _)); exact BK338.out) Try.underlying120 rfl (by kernel_rfl)) rfl ?_
  exact ⟨by first | rfl | (simp [errW_none, errW_some] <;> rfl) | (simp [*, errW_none, errW_some] <;> rfl), by repeat (first | (with_reducible first | exact HB.out | apply below_alloc | apply pw_below_drewN | apply below_drew1 | refine below_set ?_ GE337.out | refine below_set ?_ GE338.out | refine below_set ?_ GE339.out) | exact HB.out)⟩
end Go.Proofs.Ytoncacdehhmpaaa.P
namespace Go.Proofs.Ytoncacdehhmpaaa.P
open Go.RowKit Go.Proofs.YtoncacdehhmpaaaW.PrintWords Go.Proofs.YtoncacdehhmpaaaW.PrintLast Go.Proofs.YtoncacdehhmpaaaW.PrintMore
attribute [local go_sem] max2_int min2_int max_two min_two max_three min_three max_four min_four
set_option linter.unusedVariables false
set_option linter.unusedSimpArgs false
def laws_toTermS.l0 : Nat → List (S174) → List (S120) → Int → Option ((List (S120)))
  | 0, _, _, _ => none
  | k + 1, x0, x3, x4 => if x4 < (x0.length : Int) then (if 0 ≤ x4 then ((laws_toTerm.f ((rd_T174 x0 x4).f0) ((rd_T174 x0 x4).f1) ((rd_T174 x0 x4).f2) ((rd_T174 x0 x4).f3.f0) ((rd_T174 x0 x4).f3.f1) ((rd_T174 x0 x4).f3.f2)).bind fun bt347 => (if x4 < (x3.length : Int) then (laws_toTermS.l0 k x0 (x3.set (x4 : Int).toNat (⟨bt347.1, bt347.2.1, bt347.2.2.1, (⟨bt347.2.2.2.1, bt347.2.2.2.2.1, bt347.2.2.2.2.2⟩ : S104)⟩ : S120)) (wrap64 (x4 + 1))) else (none))) else (none)) else (some x3)
def laws_toTermS.f (k : Nat) (l0 : List (S174)) : Option ((List (S120))) := if 0 ≤ (l0.length : Int) then (if ((l0.length : Int) : Int).toNat ≤ 4398046511104 then (laws_toTermS.l0 k l0 (List.replicate ((l0.length : Int) : Int).toNat z120) 0) else (none)) else (none)
theorem laws_toTermS.mono_l : ∀ k, (∀ y0 y1 y2, LeO (laws_toTermS.l0 k y0 y1 y2) (laws_toTermS.l0 (k + 1) y0 y1 y2))
  | 0 => fun _ _ _ r h => by simp [laws_toTermS.l0] at h
  | k + 1 => by
    have ih0 := laws_toTermS.mono_l k
    · intro y0 y1 y2
      unfold laws_toTermS.l0
      repeat' first
      | (with_reducible exact ih0 _ _ _)
      | (with_reducible exact LeO.refl _)
      | (with_reducible exact LeO.none _)
      | (with_reducible refine LeO.ite ?_ ?_)
      | (with_reducible refine LeO.bind ?_ (fun _ => ?_))
      | exact ih0 _ _ _
      | exact LeO.none _
      | refine LeO.ite ?_ ?_
      | refine LeO.bind ?_ (fun _ => ?_)
theorem laws_toTermS.mono : ∀ a0 k, LeO (laws_toTermS.f k a0) (laws_toTermS.f (k + 1) a0) := by
  intro a0 k
  have ih0 := laws_toTermS.mono_l k
  unfold laws_toTermS.f
  repeat' first
      | (with_reducible exact ih0 _ _ _)
      | (with_reducible exact LeO.refl _)
      | (with_reducible exact LeO.none _)
      | (with_reducible refine LeO.ite ?_ ?_)
      | (with_reducible refine LeO.bind ?_ (fun _ => ?_))
      | exact ih0 _ _ _
      | exact LeO.none _
      | refine LeO.ite ?_ ?_
      | refine LeO.bind ?_ (fun _ => ?_)
set_option maxHeartbeats 8000000 in
set_option maxRecDepth 100000 in
theorem laws_toTermS.calls (k : Nat) (A0 : Option Addr) (c0 : Nat) (l0 : List (S174)) (r : List (S120)) (w : World) (hr0 : Kd.C k174 w A0 l0.length l0) (hc0 : l0.length ≤ c0) (h : laws_toTermS.f k l0 = some r) :
    Calls Try.prog 73 #[.slice A0 l0.length c0] w fun e w' => ∃ v0_ : Value, e = .returned (v0_) ∧ Kd.R k120 120 w' w.heap.size (fun _ => True) v0_ r ∧ Below w.heap.size w w' := by
  have hu174 := Try.underlying174
  have hu120 := Try.underlying120
  have HR0 := Aside0.mk hr0
  have HC0 := Aside0.mk hc0
  clear hr0 hc0
  have HB := Aside0.mk (Below.refl w.heap.size w)
  have H : (if 0 ≤ (l0.length : Int) then (if ((l0.length : Int) : Int).toNat ≤ 4398046511104 then (laws_toTermS.l0 k l0 (List.replicate ((l0.length : Int) : Int).toNat z120) 0) else (none)) else (none)) = some r := h
  clear h
  by_cases c2 : 0 ≤ (l0.length : Int)
  · rw [if_pos c2] at H
    have c2b0 := eq_true c2
    have c2b1 : decide (0 ≤ (l0.length : Int)) = true := decide_eq_true c2
    clear c2
    by_cases c3 : ((l0.length : Int) : Int).toNat ≤ 4398046511104
    · rw [if_pos c3] at H
      have c3b0 := eq_true c3
      have c3b1 : decide (((l0.length : Int) : Int).toNat ≤ 4398046511104) = true := decide_eq_true c3
      clear c3
      obtain ⟨y343, hy343⟩ : ∃ y_ : List (S120), y_ = (List.replicate ((l0.length : Int) : Int).toNat z120) := ⟨_, rfl⟩
      replace H : (laws_toTermS.l0 k l0 y343 0) = some r := by first | (rw [hy343]; with_reducible exact H) | (have H2_ := (Option.bind_some _ _).symm.trans H; rw [hy343]; with_reducible exact H2_) | (have H2_ := (Option.bind_some _ _).symm.trans H; with_reducible exact H2_) | with_reducible exact H | (rw [hy343]; exact H) | exact H
      have Ny343 := Aside0.mk hy343
      clear hy343
      have H' := Aside0.mk H
      clear H
      go_enter Try.func73, Try.ntmps73
      go_wp2_with (first | ((with_reducible refine gate_dst (N := 7) rfl ?_); refine Kd.R_make k120 _ 120 rfl (N := 7) rfl 59 _ _ rfl (l0.length : Int) rfl rfl Try.underlying59 (.agg #[(.int .i64 0), (.int .i64 0), (.string ⟨#[]⟩), (.int .i64 0), (.int .i64 0), (.string ⟨#[]⟩)]) 64 info120 rfl (by decide) (by omega) z120 (ok := fun _ => True) (okp := fun _ => True) (k120_mkM _ _ _ z120 ) (fun _ hk => hk) trivial (of_decide_eq_true (by first | (with_reducible assumption) | assumption)) (Nat.le_trans (Nat.mul_le_mul_right _ (of_decide_eq_true (by first | (with_reducible assumption) | assumption) : (l0.length : Int).toNat ≤ 4398046511104)) (by omega)) (Below.refl _ _) (Nat.le_refl _) ?_; intro v344 w4 ho5 hb hg_ hnew_; clear hg_ hnew_; (first | rw [← Ny343.out] at ho5 | (simp only [Int.reduceToNat] at ho5; rw [← Ny343.out] at ho5)); have n0_ := Aside0.mk (Kd.R_lower ho5 (below_size (by repeat (first | (with_reducible first | exact HB.out | apply below_alloc | apply pw_below_drewN | apply below_drew1) | exact HB.out)))); have n1_ := Aside0.mk (below_step (by repeat (first | (with_reducible first | exact HB.out | apply below_alloc | apply pw_below_drewN | apply below_drew1) | exact HB.out)) hb); clear HB; have HO345 := n0_; have HB := n1_; clear n0_ n1_; clear hb ho5))
      go_loopg [4] k (fun kq v4 w' => ∃ (x3_1 : List (S120)) (x4_1 : Int), v4 = .int .i64 x4_1 ∧ Aside0 (laws_toTermS.l0 kq l0 x3_1 x4_1 = some r) ∧ Aside0 (kq ≤ k) ∧ Aside0 (Kd.R k120 120 w' w.heap.size (fun _ => True) v344 x3_1) ∧ Aside0 (Below w.heap.size w w'))
      case atStart => exact ⟨(y343), (0), (by first | rfl | (simp; done) | (simp [*]; done)), H', ⟨Nat.le_refl _⟩, ⟨by (with_reducible repeat (first | apply Kd.R_alloc | apply Kd.R_drewN | apply Kd.R_drew)); exact HO345.out⟩, ⟨by repeat (first | (with_reducible first | exact HB.out | apply below_alloc | apply pw_below_drewN | apply below_drew1) | exact HB.out)⟩⟩
      case round =>
        clear H'
        try clear c2
        try clear c2b0
        try clear c2b1
        try clear p2
        try clear c3
        try clear c3b0
        try clear c3b1
        obtain ⟨x3_1, x4_1, rfl, HA, HK1, HO_3, HB⟩ := hrel
        cases gk with
        | zero => exact absurd HA.out (by simp [laws_toTermS.l0])
        | succ k1 =>
          have H := HA.out
          clear HA
          simp only [laws_toTermS.l0] at H
          by_cases c6 : x4_1 < (l0.length : Int)
          · rw [if_pos c6] at H
            have c6b0 : decide (x4_1 < (l0.length : Int)) = true := decide_eq_true c6
            clear c6
            by_cases c7 : 0 ≤ x4_1
            · rw [if_pos c7] at H
              have c7b0 : decide (0 ≤ x4_1) = true := decide_eq_true c7
              clear c7
              replace H := Option.bind_eq_some_iff.mp H
              obtain ⟨⟨t347, t348, t349, t350, t351, t352⟩, A80, H⟩ := H
              replace H : (if x4_1 < (x3_1.length : Int) then (laws_toTermS.l0 k1 l0 (x3_1.set (x4_1 : Int).toNat (⟨t347, t348, t349, (⟨t350, t351, t352⟩ : S104)⟩ : S120)) (wrap64 (x4_1 + 1))) else (none)) = some r := H
              have A8 := Aside0.mk A80
              clear A80
              by_cases c9 : x4_1 < (x3_1.length : Int)
              · rw [if_pos c9] at H
                have c9b0 : decide (x4_1 < (x3_1.length : Int)) = true := decide_eq_true c9
                clear c9
                obtain ⟨y353, hy353⟩ : ∃ y_ : List (S120), y_ = (x3_1.set (x4_1 : Int).toNat (⟨t347, t348, t349, (⟨t350, t351, t352⟩ : S104)⟩ : S120)) := ⟨_, rfl⟩
                replace H : (laws_toTermS.l0 k1 l0 y353 (wrap64 (x4_1 + 1))) = some r := by first | (rw [hy353]; with_reducible exact H) | (have H2_ := (Option.bind_some _ _).symm.trans H; rw [hy353]; with_reducible exact H2_) | (have H2_ := (Option.bind_some _ _).symm.trans H; with_reducible exact H2_) | with_reducible exact H | (rw [hy353]; exact H) | exact H
                have Ny353 := Aside0.mk hy353
                clear hy353
                have H' := Aside0.mk H
                clear H
                have p346 : 0 ≤ (x4_1 : Int) := of_decide_eq_true (by first | (with_reducible assumption) | assumption)
                have q346 : x4_1 < (l0.length : Int) := of_decide_eq_true (by first | (with_reducible assumption) | assumption)
                obtain ⟨ad346, e346, hx346_0, hx346_1, hx346_2, hx346_3, hx346_4, hx346_5⟩ := at_T174 HR0.out x4_1 p346 q346
                cases e346
                replace hx346_0 := (HB.out.cell (World.block_lt_of_cell? w _ hx346_0)).trans hx346_0
                replace hx346_1 := (HB.out.cell (World.block_lt_of_cell? w _ hx346_1)).trans hx346_1
                replace hx346_2 := (HB.out.cell (World.block_lt_of_cell? w _ hx346_2)).trans hx346_2
                replace hx346_3 := (HB.out.cell (World.block_lt_of_cell? w _ hx346_3)).trans hx346_3
                replace hx346_4 := (HB.out.cell (World.block_lt_of_cell? w _ hx346_4)).trans hx346_4
                replace hx346_5 := (HB.out.cell (World.block_lt_of_cell? w _ hx346_5)).trans hx346_5
                replace p346 := eq_true p346
                replace q346 := eq_true q346
                go_wp2_with (first | ((with_reducible refine gate_callee (f := 115) rfl ?_); refine goesL_ (some 20) rfl rfl Try.func115 (by kernel_rfl) rfl #[.agg #[.int .i64 ((rd_T174 l0 x4_1).f0), .int .i64 ((rd_T174 l0 x4_1).f1), .string ((rd_T174 l0 x4_1).f2), .int .i64 ((rd_T174 l0 x4_1).f3.f0), .int .i64 ((rd_T174 l0 x4_1).f3.f1), .string ((rd_T174 l0 x4_1).f3.f2)]] rfl (by (try simp only [List.map_toArray, List.map_cons, List.map_nil]); first | done | rfl | (simp only [List.length_drop, List.length_take]; rfl)) ?_; (with_reducible refine (laws_toTerm.calls ((rd_T174 l0 x4_1).f0) ((rd_T174 l0 x4_1).f1) ((rd_T174 l0 x4_1).f2) ((rd_T174 l0 x4_1).f3.f0) ((rd_T174 l0 x4_1).f3.f1) ((rd_T174 l0 x4_1).f3.f2) t347 t348 t349 t350 t351 t352 _ A8.out).mono ?_); rintro e w11 ⟨rfl, hb⟩; refine ⟨_, rfl, ?_⟩; have n0_ := Aside0.mk (Kd.R_below (by (with_reducible repeat (first | apply Kd.R_alloc | apply Kd.R_drewN | apply Kd.R_drew)); exact HO_3.out) hb); have n1_ := Aside0.mk (below_step (by repeat (first | (with_reducible first | exact HB.out | apply below_alloc | apply pw_below_drewN | apply below_drew1) | exact HB.out)) hb); clear HO_3; clear HB; have HO_3 := n0_; have HB := n1_; clear n0_ n1_; (try clear hb); (try clear hb2); (try clear hk); (try clear hi); have p10 : 0 ≤ (x4_1 : Int) := of_decide_eq_true (by first | (with_reducible assumption) | assumption); have q10 : (x4_1 : Int) < ((x3_1.length : Int) : Int) := of_decide_eq_true (by first | (with_reducible assumption) | assumption); obtain ⟨go10, co10, eo10, gb10, gl10, cl10, HG10⟩ := Kd.R_form HO_3.out (by omega); (first | cases eo10 | (injection eo10 with ea_ en_ ec_; (first | subst ea_ | (injection ea_ with ea_; subst ea_)); subst ec_; clear en_)); have GB10 := Aside0.mk gb10; have GG10 := Aside0.mk HG10; clear gb10 gl10 HG10; obtain ⟨ce10, hcl10, hM10, hcc10, hfr10⟩ := Kd.R_elem HO_3.out z120 (x4_1 : Int) p10 q10; obtain rfl := k120_openM hM10; have hx10_0 : w11.cell? ⟨go10, (x4_1 : Int).toNat * 6, none⟩ = some (.int .i64 ((rd_T120 x3_1 x4_1).f0)) := hcc10 0 _ rfl; have hx10_1 : w11.cell? ⟨go10, (x4_1 : Int).toNat * 6 + 1, none⟩ = some (.int .i64 ((rd_T120 x3_1 x4_1).f1)) := hcc10 1 _ rfl; have hx10_2 : w11.cell? ⟨go10, (x4_1 : Int).toNat * 6 + 2, none⟩ = some (.string ((rd_T120 x3_1 x4_1).f2)) := hcc10 2 _ rfl; have hx10_3 : w11.cell? ⟨go10, (x4_1 : Int).toNat * 6 + 3, none⟩ = some (.int .i64 ((rd_T120 x3_1 x4_1).f3.f0)) := hcc10 3 _ rfl; have hx10_4 : w11.cell? ⟨go10, (x4_1 : Int).toNat * 6 + 4, none⟩ = some (.int .i64 ((rd_T120 x3_1 x4_1).f3.f1)) := hcc10 4 _ rfl; have hx10_5 : w11.cell? ⟨go10, (x4_1 : Int).toNat * 6 + 5, none⟩ = some (.string ((rd_T120 x3_1 x4_1).f3.f2)) := hcc10 5 _ rfl; have hf10_0 : w11.frozen? ⟨go10, (x4_1 : Int).toNat * 6, none⟩ = false := hfr10 0; have hf10_1 : w11.frozen? ⟨go10, (x4_1 : Int).toNat * 6 + 1, none⟩ = false := hfr10 1; have hf10_2 : w11.frozen? ⟨go10, (x4_1 : Int).toNat * 6 + 2, none⟩ = false := hfr10 2; have hf10_3 : w11.frozen? ⟨go10, (x4_1 : Int).toNat * 6 + 3, none⟩ = false := hfr10 3; have hf10_4 : w11.frozen? ⟨go10, (x4_1 : Int).toNat * 6 + 4, none⟩ = false := hfr10 4; have hf10_5 : w11.frozen? ⟨go10, (x4_1 : Int).toNat * 6 + 5, none⟩ = false := hfr10 5; clear hcl10 hcc10 hfr10 hM10; replace p10 := eq_true p10; replace q10 := eq_true q10; have HX12 := Aside0.mk (show Kd.R k120 120 w11 w.heap.size (fun _ => True) (.slice (some ⟨go10, 0, none⟩) x3_1.length co10) x3_1 from (by (with_reducible repeat (first | apply Kd.R_alloc | apply Kd.R_drewN | apply Kd.R_drew)); exact HO_3.out)); obtain ⟨ce12, hcl12, hM12, hcc12, hfr12⟩ := Kd.R_elem HX12.out z120 (x4_1 : Int) (of_decide_eq_true (by first | (with_reducible assumption) | assumption)) (by have h_ : (x4_1 : Int) < ((x3_1.length : Int) : Int) := of_decide_eq_true (by first | (with_reducible assumption) | assumption); first | exact h_ | (have e_ := (Kd.R_reads' HO_3.out).1; omega) | simpa using h_); obtain rfl := k120_openM hM12; have HP12 := Kd.R_seg HX12.out (x4_1 : Int) (of_decide_eq_true (by first | (with_reducible assumption) | assumption)) (by have h_ : (x4_1 : Int) < ((x3_1.length : Int) : Int) := of_decide_eq_true (by first | (with_reducible assumption) | assumption); first | exact h_ | (have e_ := (Kd.R_reads' HO_3.out).1; omega) | simpa using h_) (seg := [.int .i64 t347, .int .i64 t348, .string t349, .int .i64 t350, .int .i64 t351, .string t352]) (j := 0) hcl12 hcc12 (show 6 ≤ 6 from by decide) (x' := (⟨t347, t348, t349, (⟨t350, t351, t352⟩ : S104)⟩ : S120)) (k120_mkM _ _ _ (⟨t347, t348, t349, (⟨t350, t351, t352⟩ : S104)⟩ : S120) ) (fun _ hk => hk); have hx12_0 := hcc12 0 _ rfl; (try simp only [show (k120).sz = 6 from rfl, Nat.mul_one, Nat.add_zero] at hx12_0); have hf12_0 := hfr12 0; (try simp only [show (k120).sz = 6 from rfl, Nat.mul_one, Nat.add_zero] at hf12_0); have hx12_1 := hcc12 1 _ rfl; (try simp only [show (k120).sz = 6 from rfl, Nat.mul_one, Nat.add_zero] at hx12_1); have hf12_1 := hfr12 1; (try simp only [show (k120).sz = 6 from rfl, Nat.mul_one, Nat.add_zero] at hf12_1); have hx12_2 := hcc12 2 _ rfl; (try simp only [show (k120).sz = 6 from rfl, Nat.mul_one, Nat.add_zero] at hx12_2); have hf12_2 := hfr12 2; (try simp only [show (k120).sz = 6 from rfl, Nat.mul_one, Nat.add_zero] at hf12_2); have hx12_3 := hcc12 3 _ rfl; (try simp only [show (k120).sz = 6 from rfl, Nat.mul_one, Nat.add_zero] at hx12_3); have hf12_3 := hfr12 3; (try simp only [show (k120).sz = 6 from rfl, Nat.mul_one, Nat.add_zero] at hf12_3); have hx12_4 := hcc12 4 _ rfl; (try simp only [show (k120).sz = 6 from rfl, Nat.mul_one, Nat.add_zero] at hx12_4); have hf12_4 := hfr12 4; (try simp only [show (k120).sz = 6 from rfl, Nat.mul_one, Nat.add_zero] at hf12_4); have hx12_5 := hcc12 5 _ rfl; (try simp only [show (k120).sz = 6 from rfl, Nat.mul_one, Nat.add_zero] at hx12_5); have hf12_5 := hfr12 5; (try simp only [show (k120).sz = 6 from rfl, Nat.mul_one, Nat.add_zero] at hf12_5); clear hcl12 hcc12 hfr12 hM12) | ((with_reducible refine gate_store (t := 120) (p := 21) rfl ?_); refine store_event (t := 120) (p := 21) (v := ?vo_w13) (w1 := ((((((w11.setCell ⟨go10, (x4_1 : Int).toNat * 6, none⟩ (.int .i64 t347)).setCell ⟨go10, (x4_1 : Int).toNat * 6 + 1, none⟩ (.int .i64 t348)).setCell ⟨go10, (x4_1 : Int).toNat * 6 + 2, none⟩ (.string t349)).setCell ⟨go10, (x4_1 : Int).toNat * 6 + 3, none⟩ (.int .i64 t350)).setCell ⟨go10, (x4_1 : Int).toNat * 6 + 4, none⟩ (.int .i64 t351)).setCell ⟨go10, (x4_1 : Int).toNat * 6 + 5, none⟩ (.string t352))) ?hg ?ho ?hn ?hr ?_; (case ho => rfl); (case hg => rfl); (case hn => rfl); (case hr => first | (go_simp; done) | (go_simp; rfl)); intro w13 hw; have hg : w11.grownBy w13 (some go10) := (by rw [hw]; exact HP12.2); have hp_ : Kd.R k120 120 w13 w.heap.size (fun _ => True) (.slice (some ⟨go10, 0, none⟩) x3_1.length co10) y353 := (by rw [hw, Ny353.out]; exact HP12.1); clear HP12; have n0_ := Aside0.mk (hp_); have n1_ := Aside0.mk ((by rw [hw]; exact below_set (below_set (below_set (below_set (below_set (below_set (HB.out) GB10.out) GB10.out) GB10.out) GB10.out) GB10.out) GB10.out : Below w.heap.size w w13)); clear HO_3; clear HB; have HO_3 := n0_; have HB := n1_; clear n0_ n1_; clear hg hw hp_))
                go_roundg k1
                case measure => have := HK1.out; omega
                case rel => exact ⟨(y353), (wrap64 (x4_1 + 1)), (by first | rfl | (simp; done) | (simp [*]; done)), H', ⟨by have := HK1.out; omega⟩, ⟨by (with_reducible repeat (first | apply Kd.R_alloc | apply Kd.R_drewN | apply Kd.R_drew)); exact HO_3.out⟩, ⟨by repeat (first | (with_reducible first | exact HB.out | apply below_alloc | apply pw_below_drewN | apply below_drew1) | exact HB.out)⟩⟩
              · rw [if_neg c9] at H
                exact absurd H (by simp)
            · rw [if_neg c7] at H
              exact absurd H (by simp)
          · rw [if_neg c6] at H
            have c6b0 : decide (x4_1 < (l0.length : Int)) = false := decide_eq_false c6
            clear c6
            obtain rfl := Option.some.inj H
            go_wp2
            go_ret
            exact ⟨_, by first | rfl | (simp [errW_none, errW_some] <;> rfl) | (simp [*, errW_none, errW_some] <;> rfl), by (with_reducible repeat (first | apply Kd.R_alloc | apply Kd.R_drewN | apply Kd.R_drew)); exact HO_3.out, by repeat (first | (with_reducible first | exact HB.out | apply below_alloc | apply pw_below_drewN | apply below_drew1) | exact HB.out)⟩
    · rw [if_neg c3] at H
      exact absurd H (by simp)
  · rw [if_neg c2] at H
    exact absurd H (by simp)
def laws_toPattern.f (k : Nat) (a0_0 : Bool) (a0_1 : ByteArray) (l0_2 : List (S174)) : Option (Bool × ByteArray × (List (S120))) := (laws_toTermS.f k l0_2).bind fun t357 => (some (a0_0, a0_1, t357))
theorem laws_toPattern.mono : ∀ a0 a1 a2 k, LeO (laws_toPattern.f k a0 a1 a2) (laws_toPattern.f (k + 1) a0 a1 a2) := by
  intro a0 a1 a2 k
  unfold laws_toPattern.f
  repeat' first
      | (with_reducible exact laws_toTermS.mono _ _)
      | (with_reducible exact LeO.refl _)
      | (with_reducible exact LeO.none _)
      | (with_reducible refine LeO.ite ?_ ?_)
      | (with_reducible refine LeO.bind ?_ (fun _ => ?_))
      | exact laws_toTermS.mono _ _
      | exact LeO.none _
      | refine LeO.ite ?_ ?_
      | refine LeO.bind ?_ (fun _ => ?_)
set_option maxHeartbeats 8000000 in
set_option maxRecDepth 100000 in
theorem laws_toPattern.calls (k : Nat) (a0_0 : Bool) (a0_1 : ByteArray) (A0_2 : Option Addr) (c0_2 : Nat) (l0_2 : List (S174)) (r1 : Bool) (r2 : ByteArray) (r3 : List (S120)) (w : World) (hr0_2 : Kd.C k174 w A0_2 l0_2.length l0_2) (hc0_2 : l0_2.length ≤ c0_2) (h : laws_toPattern.f k a0_0 a0_1 l0_2 = some (r1, r2, r3)) :
    Calls Try.prog 25 #[.agg #[.bool a0_0, .string a0_1, .slice A0_2 l0_2.length c0_2]] w fun e w' => ∃ v2_ : Value, e = .returned (.agg #[.bool r1, .string r2, v2_]) ∧ Kd.R k120 120 w' w.heap.size (fun _ => True) v2_ r3 ∧ Below w.heap.size w w' := by
  have hu56 := Try.underlying56
  have hu61 := Try.underlying61
  have HR0_2 := Aside0.mk hr0_2
  have HC0_2 := Aside0.mk hc0_2
  clear hr0_2 hc0_2
  have HB := Aside0.mk (Below.refl w.heap.size w)
  have H : ((laws_toTermS.f k l0_2).bind fun t357 => (some (a0_0, a0_1, t357))) = some (r1, r2, r3) := h
  clear h
  replace H := Option.bind_eq_some_iff.mp H
  obtain ⟨t357, A20, H⟩ := H
  replace H : (some (a0_0, a0_1, t357)) = some (r1, r2, r3) := H
  have A2 := Aside0.mk A20
  clear A20
  simp only [Option.some.injEq, Prod.mk.injEq] at H
  obtain ⟨rfl, rfl, rfl⟩ := H
  go_enter Try.func25, Try.ntmps25
  go_wp2_with (first | ((with_reducible refine gate_dst (N := 1) rfl ?_); refine box_event ?hg (N := 1) ?hd (cs := #[.bool a0_0, .string a0_1, .slice A0_2 l0_2.length c0_2]) (t := 56) ?hr ?_; (case hd => rfl); (case hg => rfl); (case hr => first | (go_simp; done) | (go_simp; rfl)); intro gb354 hg w3 hbox hb; have n0_ := Aside0.mk (below_step (by repeat (first | (with_reducible first | exact HB.out | apply below_alloc | apply pw_below_drewN | apply below_drew1) | exact HB.out)) hb); have n1_ := Aside0.mk (hbox); have n2_ := Aside0.mk ((by rw [hg]; exact (below_size (by repeat (first | (with_reducible first | exact HB.out | apply below_alloc | apply pw_below_drewN | apply below_drew1) | exact HB.out))) : w.heap.size ≤ gb354)); have n3_ := Aside0.mk ((by rw [hg]; exact (below_size (by repeat (first | (with_reducible first | exact HB.out | apply below_alloc | apply pw_below_drewN | apply below_drew1) | exact HB.out))) : w.heap.size ≤ gb354)); clear HB; have HB := n0_; have BK354 := n1_; have GW354 := n2_; have GE354 := n3_; clear n0_ n1_ n2_ n3_; clear hb hbox hg) | ((with_reducible refine gate_dst (N := 2) rfl ?_); refine box_event ?hg (N := 2) ?hd (cs := #[.bool false, .string (⟨#[]⟩ : ByteArray), .slice none 0 0]) (t := 61) ?hr ?_; (case hd => rfl); (case hg => rfl); (case hr => first | (go_simp; done) | (go_simp; rfl)); intro gb355 hg w4 hbox hb; have n0_ := Aside0.mk (blk_below (g := gb354) (o := .cells #[.bool a0_0, .string a0_1, .slice A0_2 l0_2.length c0_2] 56 (0, 0)) (by (with_reducible repeat (first | refine blk_drewN ?_ _ | refine blk_drew ?_ | refine blk_alloc ?_ _)); exact BK354.out) hb); have n1_ := Aside0.mk (below_step (by repeat (first | (with_reducible first | exact HB.out | apply below_alloc | apply pw_below_drewN | apply below_drew1 | refine below_set ?_ GE354.out) | exact HB.out)) hb); have n2_ := Aside0.mk (hbox); have n3_ := Aside0.mk ((by rw [hg]; exact (below_size (by repeat (first | (with_reducible first | exact HB.out | apply below_alloc | apply pw_below_drewN | apply below_drew1 | refine below_set ?_ GE354.out) | exact HB.out))) : w.heap.size ≤ gb355)); have n4_ := Aside0.mk ((by rw [hg]; exact (below_size (by repeat (first | (with_reducible first | exact HB.out | apply below_alloc | apply pw_below_drewN | apply below_drew1 | refine below_set ?_ GE354.out) | exact HB.out))) : w.heap.size ≤ gb355)); have n5_ := Aside0.mk ((by rw [hg]; exact Nat.ne_of_lt (blk_lt (g := gb354) (o := .cells #[.bool a0_0, .string a0_1, .slice A0_2 l0_2.length c0_2] 56 (0, 0)) (by (with_reducible repeat (first | refine blk_drewN ?_ _ | refine blk_drew ?_ | refine blk_alloc ?_ _)); exact BK354.out)) : gb354 ≠ gb355)); have n6_ := Aside0.mk ((by rw [hg]; exact Nat.ne_of_gt (blk_lt (g := gb354) (o := .cells #[.bool a0_0, .string a0_1, .slice A0_2 l0_2.length c0_2] 56 (0, 0)) (by (with_reducible repeat (first | refine blk_drewN ?_ _ | refine blk_drew ?_ | refine blk_alloc ?_ _)); exact BK354.out)) : gb355 ≠ gb354)); clear BK354; clear HB; have BK354 := n0_; have HB := n1_; have BK355 := n2_; have GW355 := n3_; have GE355 := n4_; have NB354_355 := n5_; have NB355_354 := n6_; clear n0_ n1_ n2_ n3_ n4_ n5_ n6_; clear hb hbox hg) | ((with_reducible refine gate_dst (N := 3) rfl ?_); refine box_event ?hg (N := 3) ?hd (cs := #[.bool false, .string (⟨#[]⟩ : ByteArray), .slice none 0 0]) (t := 61) ?hr ?_; (case hd => rfl); (case hg => rfl); (case hr => first | (go_simp; done) | (go_simp; rfl)); intro gb356 hg w5 hbox hb; have n0_ := Aside0.mk (blk_below (g := gb354) (o := .cells #[.bool a0_0, .string a0_1, .slice A0_2 l0_2.length c0_2] 56 (0, 0)) (by (with_reducible repeat (first | refine blk_drewN ?_ _ | refine blk_drew ?_ | refine blk_alloc ?_ _)); exact BK354.out) hb); have n1_ := Aside0.mk (blk_below (g := gb355) (o := .cells #[.bool false, .string (⟨#[]⟩ : ByteArray), .slice none 0 0] 61 (0, 0)) (by (with_reducible repeat (first | refine blk_drewN ?_ _ | refine blk_drew ?_ | refine blk_alloc ?_ _)); exact BK355.out) hb); have n2_ := Aside0.mk (below_step (by repeat (first | (with_reducible first | exact HB.out | apply below_alloc | apply pw_below_drewN | apply below_drew1 | refine below_set ?_ GE354.out | refine below_set ?_ GE355.out) | exact HB.out)) hb); have n3_ := Aside0.mk (hbox); have n4_ := Aside0.mk ((by rw [hg]; exact (below_size (by repeat (first | (with_reducible first | exact HB.out | apply below_alloc | apply pw_below_drewN | apply below_drew1 | refine below_set ?_ GE354.out | refine below_set ?_ GE355.out) | exact HB.out))) : w.heap.size ≤ gb356)); have n5_ := Aside0.mk ((by rw [hg]; exact (below_size (by repeat (first | (with_reducible first | exact HB.out | apply below_alloc | apply pw_below_drewN | apply below_drew1 | refine below_set ?_ GE354.out | refine below_set ?_ GE355.out) | exact HB.out))) : w.heap.size ≤ gb356)); have n6_ := Aside0.mk ((by rw [hg]; exact Nat.ne_of_lt (blk_lt (g := gb354) (o := .cells #[.bool a0_0, .string a0_1, .slice A0_2 l0_2.length c0_2] 56 (0, 0)) (by (with_reducible repeat (first | refine blk_drewN ?_ _ | refine blk_drew ?_ | refine blk_alloc ?_ _)); exact BK354.out)) : gb354 ≠ gb356)); have n7_ := Aside0.mk ((by rw [hg]; exact Nat.ne_of_gt (blk_lt (g := gb354) (o := .cells #[.bool a0_0, .string a0_1, .slice A0_2 l0_2.length c0_2] 56 (0, 0)) (by (with_reducible repeat (first | refine blk_drewN ?_ _ | refine blk_drew ?_ | refine blk_alloc ?_ _)); exact BK354.out)) : gb356 ≠ gb354)); have n8_ := Aside0.mk ((by rw [hg]; exact Nat.ne_of_lt (blk_lt (g := gb355) (o := .cells #[.bool false, .string (⟨#[]⟩ : ByteArray), .slice none 0 0] 61 (0, 0)) (by (with_reducible repeat (first | refine blk_drewN ?_ _ | refine blk_drew ?_ | refine blk_alloc ?_ _)); exact BK355.out)) : gb355 ≠ gb356)); have n9_ := Aside0.mk ((by rw [hg]; exact Nat.ne_of_gt (blk_lt (g := gb355) (o := .cells #[.bool false, .string (⟨#[]⟩ : ByteArray), .slice none 0 0] 61 (0, 0)) (by (with_reducible repeat (first | refine blk_drewN ?_ _ | refine blk_drew ?_ | refine blk_alloc ?_ _)); exact BK355.out)) : gb356 ≠ gb355)); clear BK354; clear BK355; clear HB; have BK354 := n0_; have BK355 := n1_; have HB := n2_; have BK356 := n3_; have GW356 := n4_; have GE356 := n5_; have NB354_356 := n6_; have NB356_354 := n7_; have NB355_356 := n8_; have NB356_355 := n9_; clear n0_ n1_ n2_ n3_ n4_ n5_ n6_ n7_ n8_ n9_; clear hb hbox hg; have hnb6 := NB354_355.out; have hnc6 := NB355_354.out; have hnb7 := NB354_356.out; have hnc7 := NB356_354.out; have hcz8_0 : w5.cell? ⟨gb354, 0, none⟩ = some (.bool a0_0) := (blk_cell BK354.out 0).trans rfl; have hcz8_1 : w5.cell? ⟨gb354, 1, none⟩ = some (.string a0_1) := (blk_cell BK354.out 1).trans rfl; have hcz8_2 : w5.cell? ⟨gb354, 2, none⟩ = some (.slice A0_2 l0_2.length c0_2) := (blk_cell BK354.out 2).trans rfl; have hfz8_0 := blk_frozen BK354.out 0; have hfz8_1 := blk_frozen BK354.out 1; have hfz8_2 := blk_frozen BK354.out 2; have hnb9 := NB356_355.out; have hnc9 := NB355_356.out; have hcz10_0 : w5.cell? ⟨gb356, 0, none⟩ = some (.bool false) := (blk_cell BK356.out 0).trans rfl; have hcz10_1 : w5.cell? ⟨gb356, 1, none⟩ = some (.string (⟨#[]⟩ : ByteArray)) := (blk_cell BK356.out 1).trans rfl; have hcz10_2 : w5.cell? ⟨gb356, 2, none⟩ = some (.slice none 0 0) := (blk_cell BK356.out 2).trans rfl; have hfz10_0 := blk_frozen BK356.out 0; have hfz10_1 := blk_frozen BK356.out 1; have hfz10_2 := blk_frozen BK356.out 2) | ((with_reducible refine gate_callee (f := 73) rfl ?_); refine goesL_ (some 12) rfl rfl Try.func73 (by kernel_rfl) rfl #[.slice A0_2 l0_2.length c0_2] rfl (by (try simp only [List.map_toArray, List.map_cons, List.map_nil]); first | done | rfl | (simp only [List.length_drop, List.length_take]; rfl)) ?_; (with_reducible refine (laws_toTermS.calls k _ _ l0_2 t357 _ ?side1 ?side2 A2.out).mono ?_); (case side1 => exact Kd.C_below HR0_2.out (by repeat (first | (with_reducible first | exact HB.out | apply below_alloc | apply pw_below_drewN | apply below_drew1 | refine below_set ?_ GE354.out | refine below_set ?_ GE355.out | refine below_set ?_ GE356.out) | exact HB.out))); (case side2 => exact HC0_2.out); rintro e w11 ⟨v358, rfl, ho0, hb⟩; refine ⟨_, rfl, ?_⟩; have n0_ := Aside0.mk (Kd.R_lower ho0 (below_size (by repeat (first | (with_reducible first | exact HB.out | apply below_alloc | apply pw_below_drewN | apply below_drew1 | refine below_set ?_ GE354.out | refine below_set ?_ GE355.out | refine below_set ?_ GE356.out) | exact HB.out)))); have n1_ := Aside0.mk (blk_below (g := gb354) (o := .cells #[.bool a0_0, .string a0_1, .slice A0_2 l0_2.length c0_2] 56 (0, 0)) (by (with_reducible repeat (first | refine blk_drewN ?_ _ | refine blk_drew ?_ | refine blk_alloc ?_ _)); refine blk_far ?_ NB354_356.out _; (with_reducible repeat (first | refine blk_drewN ?_ _ | refine blk_drew ?_ | refine blk_alloc ?_ _)); refine blk_far ?_ NB354_356.out _; (with_reducible repeat (first | refine blk_drewN ?_ _ | refine blk_drew ?_ | refine blk_alloc ?_ _)); exact BK354.out) hb); have n2_ := Aside0.mk (blk_below (g := gb355) (o := .cells #[.bool false, .string (⟨#[]⟩ : ByteArray), .slice none 0 0] 61 (0, 0)) (by (with_reducible repeat (first | refine blk_drewN ?_ _ | refine blk_drew ?_ | refine blk_alloc ?_ _)); refine blk_far ?_ NB355_356.out _; (with_reducible repeat (first | refine blk_drewN ?_ _ | refine blk_drew ?_ | refine blk_alloc ?_ _)); refine blk_far ?_ NB355_356.out _; (with_reducible repeat (first | refine blk_drewN ?_ _ | refine blk_drew ?_ | refine blk_alloc ?_ _)); exact BK355.out) hb); have n3_ := Aside0.mk (blk_below (g := gb356) (o := .cells #[.bool a0_0, .string a0_1, .slice none 0 0] 61 (0, 0)) (by (with_reducible repeat (first | refine blk_drewN ?_ _ | refine blk_drew ?_ | refine blk_alloc ?_ _)); refine blk_put (cs := #[.bool a0_0, .string (⟨#[]⟩ : ByteArray), .slice none 0 0]) ?_ 1 _ rfl; (with_reducible repeat (first | refine blk_drewN ?_ _ | refine blk_drew ?_ | refine blk_alloc ?_ _)); refine blk_put (cs := #[.bool false, .string (⟨#[]⟩ : ByteArray), .slice none 0 0]) ?_ 0 _ rfl; (with_reducible repeat (first | refine blk_drewN ?_ _ | refine blk_drew ?_ | refine blk_alloc ?_ _)); exact BK356.out) hb); have n4_ := Aside0.mk (below_step (by repeat (first | (with_reducible first | exact HB.out | apply below_alloc | apply pw_below_drewN | apply below_drew1 | refine below_set ?_ GE354.out | refine below_set ?_ GE355.out | refine below_set ?_ GE356.out) | exact HB.out)) hb); clear BK354; clear BK355; clear BK356; clear HB; have HO359 := n0_; have BK354 := n1_; have BK355 := n2_; have BK356 := n3_; have HB := n4_; clear n0_ n1_ n2_ n3_ n4_; (try clear hb); (try clear hb2); (try clear hk); (try clear hi); (try clear ho0); obtain ⟨Ao12, co12, eo12⟩ := Kd.R_slice HO359.out; subst eo12; have hcz13_0 : w11.cell? ⟨gb356, 0, none⟩ = some (.bool a0_0) := (blk_cell BK356.out 0).trans rfl; have hcz13_1 : w11.cell? ⟨gb356, 1, none⟩ = some (.string a0_1) := (blk_cell BK356.out 1).trans rfl; have hcz13_2 : w11.cell? ⟨gb356, 2, none⟩ = some (.slice none 0 0) := (blk_cell BK356.out 2).trans rfl; have hfz13_0 := blk_frozen BK356.out 0; have hfz13_1 := blk_frozen BK356.out 1; have hfz13_2 := blk_frozen BK356.out 2; have hcz14_0 : w11.cell? ⟨gb355, 0, none⟩ = some (.bool false) := (blk_cell BK355.out 0).trans rfl; have hcz14_1 : w11.cell? ⟨gb355, 1, none⟩ = some (.string (⟨#[]⟩ : ByteArray)) := (blk_cell BK355.out 1).trans rfl; have hcz14_2 : w11.cell? ⟨gb355, 2, none⟩ = some (.slice none 0 0) := (blk_cell BK355.out 2).trans rfl; have hfz14_0 := blk_frozen BK355.out 0; have hfz14_1 := blk_frozen BK355.out 1; have hfz14_2 := blk_frozen BK355.out 2))
  refine bodyPost_ret (results_cell_row rfl _ _ gb355 61 #[.bool a0_0, .string a0_1, .slice Ao12 t357.length co12] (0, 0) _ rfl (by (with_reducible repeat (first | refine blk_drewN ?_ _ | refine blk_drew ?_ | refine blk_alloc ?_ _)); refine blk_put (cs := #[.bool a0_0, .string a0_1, .slice none 0 0]) ?_ 2 _ rfl; (with_reducible repeat (first | refine blk_drewN ?_ _ | refine blk_drew ?_ | refine blk_alloc ?_ _)); refine blk_put (cs := #[.bool a0_0, .string (⟨#[]⟩ : ByteArray), .slice none 0 0]) ?_ 1 _ rfl; (with_reducible repeat (first | refine blk_drewN ?_ _ | refine blk_drew ?_ | refine blk_alloc ?_ _)); refine blk_put (cs := #[.bool false, .string (⟨#[]⟩ : ByteArray), .slice none 0 0]) ?_ 0 _ rfl; (with_reducible repeat (first | refine blk_drewN ?_ _ | refine blk_drew ?_ | refine blk_alloc ?_ _)); refine blk_far ?_ NB355_356.out _; (with_reducible repeat (first | refine blk_drewN ?_ _ | refine blk_drew ?_ | refine blk_alloc ?_ _)); exact BK355.out) Try.underlying61 rfl (by kernel_rfl)) rfl ?_
  exact ⟨_, by first | rfl | (simp [errW_none, errW_some] <;> rfl) | (simp [*, errW_none, errW_some] <;> rfl), by (with_reducible repeat (first | apply Kd.R_alloc | apply Kd.R_drewN | apply Kd.R_drew)); exact Kd.R_mono (Kd.R_far (p := ⟨gb355, 2, none⟩) (Kd.R_far (p := ⟨gb355, 1, none⟩) (Kd.R_far (p := ⟨gb355, 0, none⟩) (Kd.R_far (p := ⟨gb356, 2, none⟩) (Kd.R_types (Kd.R_types HO359.out BK356.out (by decide)) BK355.out (by decide)) (fun _ hk => hk.1.2) (.slice Ao12 t357.length co12)) (fun _ hk => hk.2) (.bool a0_0)) (fun _ hk => hk.2) (.string a0_1)) (fun _ hk => hk.2) (.slice Ao12 t357.length co12)) (fun _ hk => trivial), by repeat (first | (with_reducible first | exact HB.out | apply below_alloc | apply pw_below_drewN | apply below_drew1 | refine below_set ?_ GE354.out | refine below_set ?_ GE355.out | refine below_set ?_ GE356.out) | exact HB.out)⟩
def impl_goodCls.f (a0 : ByteArray) : Option (Bool) := (impl_goodSym.f a0).bind fun t360 => (if t360 = true then (some (a0.toList != ([110, 111, 116] : List UInt8))) else (some false))
set_option maxHeartbeats 8000000 in
set_option maxRecDepth 100000 in
theorem impl_goodCls.calls (a0 : ByteArray) (r : Bool) (w : World) (h : impl_goodCls.f a0 = some r) :
    Calls Try.prog 116 #[.string a0] w fun e w' => e = .returned (.bool r) ∧ Below w.heap.size w w' := by
  have HB := Aside0.mk (Below.refl w.heap.size w)
  have H : ((impl_goodSym.f a0).bind fun t360 => (if t360 = true then (some (a0.toList != ([110, 111, 116] : List UInt8))) else (some false))) = some r := h
  clear h
  replace H := Option.bind_eq_some_iff.mp H
  obtain ⟨t360, A20, H⟩ := H
  replace H : (if t360 = true then (some (a0.toList != ([110, 111, 116] : List UInt8))) else (some false)) = some r := H
  have A2 := Aside0.mk A20
  clear A20
  by_cases c3 : t360 = true
  · subst c3
    have H1 : (some (a0.toList != ([110, 111, 116] : List UInt8))) = some r := by first | (rw [if_pos rfl] at H; exact H) | rfl
    clear H
    have H := H1
    clear H1
    obtain rfl := Option.some.inj H
    go_enter Try.func116, Try.ntmps116
    go_wp2_with (first | ((with_reducible refine gate_callee (f := 109) rfl ?_); refine goesL_ (some 4) rfl rfl Try.func109 (by kernel_rfl) rfl #[.string a0] rfl (by (try simp only [List.map_toArray, List.map_cons, List.map_nil]); first | done | rfl | (simp only [List.length_drop, List.length_take]; rfl)) ?_; (with_reducible refine (impl_goodSym.calls a0 true _ A2.out).mono ?_); rintro e w4 ⟨rfl, hb⟩; refine ⟨_, rfl, ?_⟩; have n0_ := Aside0.mk (below_step (by repeat (first | (with_reducible first | exact HB.out | apply below_alloc | apply pw_below_drewN | apply below_drew1) | exact HB.out)) hb); clear HB; have HB := n0_; clear n0_; (try clear hb); (try clear hb2); (try clear hk); (try clear hi)))
    go_ret
    exact ⟨by first | rfl | (simp [errW_none, errW_some] <;> rfl) | (simp [*, errW_none, errW_some] <;> rfl), by repeat (first | (with_reducible first | exact HB.out | apply below_alloc | apply pw_below_drewN | apply below_drew1) | exact HB.out)⟩
  · replace c3 := Bool.eq_false_iff.mpr c3
    subst c3
    have H1 : (some false) = some r := by first | (rw [if_neg (show ¬ (false = true) by decide)] at H; exact H) | rfl
    clear H
    have H := H1
    clear H1
    obtain rfl := Option.some.inj H
    go_enter Try.func116, Try.ntmps116
    go_wp2_with (first | ((with_reducible refine gate_callee (f := 109) rfl ?_); refine goesL_ (some 4) rfl rfl Try.func109 (by kernel_rfl) rfl #[.string a0] rfl (by (try simp only [List.map_toArray, List.map_cons, List.map_nil]); first | done | rfl | (simp only [List.length_drop, List.length_take]; rfl)) ?_; (with_reducible refine (impl_goodSym.calls a0 false _ A2.out).mono ?_); rintro e w5 ⟨rfl, hb⟩; refine ⟨_, rfl, ?_⟩; have n0_ := Aside0.mk (below_step (by repeat (first | (with_reducible first | exact HB.out | apply below_alloc | apply pw_below_drewN | apply below_drew1) | exact HB.out)) hb); clear HB; have HB := n0_; clear n0_; (try clear hb); (try clear hb2); (try clear hk); (try clear hi)))
    go_ret
    exact ⟨by first | rfl | (simp [errW_none, errW_some] <;> rfl) | (simp [*, errW_none, errW_some] <;> rfl), by repeat (first | (with_reducible first | exact HB.out | apply below_alloc | apply pw_below_drewN | apply below_drew1) | exact HB.out)⟩
end Go.Proofs.Ytoncacdehhmpaaa.P
namespace Go.Proofs.Ytoncacdehhmpaaa.P
open Go.RowKit Go.Proofs.YtoncacdehhmpaaaW.PrintWords Go.Proofs.YtoncacdehhmpaaaW.PrintLast Go.Proofs.YtoncacdehhmpaaaW.PrintMore
attribute [local go_sem] max2_int min2_int max_two min_two max_three min_three max_four min_four
set_option linter.unusedVariables false
set_option linter.unusedSimpArgs false
open Go.Proofs.YtoncacdehhmpaaaX
def zeroValB (v : S104) : Bool := v.f0 == 0 && (v.f1 == 0 && v.f2.toList.isEmpty)
def goodTermB (t : S120) : Bool :=
  if t.f0 = 0 then t.f1 == 0 && (t.f2.toList.isEmpty && zeroValB t.f3)
  else if t.f0 = 1 then (t.f1 == 0 && t.f2.toList.isEmpty) && goodValueB t.f3
  else if t.f0 = 2 then (t.f1 == 0 && zeroValB t.f3) && goodSymB t.f2
  else if t.f0 = 3 then if t.f1 < 1 then false else if 6 < t.f1 then false else if t.f2.toList.isEmpty then goodValueB t.f3 else goodSymB t.f2 && zeroValB t.f3
  else false
def impl_Term_good.f (a0_0 a0_1 : Int) (a0_2 : ByteArray) (a0_3 a0_4 : Int) (a0_5 : ByteArray) : Option Bool := some (goodTermB ⟨a0_0, a0_1, a0_2, ⟨a0_3, a0_4, a0_5⟩⟩)
theorem ne_tf {x y : Int} (h : x ≠ y) : (x == y) = false := beq_eq_false_iff_ne.mpr h
set_option maxHeartbeats 8000000 in
set_option maxRecDepth 100000 in
theorem impl_Term_good.calls (a0_0 a0_1 : Int) (a0_2 : ByteArray) (a0_3 a0_4 : Int) (a0_5 : ByteArray) (r : Bool) (w : World) (h : impl_Term_good.f a0_0 a0_1 a0_2 a0_3 a0_4 a0_5 = some r) :
    Calls Try.prog 119 #[.agg #[.int .i64 a0_0, .int .i64 a0_1, .string a0_2, .int .i64 a0_3, .int .i64 a0_4, .string a0_5]] w fun e w' => e = .returned (.bool r) ∧ Below w.heap.size w w' := by
  have h := Option.some.inj h
  subst h
  have hu := Try.underlying120
  have hu1 := Try.underlying104
  have HB := Aside0.mk (Below.refl w.heap.size w)
  have HV := Aside0.mk (goodValueB_some ⟨a0_3, a0_4, a0_5⟩)
  have HS : Aside0 (impl_goodSym.f a0_2 = some (goodSymB a0_2)) := ⟨rfl⟩
  by_cases k0 : a0_0 = 0
  · subst k0
    rw [show goodTermB _ = (a0_1 == 0 && (a0_2.toList.isEmpty && (a0_3 == 0 && (a0_4 == 0 && a0_5.toList.isEmpty)))) by simp [goodTermB, zeroValB]]
    go_enter Try.func119, Try.ntmps119
    go_wp2
    all_goals go_ret
    all_goals exact ⟨by first | rfl | (simp; done) | (simp [*]; done) | (simp_all; done), by repeat (first | exact HB.out | apply below_drew | apply below_alloc)⟩
  have q0 := ne_tf k0
  by_cases k1 : a0_0 = 1
  · subst k1
    by_cases e1 : a0_1 = 0
    · subst e1
      cases e2 : a0_2.toList.isEmpty with
      | true =>
        rw [show goodTermB _ = goodValueB ⟨a0_3, a0_4, a0_5⟩ by simp [goodTermB, e2]]
        go_enter Try.func119, Try.ntmps119
        go_wp2_with (go_at_call 142; refine (impl_Value_good.calls _ _ _ _ _ HV.out).mono ?_; rintro e w' ⟨rfl, hd⟩)
        all_goals go_ret
        all_goals exact ⟨by first | rfl | (simp; done) | (simp [*]; done) | (simp_all; done), Below.trans (by repeat (first | exact HB.out | apply below_drew | apply below_alloc)) (hd.mono (by simp; omega))⟩
      | false =>
        rw [show goodTermB _ = false by simp [goodTermB, e2]]
        go_enter Try.func119, Try.ntmps119
        go_wp2
        all_goals go_ret
        all_goals exact ⟨by first | rfl | (simp; done) | (simp [*]; done) | (simp_all; done), by repeat (first | exact HB.out | apply below_drew | apply below_alloc)⟩
    · have p1 := ne_tf e1
      rw [show goodTermB _ = false by simp [goodTermB, e1]]
      go_enter Try.func119, Try.ntmps119
      go_wp2
      all_goals go_ret
      all_goals exact ⟨by first | rfl | (simp; done) | (simp [*]; done) | (simp_all; done), by repeat (first | exact HB.out | apply below_drew | apply below_alloc)⟩
  have q1 := ne_tf k1
  by_cases k2 : a0_0 = 2
  · subst k2
    by_cases e1 : a0_1 = 0
    · subst e1
      by_cases e3 : a0_3 = 0
      · subst e3
        by_cases e4 : a0_4 = 0
        · subst e4
          cases e5 : a0_5.toList.isEmpty with
          | true =>
            rw [show goodTermB _ = goodSymB a0_2 by simp [goodTermB, zeroValB, e5]]
            go_enter Try.func119, Try.ntmps119
            go_wp2_with (go_at_call 109; refine (impl_goodSym.calls _ _ _ HS.out).mono ?_; rintro e w' ⟨rfl, hd⟩)
            all_goals go_ret
            all_goals exact ⟨by first | rfl | (simp; done) | (simp [*]; done) | (simp_all; done), Below.trans (by repeat (first | exact HB.out | apply below_drew | apply below_alloc)) (hd.mono (by simp; omega))⟩
          | false =>
            rw [show goodTermB _ = false by simp [goodTermB, zeroValB, e5]]
            go_enter Try.func119, Try.ntmps119
            go_wp2
            all_goals go_ret
            all_goals exact ⟨by first | rfl | (simp; done) | (simp [*]; done) | (simp_all; done), by repeat (first | exact HB.out | apply below_drew | apply below_alloc)⟩
        · have p4 := ne_tf e4
          rw [show goodTermB _ = false by simp [goodTermB, zeroValB, e4]]
          go_enter Try.func119, Try.ntmps119
          go_wp2
          all_goals go_ret
          all_goals exact ⟨by first | rfl | (simp; done) | (simp [*]; done) | (simp_all; done), by repeat (first | exact HB.out | apply below_drew | apply below_alloc)⟩
      · have p3 := ne_tf e3
        rw [show goodTermB _ = false by simp [goodTermB, zeroValB, e3]]
        go_enter Try.func119, Try.ntmps119
        go_wp2
        all_goals go_ret
        all_goals exact ⟨by first | rfl | (simp; done) | (simp [*]; done) | (simp_all; done), by repeat (first | exact HB.out | apply below_drew | apply below_alloc)⟩
    · have p1 := ne_tf e1
      rw [show goodTermB _ = false by simp [goodTermB, zeroValB, e1]]
      go_enter Try.func119, Try.ntmps119
      go_wp2
      all_goals go_ret
      all_goals exact ⟨by first | rfl | (simp; done) | (simp [*]; done) | (simp_all; done), by repeat (first | exact HB.out | apply below_drew | apply below_alloc)⟩
  have q2 := ne_tf k2
  by_cases k3 : a0_0 = 3
  · subst k3
    by_cases e1 : a0_1 < 1
    · have p1 : decide (a0_1 < 1) = true := decide_eq_true e1
      rw [show goodTermB _ = false by simp [goodTermB, e1]]
      go_enter Try.func119, Try.ntmps119
      go_wp2
      all_goals go_ret
      all_goals exact ⟨by first | rfl | (simp; done) | (simp [*]; done) | (simp_all; done), by repeat (first | exact HB.out | apply below_drew | apply below_alloc)⟩
    have p1 : decide (a0_1 < 1) = false := decide_eq_false e1
    by_cases e2 : 6 < a0_1
    · have p2 : decide (6 < a0_1) = true := decide_eq_true e2
      rw [show goodTermB _ = false by simp [goodTermB, e1, e2]]
      go_enter Try.func119, Try.ntmps119
      go_wp2
      all_goals go_ret
      all_goals exact ⟨by first | rfl | (simp; done) | (simp [*]; done) | (simp_all; done), by repeat (first | exact HB.out | apply below_drew | apply below_alloc)⟩
    have p2 : decide (6 < a0_1) = false := decide_eq_false e2
    cases e3 : a0_2.toList.isEmpty with
    | true =>
      rw [show goodTermB _ = goodValueB ⟨a0_3, a0_4, a0_5⟩ by simp [goodTermB, e1, e2, e3]]
      go_enter Try.func119, Try.ntmps119
      go_wp2_with (go_at_call 142; refine (impl_Value_good.calls _ _ _ _ _ HV.out).mono ?_; rintro e w' ⟨rfl, hd⟩)
      all_goals go_ret
      all_goals exact ⟨by first | rfl | (simp; done) | (simp [*]; done) | (simp_all; done), Below.trans (by repeat (first | exact HB.out | apply below_drew | apply below_alloc)) (hd.mono (by simp; omega))⟩
    | false =>
      cases e4 : goodSymB a0_2 with
      | true =>
        rw [e4] at HS
        rw [show goodTermB _ = (a0_3 == 0 && (a0_4 == 0 && a0_5.toList.isEmpty)) by simp [goodTermB, zeroValB, e1, e2, e3, e4]]
        go_enter Try.func119, Try.ntmps119
        go_wp2_with (go_at_call 109; refine (impl_goodSym.calls _ _ _ HS.out).mono ?_; rintro e w' ⟨rfl, hd⟩; obtain ⟨hc1, hf1⟩ := cellsBelow hd rfl)
        all_goals go_ret
        all_goals exact ⟨by first | rfl | (simp; done) | (simp [*]; done) | (simp_all; done), Below.trans (by repeat (first | exact HB.out | apply below_drew | apply below_alloc)) (hd.mono (by simp; omega))⟩
      | false =>
        rw [e4] at HS
        rw [show goodTermB _ = false by simp [goodTermB, e1, e2, e3, e4]]
        go_enter Try.func119, Try.ntmps119
        go_wp2_with (go_at_call 109; refine (impl_goodSym.calls _ _ _ HS.out).mono ?_; rintro e w' ⟨rfl, hd⟩)
        all_goals go_ret
        all_goals exact ⟨by first | rfl | (simp; done) | (simp [*]; done) | (simp_all; done), Below.trans (by repeat (first | exact HB.out | apply below_drew | apply below_alloc)) (hd.mono (by simp; omega))⟩
  have q3 := ne_tf k3
  rw [show goodTermB _ = false by simp [goodTermB, k0, k1, k2, k3]]
  go_enter Try.func119, Try.ntmps119
  go_wp2
  all_goals go_ret
  all_goals exact ⟨by first | rfl | (simp; done) | (simp [*]; done) | (simp_all; done), by repeat (first | exact HB.out | apply below_drew | apply below_alloc)⟩
end Go.Proofs.Ytoncacdehhmpaaa.P
namespace Go.Proofs.Ytoncacdehhmpaaa.P
open Go.RowKit Go.Proofs.YtoncacdehhmpaaaW.PrintWords Go.Proofs.YtoncacdehhmpaaaW.PrintLast Go.Proofs.YtoncacdehhmpaaaW.PrintMore
attribute [local go_sem] max2_int min2_int max_two min_two max_three min_three max_four min_four
set_option linter.unusedVariables false
set_option linter.unusedSimpArgs false
open Go.Proofs.YtoncacdehhmpaaaX in
def encTerm (x : S120) : Value := .agg #[.int .i64 (x).f0, .int .i64 (x).f1, .string (x).f2, .int .i64 (x).f3.f0, .int .i64 (x).f3.f1, .string (x).f3.f2]
open Go.Proofs.YtoncacdehhmpaaaX in
set_option maxHeartbeats 2000000 in
set_option maxRecDepth 100000 in
theorem idxTerm.calls (g : Nat) (lb : Array Value) (eg : ∀ args w, (callFunc g args).run Try.prog w = .ok (.enter g args) w) (p : S120 → Bool) (A : Option Addr) (c : Nat) (xs : List S120) (w : World)
    (hr : Kd.C k120 w A xs.length xs) (hc : xs.length ≤ c) (hm : xs.length ≤ bigN) (hp : PredB Try.prog g lb encTerm p xs w) :
    Calls Try.prog 144 #[.slice A xs.length c, .func (.func g) #[] lb] w fun e w' => e = .returned (.int .i64 (idxB p xs)) ∧ Below w.heap.size w w' := by
  have hm := le_of_bigN hm
  have HR0 := Aside0.mk hr
  have HC0 := Aside0.mk hc
  have HP := Aside0.mk hp
  clear hr hc hp
  go_enter Try.func144, Try.ntmps144
  go_wp2
  go_loopg [5, 8] xs.length (fun gg _ s8 wr => ∃ kk : Nat, kk ≤ xs.length ∧ xs.length - kk ≤ gg ∧ s8 = .int .i64 kk ∧ Aside0 (Below w.heap.size w wr) ∧ Aside0 (∀ j, j < kk → p (xs.getD j z120) = false))
  case atStart => exact ⟨0, Nat.zero_le _, by omega, rfl, ⟨Below.refl _ w⟩, ⟨fun j hj => absurd hj (Nat.not_lt_zero _)⟩⟩
  case round =>
    obtain ⟨kk, hkk, hg, rfl, BW, MI⟩ := hrel
    by_cases hlt : kk < xs.length
    · have hltz : (kk : Int) < (xs.length : Int) := by omega
      obtain ⟨ad, e0, hx0, hx1, hx2, hx3, hx4, hx5⟩ := at_T120 HR0.out (kk : Int) (by omega) hltz
      cases e0
      replace hx0 := (BW.out.cell (World.block_lt_of_cell? w _ hx0)).trans hx0
      replace hx1 := (BW.out.cell (World.block_lt_of_cell? w _ hx1)).trans hx1
      replace hx2 := (BW.out.cell (World.block_lt_of_cell? w _ hx2)).trans hx2
      replace hx3 := (BW.out.cell (World.block_lt_of_cell? w _ hx3)).trans hx3
      replace hx4 := (BW.out.cell (World.block_lt_of_cell? w _ hx4)).trans hx4
      replace hx5 := (BW.out.cell (World.block_lt_of_cell? w _ hx5)).trans hx5
      have hrd : rd_T120 xs (kk : Int) = xs.getD kk z120 := by simp [rd_T120]
      have hcall := HP.out wr (xs.getD kk z120) (getD_mem hlt) BW.out
      rw [hrd] at hx0 hx1 hx2 hx3 hx4 hx5
      simp only [Int.toNat_natCast] at hx0 hx1 hx2 hx3 hx4 hx5
      have HL := Aside0.mk hlt
      clear hrd
      generalize hy : xs.getD kk z120 = y at hx0 hx1 hx2 hx3 hx4 hx5 hcall
      have HY := Aside0.mk hy
      clear hy
      simp only [encTerm] at hcall
      cases hq : p y with
      | true =>
        rw [hq] at hcall
        have HQ := Aside0.mk hq
        have HH := Aside0.mk hcall
        clear hq hcall
        go_wp2_with (go_at_fn g; refine HH.out.mono ?_; rintro e w' ⟨rfl, hb'⟩)
        go_ret
        refine ⟨?_, below_then BW.out BW.out.size hb'⟩
        rw [idxB_hit p xs kk z120 HL.out (by rw [HY.out]; exact HQ.out) MI.out]
        rfl
      | false =>
        rw [hq] at hcall
        have HQ := Aside0.mk hq
        have HH := Aside0.mk hcall
        clear hq hcall
        go_wp2_with (go_at_fn g; refine HH.out.mono ?_; rintro e w' ⟨rfl, hb'⟩)
        go_roundg (xs.length - (kk + 1))
        case measure => omega
        case rel =>
          refine ⟨kk + 1, by omega, by omega, by go_num, ⟨below_then BW.out BW.out.size hb'⟩, ⟨fun j hj => ?_⟩⟩
          by_cases e : j = kk
          · subst e
            rw [HY.out]; exact HQ.out
          · exact MI.out j (by omega)
    · have hltz : ¬ (kk : Int) < (xs.length : Int) := by omega
      have hk : kk = xs.length := by omega
      have HK := Aside0.mk hk
      clear hk
      go_wp2
      go_ret
      refine ⟨?_, BW.out⟩
      have hmiss : ∀ x, x ∈ xs → p x = false := by
        intro x hx
        obtain ⟨j, hj, e⟩ := List.getElem_of_mem hx
        have := MI.out j (by have := HK.out; omega)
        rw [List.getD_eq_getElem?_getD, List.getElem?_eq_getElem hj] at this
        rw [← e]; exact this
      rw [idxB_miss p xs hmiss]
      rfl
end Go.Proofs.Ytoncacdehhmpaaa.P
namespace Go.Proofs.Ytoncacdehhmpaaa.P
open Go.RowKit Go.Proofs.YtoncacdehhmpaaaW.PrintWords Go.Proofs.YtoncacdehhmpaaaW.PrintLast Go.Proofs.YtoncacdehhmpaaaW.PrintMore
attribute [local go_sem] max2_int min2_int max_two min_two max_three min_three max_four min_four
set_option linter.unusedVariables false
set_option linter.unusedSimpArgs false
open Go.Proofs.YtoncacdehhmpaaaX in
set_option maxHeartbeats 2000000 in
set_option maxRecDepth 100000 in
theorem containsTerm.calls (g : Nat) (lb : Array Value) (eg : ∀ args w, (callFunc g args).run Try.prog w = .ok (.enter g args) w) (p : S120 → Bool) (A : Option Addr) (c : Nat) (xs : List S120) (w : World)
    (hr : Kd.C k120 w A xs.length xs) (hc : xs.length ≤ c) (hm : xs.length ≤ bigN) (hp : PredB Try.prog g lb encTerm p xs w) :
    Calls Try.prog 117 #[.slice A xs.length c, .func (.func g) #[] lb] w fun e w' => e = .returned (.bool (xs.any p)) ∧ Below w.heap.size w w' := by
  have hcall := idxTerm.calls g lb eg p A c xs w hr hc hm hp
  rw [← idxB_any]
  have HH := Aside0.mk hcall
  clear hcall hr hc hm hp
  go_enter Try.func117, Try.ntmps117
  go_wp2_with (go_at_call 144; refine HH.out.mono ?_; rintro e w' ⟨rfl, hb'⟩)
  go_ret
  exact ⟨rfl, hb'⟩
end Go.Proofs.Ytoncacdehhmpaaa.P
namespace Go.Proofs.Ytoncacdehhmpaaa.P
open Go.RowKit Go.Proofs.YtoncacdehhmpaaaW.PrintWords Go.Proofs.YtoncacdehhmpaaaW.PrintLast Go.Proofs.YtoncacdehhmpaaaW.PrintMore
attribute [local go_sem] max2_int min2_int max_two min_two max_three min_three max_four min_four
set_option linter.unusedVariables false
set_option linter.unusedSimpArgs false
theorem goodTermB_some (v : S120) : impl_Term_good.f v.f0 v.f1 v.f2 v.f3.f0 v.f3.f1 v.f3.f2 = some (goodTermB v) := rfl
open Go.Proofs.YtoncacdehhmpaaaX in
set_option maxHeartbeats 2000000 in
set_option maxRecDepth 100000 in
theorem badTerm.calls (v : S120) (w : World) :
    Calls Try.prog 118 (#[encTerm v] ++ #[]) w fun e w' => e = .returned (.bool (!goodTermB v)) ∧ Below w.heap.size w w' := by
  have hu := Try.underlying120
  have HB := Aside0.mk (Below.refl w.heap.size w)
  have ea : #[encTerm v] ++ #[] = #[.agg #[.int .i64 (v).f0, .int .i64 (v).f1, .string (v).f2, .int .i64 (v).f3.f0, .int .i64 (v).f3.f1, .string (v).f3.f2]] := rfl
  rw [ea]
  clear ea
  have hg := goodTermB_some v
  have HG := Aside0.mk hg
  clear hg
  go_enter Try.func118, Try.ntmps118
  go_wp2_with (go_at_call 119; refine (impl_Term_good.calls _ _ _ _ _ _ _ _ HG.out).mono ?_; rintro e w' ⟨rfl, hd⟩)
  go_ret
  exact ⟨rfl, Below.trans (by repeat (first | exact HB.out | apply below_alloc)) (hd.mono (by simp))⟩
open Go.Proofs.YtoncacdehhmpaaaX in
def goodClsB (s : ByteArray) : Bool := goodSymB s && (s.toList != ([110, 111, 116] : List UInt8))
theorem goodCls_some (s : ByteArray) : impl_goodCls.f s = some (goodClsB s) := by
  unfold impl_goodCls.f impl_goodSym.f goodClsB
  simp only [Option.bind_some]
  cases Go.Proofs.YtoncacdehhmpaaaX.goodSymB s <;> rfl
def goodPatB (cls : ByteArray) (ts : List S120) : Bool := goodClsB cls && (decide (ts.length ≤ 6) && ts.all goodTermB)
def impl_Pattern_good.f (a0_0 : Bool) (a0_1 : ByteArray) (l0_2 : List S120) : Option Bool := some (goodPatB a0_1 l0_2)
open Go.Proofs.YtoncacdehhmpaaaX in
set_option maxHeartbeats 4000000 in
set_option maxRecDepth 100000 in
theorem impl_Pattern_good.calls (a0_0 : Bool) (a0_1 : ByteArray) (A0_2 : Option Addr) (c0_2 : Nat) (l0_2 : List S120) (r : Bool) (w : World) (hr0_2 : Kd.C k120 w A0_2 l0_2.length l0_2) (hc0_2 : l0_2.length ≤ c0_2) (h : impl_Pattern_good.f a0_0 a0_1 l0_2 = some r) :
    Calls Try.prog 74 #[.agg #[.bool a0_0, .string a0_1, .slice A0_2 l0_2.length c0_2]] w fun e w' => e = .returned (.bool r) ∧ Below w.heap.size w w' := by
  have h := Option.some.inj h
  subst h
  have hu := Try.underlying61
  have HB := Aside0.mk (Below.refl w.heap.size w)
  have HR := Aside0.mk hr0_2
  have HC := Aside0.mk hc0_2
  have HG := Aside0.mk (goodCls_some a0_1)
  clear hr0_2 hc0_2
  have hu0 := Try.underlying120
  cases h0 : goodClsB a0_1 with
  | true =>
    rw [h0] at HG
    by_cases h1 : l0_2.length ≤ 6
    · have q1 : decide ((l0_2.length : Int) ≤ 6) = true := decide_eq_true (by omega)
      have HM := Aside0.mk (show l0_2.length ≤ bigN by unfold bigN; omega)
      have hv : goodPatB a0_1 l0_2 = !(l0_2.any fun v => !goodTermB v) := by
        unfold goodPatB
        rw [h0, decide_eq_true h1, Bool.true_and, Bool.true_and, List.not_any_eq_all_not]
        congr 1
        funext v
        simp
      rw [hv]
      clear h0 h1 hv
      go_enter Try.func74, Try.ntmps74
      go_wp2_with (first
        | (go_at_call 116; refine (impl_goodCls.calls _ _ _ HG.out).mono ?_; rintro e w1 ⟨rfl, hd⟩; obtain ⟨hc1, hf1⟩ := cellsBelow hd rfl)
        | (go_at_call 117; refine (containsTerm.calls 118 _ (enters_of Try.func118 (by kernel_rfl) rfl) (fun v => !goodTermB v) _ _ l0_2 _ ?hr HC.out HM.out ?hp).mono ?hk))
      case hr => exact Kd.C_below HR.out (Below.trans (by repeat (first | exact HB.out | apply below_alloc)) (hd.mono (by first | (simp; done) | (simp; omega))))
      case hp => exact fun W x _ _ => badTerm.calls x W
      case hk =>
        first | rintro e w2 ⟨rfl, hd2⟩ | rintro e w2 rfl hd2
        go_wp2
        go_ret
        exact ⟨rfl, Below.trans (Below.trans (by repeat (first | exact HB.out | apply below_alloc)) (hd.mono (by first | (simp; done) | (simp; omega)))) (hd2.mono (by have := hd.size; simp at this; omega))⟩
    · have q1 : decide ((l0_2.length : Int) ≤ 6) = false := decide_eq_false (by omega)
      have hv : goodPatB a0_1 l0_2 = false := by unfold goodPatB; rw [h0, decide_eq_false h1]; rfl
      rw [hv]
      clear h0 h1 hv
      go_enter Try.func74, Try.ntmps74
      go_wp2_with (go_at_call 116; refine (impl_goodCls.calls _ _ _ HG.out).mono ?_; rintro e w1 ⟨rfl, hd⟩; obtain ⟨hc1, hf1⟩ := cellsBelow hd rfl)
      go_ret
      exact ⟨rfl, Below.trans (by repeat (first | exact HB.out | apply below_alloc)) (hd.mono (by first | (simp; done) | (simp; omega)))⟩
  | false =>
    rw [h0] at HG
    have hv : goodPatB a0_1 l0_2 = false := by unfold goodPatB; rw [h0]; rfl
    rw [hv]
    clear h0 hv
    go_enter Try.func74, Try.ntmps74
    go_wp2_with (go_at_call 116; refine (impl_goodCls.calls _ _ _ HG.out).mono ?_; rintro e w1 ⟨rfl, hd⟩; obtain ⟨hc1, hf1⟩ := cellsBelow hd rfl)
    go_ret
    exact ⟨rfl, Below.trans (by repeat (first | exact HB.out | apply below_alloc)) (hd.mono (by first | (simp; done) | (simp; omega)))⟩
end Go.Proofs.Ytoncacdehhmpaaa.P
namespace Go.Proofs.YtoncacdehhmpaaaX
open Go Go.RowKit Go.Maps Go.ChangeMaps Go.WideMaps
def lookS : List (ByteArray × Int) → ByteArray → Option Int
  | [], _ => none
  | (t, v) :: r, s => if t = s then some v else lookS r s
theorem lawS : Keyed Try.prog 9 := string_keyed Try.underlying9
theorem zeroI (w : World) : (zeroValue 3).run Try.prog w = .ok (.int .i64 0) w := by kernel_rfl
def MapS (w : World) (b n : Nat) (ss : List (ByteArray × Int)) : Prop :=
  ∃ D : DataW Unit, w.ownsMap Try.prog 9 (plainElem Try.prog 3) b n D ∧ IsMap D ∧
    ∀ s : ByteArray, has D (.string s.data.toList) = (lookS ss s).isSome ∧ D.atKey (.string s.data.toList) (.lit (.int .i64 0)) = .lit (.int .i64 ((lookS ss s).getD 0))
theorem MapS_made (w : World) : MapS (w.alloc (.map #[] 0)) w.heap.size 0 [] :=
  ⟨.map [], World.ownsMap_made w _ _ _, isMap_empty, fun _ => ⟨rfl, rfl⟩⟩
theorem MapS.kept {w w' : World} {b n : Nat} {ss : List (ByteArray × Int)} {row : Option Nat} (h : MapS w b n ss) (hg : w.grownBy w' row) (hne : some b ≠ row) : MapS w' b n ss := by
  obtain ⟨D, h1, h2, h3⟩ := h
  exact ⟨D, h1.kept hg hne, h2, h3⟩
theorem MapS.alloc {w : World} {b n : Nat} {ss : List (ByteArray × Int)} (h : MapS w b n ss) (o : Obj) : MapS (w.alloc o) b n ss := by
  obtain ⟨D, h1, h2, h3⟩ := h
  exact ⟨D, h1.alloc o, h2, h3⟩
theorem MapS.drew {w : World} {b n : Nat} {ss : List (ByteArray × Int)} (h : MapS w b n ss) : MapS w.drew b n ss := h
theorem MapS.setCell {w : World} {b n : Nat} {ss : List (ByteArray × Int)} (h : MapS w b n ss) {a : Addr} (ha : b ≠ a.block) (u : Value) : MapS (w.setCell a u) b n ss := by
  obtain ⟨D, h1, h2, h3⟩ := h
  exact ⟨D, h1.setCell ha u, h2, h3⟩
theorem MapS.lt {w : World} {b n : Nat} {ss : List (ByteArray × Int)} (h : MapS w b n ss) : b < w.heap.size := by
  obtain ⟨D, h1, _⟩ := h
  exact h1.lt
theorem wpList_lookS {w : World} {ops : Array Oper} {rest : List Oper} {o : Oper} {a : Act} {Q : Exit → Act → World → Prop} (hg : o.guard = none) (m x : Operand)
    (hop : o.op = Op.lookup 123 m x true) (b n : Nat) (ss : List (ByteArray × Int)) (h : MapS w b n ss) (hm : a.eval m = .map (some b)) (s : ByteArray) (hs : s.size ≤ maxLen) (hx : a.eval x = .string s)
    (hK : wpList Try.prog ops Q rest (a.put o.dst (.tuple #[.int .i64 ((lookS ss s).getD 0), .bool (lookS ss s).isSome])) w) :
    wpList Try.prog ops Q (o :: rest) a w := by
  obtain ⟨D, h1, h2, h3⟩ := h
  refine wpList_lookup_own_ok_int w hg m x _ hop _ _ .i64 lawS Try.underlying123 Try.underlying3 (zeroI _) b n D hm h1 _ _ hx (keyOf_string_mk Try.underlying9 hs) ?_
  intro c hc _
  rw [(h3 s).2] at hc
  injection hc with hc
  injection hc with _ hc
  rw [(h3 s).1, ← hc]
  exact hK
theorem data_ne {s t : ByteArray} (h : s ≠ t) : (Lit.string s.data.toList) ≠ .string t.data.toList := by
  intro e
  injection e with e
  apply h
  cases s with | mk a =>
  cases t with | mk b =>
  have : a = b := Array.toList_inj.1 e
  rw [this]
theorem wpList_putS {w : World} {ops : Array Oper} {rest : List Oper} {o : Oper} {a : Act} {Q : Exit → Act → World → Prop} (hg : o.guard = none) (m x v : Operand)
    (hop : o.op = Op.mapUpdate 123 m x v) (b n : Nat) (ss : List (ByteArray × Int)) (h : MapS w b n ss) (hn : n < maxLen) (hm : a.eval m = .map (some b)) (s : ByteArray) (hs : s.size ≤ maxLen) (hx : a.eval x = .string s)
    (c : Int) (hc : (Lit.int .i64 c).wf = true) (hv : a.eval v = .int .i64 c)
    (hK : ∀ w', MapS w' b (n + 1) ((s, c) :: ss) → w.grownBy w' (some b) → wpList Try.prog ops Q rest (a.put o.dst undef) w') :
    wpList Try.prog ops Q (o :: rest) a w := by
  obtain ⟨D, h1, h2, h3⟩ := h
  refine wpList_mapUpdate_own w hg m x v _ hop _ _ lawS Try.underlying123 _ b n D hm h1 hn _ _ _ hx hv (keyOf_string_mk Try.underlying9 hs) _ [] (plainElem_int Try.underlying3 hc) ?_
  intro w' h4 h5
  refine hK w' ⟨_, h4, ?_, fun t => ?_⟩ h5
  · obtain ⟨es, rfl⟩ := h2
    exact ⟨_, rfl⟩
  · by_cases e : s = t
    · subst e
      simp only [lookS, if_true]
      exact ⟨has_put_same h2 (by trivial) _, atKey_put_same h2 (by trivial) _ _⟩
    · simp only [lookS, if_neg e]
      rw [has_put_other (data_ne (Ne.symm e)), atKey_put_other (data_ne (Ne.symm e))]
      exact h3 t
end Go.Proofs.YtoncacdehhmpaaaX
