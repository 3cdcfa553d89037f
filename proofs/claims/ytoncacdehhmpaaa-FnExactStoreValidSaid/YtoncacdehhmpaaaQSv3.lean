/- The row of the law FnExactStoreValid: for every input the call returns true, and each argument reads behind it as it read before; no condition of ours. -/
import Derived.Test.YtoncacdehhmpaaaProg
import Derived.Below
import Derived.WalkKit
import Derived.OwnWalk
import Derived.Deep.LoopGhost
import Derived.RowKit3
import Derived.Shelf.Abstract
import Derived.Laws.RangeString
import Derived.Lib.OthersKept
import Derived.Lib.DecodeN
import Derived.Lib.TrimU
import Derived.Maps.RangeWalk
import Derived.Laws.CopyRow
import Derived.Laws.CopyOwn
import Derived.Laws.Rows
import Derived.Maps.OwnSet
import Derived.Maps.Views
import Derived.DeepKeys5
import Derived.BigQuiet
import Derived.Deep.QuietTactic
import Derived.IntWalk
import Derived.Deep.RegionWith
import Derived.Test.YtoncacdehhmpaaaQSv2
namespace Go.Proofs.Ytoncacdehhmpaaa.P
open Go.RowKit Go.Proofs.YtoncacdehhmpaaaW.PrintWords Go.Proofs.YtoncacdehhmpaaaW.PrintLast Go.Proofs.YtoncacdehhmpaaaW.PrintMore
attribute [local go_sem] max2_int min2_int max_two min_two max_three min_three max_four min_four
set_option linter.unusedVariables false
set_option linter.unusedSimpArgs false
def laws_toValue.f (a0_0 : Int) (a0_1 : Int) (a0_2 : ByteArray) : Option (Int × Int × ByteArray) := some (a0_0, a0_1, a0_2)
set_option maxHeartbeats 8000000 in
set_option maxRecDepth 100000 in
theorem laws_toValue.calls (a0_0 : Int) (a0_1 : Int) (a0_2 : ByteArray) (r1 : Int) (r2 : Int) (r3 : ByteArray) (w : World) (h : laws_toValue.f a0_0 a0_1 a0_2 = some (r1, r2, r3)) :
  Calls Try.prog 103 #[.agg #[.int .i64 a0_0, .int .i64 a0_1, .string a0_2]] w fun e w' => e = .returned (.agg #[.int .i64 r1, .int .i64 r2, .string r3]) ∧ Below w.heap.size w w' := by
 have hu158 := Try.underlying158
 have hu104 := Try.underlying104
 have HB := Aside0.mk (Below.refl w.heap.size w)
 have H : (some (a0_0, a0_1, a0_2)) = some (r1, r2, r3) := h
 clear h
 simp only [Option.some.injEq, Prod.mk.injEq] at H
 obtain ⟨rfl, rfl, rfl⟩ := H
 go_enter Try.func103, Try.ntmps103
 go_wp2_with (first | ((with_reducible refine gate_dst (N := 1) rfl ?_); refine box_event ?hg (N := 1) ?hd (cs := #[.int .i64 a0_0, .int .i64 a0_1, .string a0_2]) (t := 158) ?hr ?_; (case hd => rfl); (case hg => rfl); (case hr => first | (go_simp; done) | (go_simp; rfl)); intro gb124 hg w2 hbox hb; have n0_ := Aside0.mk (below_step (by repeat (first | (with_reducible first | exact HB.out | apply below_alloc | apply pw_below_drewN | apply below_drew1) | exact HB.out)) hb); have n1_ := Aside0.mk (hbox); have n2_ := Aside0.mk ((by rw [hg]; exact (below_size (by repeat (first | (with_reducible first | exact HB.out | apply below_alloc | apply pw_below_drewN | apply below_drew1) | exact HB.out))) : w.heap.size ≤ gb124)); have n3_ := Aside0.mk ((by rw [hg]; exact (below_size (by repeat (first | (with_reducible first | exact HB.out | apply below_alloc | apply pw_below_drewN | apply below_drew1) | exact HB.out))) : w.heap.size ≤ gb124)); clear HB; have HB := n0_; have BK124 := n1_; have GW124 := n2_; have GE124 := n3_; clear n0_ n1_ n2_ n3_; clear hb hbox hg) | ((with_reducible refine gate_dst (N := 2) rfl ?_); refine box_event ?hg (N := 2) ?hd (cs := #[.int .i64 0, .int .i64 0, .string (⟨#[]⟩ : ByteArray)]) (t := 104) ?hr ?_; (case hd => rfl); (case hg => rfl); (case hr => first | (go_simp; done) | (go_simp; rfl)); intro gb125 hg w3 hbox hb; have n0_ := Aside0.mk (blk_below (g := gb124) (o := .cells #[.int .i64 a0_0, .int .i64 a0_1, .string a0_2] 158 (0, 0)) (by (with_reducible repeat (first | refine blk_drewN ?_ _ | refine blk_drew ?_ | refine blk_alloc ?_ _)); exact BK124.out) hb); have n1_ := Aside0.mk (below_step (by repeat (first | (with_reducible first | exact HB.out | apply below_alloc | apply pw_below_drewN | apply below_drew1 | refine below_set ?_ GE124.out) | exact HB.out)) hb); have n2_ := Aside0.mk (hbox); have n3_ := Aside0.mk ((by rw [hg]; exact (below_size (by repeat (first | (with_reducible first | exact HB.out | apply below_alloc | apply pw_below_drewN | apply below_drew1 | refine below_set ?_ GE124.out) | exact HB.out))) : w.heap.size ≤ gb125)); have n4_ := Aside0.mk ((by rw [hg]; exact (below_size (by repeat (first | (with_reducible first | exact HB.out | apply below_alloc | apply pw_below_drewN | apply below_drew1 | refine below_set ?_ GE124.out) | exact HB.out))) : w.heap.size ≤ gb125)); have n5_ := Aside0.mk ((by rw [hg]; exact Nat.ne_of_lt (blk_lt (g := gb124) (o := .cells #[.int .i64 a0_0, .int .i64 a0_1, .string a0_2] 158 (0, 0)) (by (with_reducible repeat (first | refine blk_drewN ?_ _ | refine blk_drew ?_ | refine blk_alloc ?_ _)); exact BK124.out)) : gb124 ≠ gb125)); have n6_ := Aside0.mk ((by rw [hg]; exact Nat.ne_of_gt (blk_lt (g := gb124) (o := .cells #[.int .i64 a0_0, .int .i64 a0_1, .string a0_2] 158 (0, 0)) (by (with_reducible repeat (first | refine blk_drewN ?_ _ | refine blk_drew ?_ | refine blk_alloc ?_ _)); exact BK124.out)) : gb125 ≠ gb124)); clear BK124; clear HB; have BK124 := n0_; have HB := n1_; have BK125 := n2_; have GW125 := n3_; have GE125 := n4_; have NB124_125 := n5_; have NB125_124 := n6_; clear n0_ n1_ n2_ n3_ n4_ n5_ n6_; clear hb hbox hg) | ((with_reducible refine gate_dst (N := 3) rfl ?_); refine box_event ?hg (N := 3) ?hd (cs := #[.int .i64 0, .int .i64 0, .string (⟨#[]⟩ : ByteArray)]) (t := 104) ?hr ?_; (case hd => rfl); (case hg => rfl); (case hr => first | (go_simp; done) | (go_simp; rfl)); intro gb126 hg w4 hbox hb; have n0_ := Aside0.mk (blk_below (g := gb124) (o := .cells #[.int .i64 a0_0, .int .i64 a0_1, .string a0_2] 158 (0, 0)) (by (with_reducible repeat (first | refine blk_drewN ?_ _ | refine blk_drew ?_ | refine blk_alloc ?_ _)); exact BK124.out) hb); have n1_ := Aside0.mk (blk_below (g := gb125) (o := .cells #[.int .i64 0, .int .i64 0, .string (⟨#[]⟩ : ByteArray)] 104 (0, 0)) (by (with_reducible repeat (first | refine blk_drewN ?_ _ | refine blk_drew ?_ | refine blk_alloc ?_ _)); exact BK125.out) hb); have n2_ := Aside0.mk (below_step (by repeat (first | (with_reducible first | exact HB.out | apply below_alloc | apply pw_below_drewN | apply below_drew1 | refine below_set ?_ GE124.out | refine below_set ?_ GE125.out) | exact HB.out)) hb); have n3_ := Aside0.mk (hbox); have n4_ := Aside0.mk ((by rw [hg]; exact (below_size (by repeat (first | (with_reducible first | exact HB.out | apply below_alloc | apply pw_below_drewN | apply below_drew1 | refine below_set ?_ GE124.out | refine below_set ?_ GE125.out) | exact HB.out))) : w.heap.size ≤ gb126)); have n5_ := Aside0.mk ((by rw [hg]; exact (below_size (by repeat (first | (with_reducible first | exact HB.out | apply below_alloc | apply pw_below_drewN | apply below_drew1 | refine below_set ?_ GE124.out | refine below_set ?_ GE125.out) | exact HB.out))) : w.heap.size ≤ gb126)); have n6_ := Aside0.mk ((by rw [hg]; exact Nat.ne_of_lt (blk_lt (g := gb124) (o := .cells #[.int .i64 a0_0, .int .i64 a0_1, .string a0_2] 158 (0, 0)) (by (with_reducible repeat (first | refine blk_drewN ?_ _ | refine blk_drew ?_ | refine blk_alloc ?_ _)); exact BK124.out)) : gb124 ≠ gb126)); have n7_ := Aside0.mk ((by rw [hg]; exact Nat.ne_of_gt (blk_lt (g := gb124) (o := .cells #[.int .i64 a0_0, .int .i64 a0_1, .string a0_2] 158 (0, 0)) (by (with_reducible repeat (first | refine blk_drewN ?_ _ | refine blk_drew ?_ | refine blk_alloc ?_ _)); exact BK124.out)) : gb126 ≠ gb124)); have n8_ := Aside0.mk ((by rw [hg]; exact Nat.ne_of_lt (blk_lt (g := gb125) (o := .cells #[.int .i64 0, .int .i64 0, .string (⟨#[]⟩ : ByteArray)] 104 (0, 0)) (by (with_reducible repeat (first | refine blk_drewN ?_ _ | refine blk_drew ?_ | refine blk_alloc ?_ _)); exact BK125.out)) : gb125 ≠ gb126)); have n9_ := Aside0.mk ((by rw [hg]; exact Nat.ne_of_gt (blk_lt (g := gb125) (o := .cells #[.int .i64 0, .int .i64 0, .string (⟨#[]⟩ : ByteArray)] 104 (0, 0)) (by (with_reducible repeat (first | refine blk_drewN ?_ _ | refine blk_drew ?_ | refine blk_alloc ?_ _)); exact BK125.out)) : gb126 ≠ gb125)); clear BK124; clear BK125; clear HB; have BK124 := n0_; have BK125 := n1_; have HB := n2_; have BK126 := n3_; have GW126 := n4_; have GE126 := n5_; have NB124_126 := n6_; have NB126_124 := n7_; have NB125_126 := n8_; have NB126_125 := n9_; clear n0_ n1_ n2_ n3_ n4_ n5_ n6_ n7_ n8_ n9_; clear hb hbox hg; have hnb5 := NB124_125.out; have hnc5 := NB125_124.out; have hnb6 := NB124_126.out; have hnc6 := NB126_124.out; have hcz7_0 : w4.cell? ⟨gb124, 0, none⟩ = some (.int .i64 a0_0) := (blk_cell BK124.out 0).trans rfl; have hcz7_1 : w4.cell? ⟨gb124, 1, none⟩ = some (.int .i64 a0_1) := (blk_cell BK124.out 1).trans rfl; have hcz7_2 : w4.cell? ⟨gb124, 2, none⟩ = some (.string a0_2) := (blk_cell BK124.out 2).trans rfl; have hfz7_0 := blk_frozen BK124.out 0; have hfz7_1 := blk_frozen BK124.out 1; have hfz7_2 := blk_frozen BK124.out 2; have hnb8 := NB126_125.out; have hnc8 := NB125_126.out; have hcz9_0 : w4.cell? ⟨gb126, 0, none⟩ = some (.int .i64 0) := (blk_cell BK126.out 0).trans rfl; have hcz9_1 : w4.cell? ⟨gb126, 1, none⟩ = some (.int .i64 0) := (blk_cell BK126.out 1).trans rfl; have hcz9_2 : w4.cell? ⟨gb126, 2, none⟩ = some (.string (⟨#[]⟩ : ByteArray)) := (blk_cell BK126.out 2).trans rfl; have hfz9_0 := blk_frozen BK126.out 0; have hfz9_1 := blk_frozen BK126.out 1; have hfz9_2 := blk_frozen BK126.out 2; have hcz10_0 : w4.cell? ⟨gb125, 0, none⟩ = some (.int .i64 0) := (blk_cell BK125.out 0).trans rfl; have hcz10_1 : w4.cell? ⟨gb125, 1, none⟩ = some (.int .i64 0) := (blk_cell BK125.out 1).trans rfl; have hcz10_2 : w4.cell? ⟨gb125, 2, none⟩ = some (.string (⟨#[]⟩ : ByteArray)) := (blk_cell BK125.out 2).trans rfl; have hfz10_0 := blk_frozen BK125.out 0; have hfz10_1 := blk_frozen BK125.out 1; have hfz10_2 := blk_frozen BK125.out 2))
 refine bodyPost_ret (results_cell_row rfl _ _ gb125 104 #[.int .i64 a0_0, .int .i64 a0_1, .string a0_2] (0, 0) _ rfl (by (with_reducible repeat (first | refine blk_drewN ?_ _ | refine blk_drew ?_ | refine blk_alloc ?_ _)); refine blk_put (cs := #[.int .i64 a0_0, .int .i64 a0_1, .string (⟨#[]⟩ : ByteArray)]) ?_ 2 _ rfl; (with_reducible repeat (first | refine blk_drewN ?_ _ | refine blk_drew ?_ | refine blk_alloc ?_ _)); refine blk_put (cs := #[.int .i64 a0_0, .int .i64 0, .string (⟨#[]⟩ : ByteArray)]) ?_ 1 _ rfl; (with_reducible repeat (first | refine blk_drewN ?_ _ | refine blk_drew ?_ | refine blk_alloc ?_ _)); refine blk_put (cs := #[.int .i64 0, .int .i64 0, .string (⟨#[]⟩ : ByteArray)]) ?_ 0 _ rfl; (with_reducible repeat (first | refine blk_drewN ?_ _ | refine blk_drew ?_ | refine blk_alloc ?_ _)); refine blk_far ?_ NB125_126.out _; (with_reducible repeat (first | refine blk_drewN ?_ _ | refine blk_drew ?_ | refine blk_alloc ?_ _)); refine blk_far ?_ NB125_126.out _; (with_reducible repeat (first | refine blk_drewN ?_ _ | refine blk_drew ?_ | refine blk_alloc ?_ _)); refine blk_far ?_ NB125_126.out _; (with_reducible repeat (first | refine blk_drewN ?_ _ | refine blk_drew ?_ | refine blk_alloc ?_ _)); exact BK125.out) Try.underlying104 rfl (by kernel_rfl)) rfl ?_
 exact ⟨by first | rfl | (simp [errW_none, errW_some] <;> rfl) | (simp [*, errW_none, errW_some] <;> rfl), by repeat (first | (with_reducible first | exact HB.out | apply below_alloc | apply pw_below_drewN | apply below_drew1 | refine below_set ?_ GE124.out | refine below_set ?_ GE125.out | refine below_set ?_ GE126.out) | exact HB.out)⟩
def laws_toAlphaTest.f (a0_0 : Int) (a0_1 : Int) (a0_2 : Int) (a0_3 : Int) (a0_4 : Int) (a0_5 : ByteArray) : Option (Int × Int × Int × Int × Int × ByteArray) := (laws_toValue.f a0_3 a0_4 a0_5).bind fun bt130 => (some (a0_0, a0_1, a0_2, bt130.1, bt130.2.1, bt130.2.2))
def laws_toAlphaTestS.l0 : Nat → List (S160) → List (S106) → Int → Option ((List (S106)))
 | 0, _, _, _ => none
 | k + 1, x0, x3, x4 => if x4 < (x0.length : Int) then (if 0 ≤ x4 then ((laws_toAlphaTest.f ((rd_T160 x0 x4).f0) ((rd_T160 x0 x4).f1) ((rd_T160 x0 x4).f2) ((rd_T160 x0 x4).f3.f0) ((rd_T160 x0 x4).f3.f1) ((rd_T160 x0 x4).f3.f2)).bind fun bt137 => (if x4 < (x3.length : Int) then (laws_toAlphaTestS.l0 k x0 (x3.set (x4 : Int).toNat (⟨bt137.1, bt137.2.1, bt137.2.2.1, (⟨bt137.2.2.2.1, bt137.2.2.2.2.1, bt137.2.2.2.2.2⟩ : S104)⟩ : S106)) (wrap64 (x4 + 1))) else (none))) else (none)) else (some x3)
def laws_toAlphaTestS.f (k : Nat) (l0 : List (S160)) : Option ((List (S106))) := if 0 ≤ (l0.length : Int) then (if ((l0.length : Int) : Int).toNat ≤ 5026338869833 then (laws_toAlphaTestS.l0 k l0 (List.replicate ((l0.length : Int) : Int).toNat z106) 0) else (none)) else (none)
theorem laws_toAlphaTestS.mono_l : ∀ k, (∀ y0 y1 y2, LeO (laws_toAlphaTestS.l0 k y0 y1 y2) (laws_toAlphaTestS.l0 (k + 1) y0 y1 y2))
 | 0 => fun _ _ _ r h => by simp [laws_toAlphaTestS.l0] at h
 | k + 1 => by
  have ih0 := laws_toAlphaTestS.mono_l k
  ·intro y0 y1 y2
   unfold laws_toAlphaTestS.l0
   repeat' first
   | (with_reducible exact ih0 _ _ _)
   | (with_reducible exact LeO.refl _)
   | (with_reducible exact LeO.none _)
   | (with_reducible refine LeO.ite ?_ ?_)
   | (with_reducible refine LeO.bind ?_ (fun _ => ?_))
   | exact ih0 _ _ _
   | exact LeO.none _
   | refine LeO.ite ?_ ?_
   | refine LeO.bind ?_ (fun _ => ?_)
theorem laws_toAlphaTestS.mono : ∀ a0 k, LeO (laws_toAlphaTestS.f k a0) (laws_toAlphaTestS.f (k + 1) a0) := by
 intro a0 k
 have ih0 := laws_toAlphaTestS.mono_l k
 unfold laws_toAlphaTestS.f
 repeat' first
   | (with_reducible exact ih0 _ _ _)
   | (with_reducible exact LeO.refl _)
   | (with_reducible exact LeO.none _)
   | (with_reducible refine LeO.ite ?_ ?_)
   | (with_reducible refine LeO.bind ?_ (fun _ => ?_))
   | exact ih0 _ _ _
   | exact LeO.none _
   | refine LeO.ite ?_ ?_
   | refine LeO.bind ?_ (fun _ => ?_)
def laws_toAlpha.f (k : Nat) (a0_0 : ByteArray) (a0_1 : Int) (l0_2 : List (S160)) : Option (ByteArray × Int × (List (S106))) := (laws_toAlphaTestS.f k l0_2).bind fun t147 => (some (a0_0, a0_1, t147))
theorem laws_toAlpha.mono : ∀ a0 a1 a2 k, LeO (laws_toAlpha.f k a0 a1 a2) (laws_toAlpha.f (k + 1) a0 a1 a2) := by
 intro a0 a1 a2 k
 unfold laws_toAlpha.f
 repeat' first
   | (with_reducible exact laws_toAlphaTestS.mono _ _)
   | (with_reducible exact LeO.refl _)
   | (with_reducible exact LeO.none _)
   | (with_reducible refine LeO.ite ?_ ?_)
   | (with_reducible refine LeO.bind ?_ (fun _ => ?_))
   | exact laws_toAlphaTestS.mono _ _
   | exact LeO.none _
   | refine LeO.ite ?_ ?_
   | refine LeO.bind ?_ (fun _ => ?_)
def laws_toValueS.l0 : Nat → List (S158) → List (S104) → Int → Option ((List (S104)))
 | 0, _, _, _ => none
 | k + 1, x0, x3, x4 => if x4 < (x0.length : Int) then (if 0 ≤ x4 then ((laws_toValue.f ((rd_T158 x0 x4).f0) ((rd_T158 x0 x4).f1) ((rd_T158 x0 x4).f2)).bind fun bt154 => (if x4 < (x3.length : Int) then (laws_toValueS.l0 k x0 (x3.set (x4 : Int).toNat (⟨bt154.1, bt154.2.1, bt154.2.2⟩ : S104)) (wrap64 (x4 + 1))) else (none))) else (none)) else (some x3)
def laws_toValueS.f (k : Nat) (l0 : List (S158)) : Option ((List (S104))) := if 0 ≤ (l0.length : Int) then (if ((l0.length : Int) : Int).toNat ≤ 8796093022208 then (laws_toValueS.l0 k l0 (List.replicate ((l0.length : Int) : Int).toNat z104) 0) else (none)) else (none)
theorem laws_toValueS.mono_l : ∀ k, (∀ y0 y1 y2, LeO (laws_toValueS.l0 k y0 y1 y2) (laws_toValueS.l0 (k + 1) y0 y1 y2))
 | 0 => fun _ _ _ r h => by simp [laws_toValueS.l0] at h
 | k + 1 => by
  have ih0 := laws_toValueS.mono_l k
  ·intro y0 y1 y2
   unfold laws_toValueS.l0
   repeat' first
   | (with_reducible exact ih0 _ _ _)
   | (with_reducible exact LeO.refl _)
   | (with_reducible exact LeO.none _)
   | (with_reducible refine LeO.ite ?_ ?_)
   | (with_reducible refine LeO.bind ?_ (fun _ => ?_))
   | exact ih0 _ _ _
   | exact LeO.none _
   | refine LeO.ite ?_ ?_
   | refine LeO.bind ?_ (fun _ => ?_)
theorem laws_toValueS.mono : ∀ a0 k, LeO (laws_toValueS.f k a0) (laws_toValueS.f (k + 1) a0) := by
 intro a0 k
 have ih0 := laws_toValueS.mono_l k
 unfold laws_toValueS.f
 repeat' first
   | (with_reducible exact ih0 _ _ _)
   | (with_reducible exact LeO.refl _)
   | (with_reducible exact LeO.none _)
   | (with_reducible refine LeO.ite ?_ ?_)
   | (with_reducible refine LeO.bind ?_ (fun _ => ?_))
   | exact ih0 _ _ _
   | exact LeO.none _
   | refine LeO.ite ?_ ?_
   | refine LeO.bind ?_ (fun _ => ?_)
set_option maxHeartbeats 8000000 in
set_option maxRecDepth 100000 in
theorem laws_toValueS.calls (k : Nat) (A0 : Option Addr) (c0 : Nat) (l0 : List (S158)) (r : List (S104)) (w : World) (hr0 : Kd.C k158 w A0 l0.length l0) (hc0 : l0.length ≤ c0) (h : laws_toValueS.f k l0 = some r) :
  Calls Try.prog 60 #[.slice A0 l0.length c0] w fun e w' => ∃ v0_ : Value, e = .returned (v0_) ∧ Kd.R k104 104 w' w.heap.size (fun _ => True) v0_ r ∧ Below w.heap.size w w' := by
 have hu158 := Try.underlying158
 have hu104 := Try.underlying104
 have HR0 := Aside0.mk hr0
 have HC0 := Aside0.mk hc0
 clear hr0 hc0
 have HB := Aside0.mk (Below.refl w.heap.size w)
 have H : (if 0 ≤ (l0.length : Int) then (if ((l0.length : Int) : Int).toNat ≤ 8796093022208 then (laws_toValueS.l0 k l0 (List.replicate ((l0.length : Int) : Int).toNat z104) 0) else (none)) else (none)) = some r := h
 clear h
 by_cases c2 : 0 ≤ (l0.length : Int)
 ·rw [if_pos c2] at H
  have c2b0 := eq_true c2
  have c2b1 : decide (0 ≤ (l0.length : Int)) = true := decide_eq_true c2
  clear c2
  by_cases c3 : ((l0.length : Int) : Int).toNat ≤ 8796093022208
  ·rw [if_pos c3] at H
   have c3b0 := eq_true c3
   have c3b1 : decide (((l0.length : Int) : Int).toNat ≤ 8796093022208) = true := decide_eq_true c3
   clear c3
   obtain ⟨y150, hy150⟩ : ∃ y_ : List (S104), y_ = (List.replicate ((l0.length : Int) : Int).toNat z104) := ⟨_, rfl⟩
   replace H : (laws_toValueS.l0 k l0 y150 0) = some r := by first | (rw [hy150]; with_reducible exact H) | (have H2_ := (Option.bind_some _ _).symm.trans H; rw [hy150]; with_reducible exact H2_) | (have H2_ := (Option.bind_some _ _).symm.trans H; with_reducible exact H2_) | with_reducible exact H | (rw [hy150]; exact H) | exact H
   have Ny150 := Aside0.mk hy150
   clear hy150
   have H' := Aside0.mk H
   clear H
   go_enter Try.func60, Try.ntmps60
   go_wp2_with (first | ((with_reducible refine gate_dst (N := 7) rfl ?_); refine Kd.R_make k104 _ 104 rfl (N := 7) rfl 36 _ _ rfl (l0.length : Int) rfl rfl Try.underlying36 (.agg #[(.int .i64 0), (.int .i64 0), (.string ⟨#[]⟩)]) 32 info104 rfl (by decide) (by omega) z104 (ok := fun _ => True) (okp := fun _ => True) (k104_mkM _ _ _ z104 ) (fun _ hk => hk) trivial (of_decide_eq_true (by first | (with_reducible assumption) | assumption)) (Nat.le_trans (Nat.mul_le_mul_right _ (of_decide_eq_true (by first | (with_reducible assumption) | assumption) : (l0.length : Int).toNat ≤ 8796093022208)) (by omega)) (Below.refl _ _) (Nat.le_refl _) ?_; intro v151 w4 ho5 hb hg_ hnew_; clear hg_ hnew_; (first | rw [← Ny150.out] at ho5 | (simp only [Int.reduceToNat] at ho5; rw [← Ny150.out] at ho5)); have n0_ := Aside0.mk (Kd.R_lower ho5 (below_size (by repeat (first | (with_reducible first | exact HB.out | apply below_alloc | apply pw_below_drewN | apply below_drew1) | exact HB.out)))); have n1_ := Aside0.mk (below_step (by repeat (first | (with_reducible first | exact HB.out | apply below_alloc | apply pw_below_drewN | apply below_drew1) | exact HB.out)) hb); clear HB; have HO152 := n0_; have HB := n1_; clear n0_ n1_; clear hb ho5))
   go_loopg [4] k (fun kq v4 w' => ∃ (x3_1 : List (S104)) (x4_1 : Int), v4 = .int .i64 x4_1 ∧ Aside0 (laws_toValueS.l0 kq l0 x3_1 x4_1 = some r) ∧ Aside0 (kq ≤ k) ∧ Aside0 (Kd.R k104 104 w' w.heap.size (fun _ => True) v151 x3_1) ∧ Aside0 (Below w.heap.size w w'))
   case atStart => exact ⟨(y150), (0), (by first | rfl | (simp; done) | (simp [*]; done)), H', ⟨Nat.le_refl _⟩, ⟨by (with_reducible repeat (first | apply Kd.R_alloc | apply Kd.R_drewN | apply Kd.R_drew)); exact HO152.out⟩, ⟨by repeat (first | (with_reducible first | exact HB.out | apply below_alloc | apply pw_below_drewN | apply below_drew1) | exact HB.out)⟩⟩
   case round =>
    clear H'
    try clear c2
    try clear c2b0
    try clear c2b1
    try clear p2
    try clear c3
    try clear c3b0
    try clear c3b1
    obtain ⟨x3_1, x4_1, rfl, HA, HK1, HO_3, HB⟩ := hrel
    cases gk with
    | zero => exact absurd HA.out (by simp [laws_toValueS.l0])
    | succ k1 =>
     have H := HA.out
     clear HA
     simp only [laws_toValueS.l0] at H
     by_cases c6 : x4_1 < (l0.length : Int)
     ·rw [if_pos c6] at H
      have c6b0 : decide (x4_1 < (l0.length : Int)) = true := decide_eq_true c6
      clear c6
      by_cases c7 : 0 ≤ x4_1
      ·rw [if_pos c7] at H
       have c7b0 : decide (0 ≤ x4_1) = true := decide_eq_true c7
       clear c7
       replace H := Option.bind_eq_some_iff.mp H
       obtain ⟨⟨t154, t155, t156⟩, A80, H⟩ := H
       replace H : (if x4_1 < (x3_1.length : Int) then (laws_toValueS.l0 k1 l0 (x3_1.set (x4_1 : Int).toNat (⟨t154, t155, t156⟩ : S104)) (wrap64 (x4_1 + 1))) else (none)) = some r := H
       have A8 := Aside0.mk A80
       clear A80
       by_cases c9 : x4_1 < (x3_1.length : Int)
       ·rw [if_pos c9] at H
        have c9b0 : decide (x4_1 < (x3_1.length : Int)) = true := decide_eq_true c9
        clear c9
        obtain ⟨y157, hy157⟩ : ∃ y_ : List (S104), y_ = (x3_1.set (x4_1 : Int).toNat (⟨t154, t155, t156⟩ : S104)) := ⟨_, rfl⟩
        replace H : (laws_toValueS.l0 k1 l0 y157 (wrap64 (x4_1 + 1))) = some r := by first | (rw [hy157]; with_reducible exact H) | (have H2_ := (Option.bind_some _ _).symm.trans H; rw [hy157]; with_reducible exact H2_) | (have H2_ := (Option.bind_some _ _).symm.trans H; with_reducible exact H2_) | with_reducible exact H | (rw [hy157]; exact H) | exact H
        have Ny157 := Aside0.mk hy157
        clear hy157
        have H' := Aside0.mk H
        clear H
        have p153 : 0 ≤ (x4_1 : Int) := of_decide_eq_true (by first | (with_reducible assumption) | assumption)
        have q153 : x4_1 < (l0.length : Int) := of_decide_eq_true (by first | (with_reducible assumption) | assumption)
        obtain ⟨ad153, e153, hx153_0, hx153_1, hx153_2⟩ := at_T158 HR0.out x4_1 p153 q153
        cases e153
        replace hx153_0 := (HB.out.cell (World.block_lt_of_cell? w _ hx153_0)).trans hx153_0
        replace hx153_1 := (HB.out.cell (World.block_lt_of_cell? w _ hx153_1)).trans hx153_1
        replace hx153_2 := (HB.out.cell (World.block_lt_of_cell? w _ hx153_2)).trans hx153_2
        replace p153 := eq_true p153
        replace q153 := eq_true q153
        go_wp2_with (first | ((with_reducible refine gate_callee (f := 103) rfl ?_); refine goesL_ (some 20) rfl rfl Try.func103 (by kernel_rfl) rfl #[.agg #[.int .i64 ((rd_T158 l0 x4_1).f0), .int .i64 ((rd_T158 l0 x4_1).f1), .string ((rd_T158 l0 x4_1).f2)]] rfl (by (try simp only [List.map_toArray, List.map_cons, List.map_nil]); first | done | rfl | (simp only [List.length_drop, List.length_take]; rfl)) ?_; (with_reducible refine (laws_toValue.calls ((rd_T158 l0 x4_1).f0) ((rd_T158 l0 x4_1).f1) ((rd_T158 l0 x4_1).f2) t154 t155 t156 _ A8.out).mono ?_); rintro e w11 ⟨rfl, hb⟩; refine ⟨_, rfl, ?_⟩; have n0_ := Aside0.mk (Kd.R_below (by (with_reducible repeat (first | apply Kd.R_alloc | apply Kd.R_drewN | apply Kd.R_drew)); exact HO_3.out) hb); have n1_ := Aside0.mk (below_step (by repeat (first | (with_reducible first | exact HB.out | apply below_alloc | apply pw_below_drewN | apply below_drew1) | exact HB.out)) hb); clear HO_3; clear HB; have HO_3 := n0_; have HB := n1_; clear n0_ n1_; (try clear hb); (try clear hb2); (try clear hk); (try clear hi); have p10 : 0 ≤ (x4_1 : Int) := of_decide_eq_true (by first | (with_reducible assumption) | assumption); have q10 : (x4_1 : Int) < ((x3_1.length : Int) : Int) := of_decide_eq_true (by first | (with_reducible assumption) | assumption); obtain ⟨go10, co10, eo10, gb10, gl10, cl10, HG10⟩ := Kd.R_form HO_3.out (by omega); (first | cases eo10 | (injection eo10 with ea_ en_ ec_; (first | subst ea_ | (injection ea_ with ea_; subst ea_)); subst ec_; clear en_)); have GB10 := Aside0.mk gb10; have GG10 := Aside0.mk HG10; clear gb10 gl10 HG10; obtain ⟨ce10, hcl10, hM10, hcc10, hfr10⟩ := Kd.R_elem HO_3.out z104 (x4_1 : Int) p10 q10; obtain rfl := k104_openM hM10; have hx10_0 : w11.cell? ⟨go10, (x4_1 : Int).toNat * 3, none⟩ = some (.int .i64 ((rd_T104 x3_1 x4_1).f0)) := hcc10 0 _ rfl; have hx10_1 : w11.cell? ⟨go10, (x4_1 : Int).toNat * 3 + 1, none⟩ = some (.int .i64 ((rd_T104 x3_1 x4_1).f1)) := hcc10 1 _ rfl; have hx10_2 : w11.cell? ⟨go10, (x4_1 : Int).toNat * 3 + 2, none⟩ = some (.string ((rd_T104 x3_1 x4_1).f2)) := hcc10 2 _ rfl; have hf10_0 : w11.frozen? ⟨go10, (x4_1 : Int).toNat * 3, none⟩ = false := hfr10 0; have hf10_1 : w11.frozen? ⟨go10, (x4_1 : Int).toNat * 3 + 1, none⟩ = false := hfr10 1; have hf10_2 : w11.frozen? ⟨go10, (x4_1 : Int).toNat * 3 + 2, none⟩ = false := hfr10 2; clear hcl10 hcc10 hfr10; (try clear hM10); replace p10 := eq_true p10; replace q10 := eq_true q10; have HX12 := Aside0.mk (show Kd.R k104 104 w11 w.heap.size (fun _ => True) (.slice (some ⟨go10, 0, none⟩) x3_1.length co10) x3_1 from (by (with_reducible repeat (first | apply Kd.R_alloc | apply Kd.R_drewN | apply Kd.R_drew)); exact HO_3.out)); obtain ⟨ce12, hcl12, hM12, hcc12, hfr12⟩ := Kd.R_elem HX12.out z104 (x4_1 : Int) (of_decide_eq_true (by first | (with_reducible assumption) | assumption)) (by have h_ : (x4_1 : Int) < ((x3_1.length : Int) : Int) := of_decide_eq_true (by first | (with_reducible assumption) | assumption); first | exact h_ | (have e_ := (Kd.R_reads' HO_3.out).1; omega) | simpa using h_); obtain rfl := k104_openM hM12; have HP12 := Kd.R_seg HX12.out (x4_1 : Int) (of_decide_eq_true (by first | (with_reducible assumption) | assumption)) (by have h_ : (x4_1 : Int) < ((x3_1.length : Int) : Int) := of_decide_eq_true (by first | (with_reducible assumption) | assumption); first | exact h_ | (have e_ := (Kd.R_reads' HO_3.out).1; omega) | simpa using h_) (seg := [.int .i64 t154, .int .i64 t155, .string t156]) (j := 0) hcl12 hcc12 (show 3 ≤ 3 from by decide) (x' := (⟨t154, t155, t156⟩ : S104)) (k104_mkM _ _ _ (⟨t154, t155, t156⟩ : S104) ) (fun _ hk => hk); have hx12_0 := hcc12 0 _ rfl; (try simp only [show (k104).sz = 3 from rfl, Nat.mul_one, Nat.add_zero] at hx12_0); have hf12_0 := hfr12 0; (try simp only [show (k104).sz = 3 from rfl, Nat.mul_one, Nat.add_zero] at hf12_0); have hx12_1 := hcc12 1 _ rfl; (try simp only [show (k104).sz = 3 from rfl, Nat.mul_one, Nat.add_zero] at hx12_1); have hf12_1 := hfr12 1; (try simp only [show (k104).sz = 3 from rfl, Nat.mul_one, Nat.add_zero] at hf12_1); have hx12_2 := hcc12 2 _ rfl; (try simp only [show (k104).sz = 3 from rfl, Nat.mul_one, Nat.add_zero] at hx12_2); have hf12_2 := hfr12 2; (try simp only [show (k104).sz = 3 from rfl, Nat.mul_one, Nat.add_zero] at hf12_2); clear hcl12 hcc12 hfr12; (try clear hM12)) | ((with_reducible refine gate_store (t := 104) (p := 21) rfl ?_); refine store_event (t := 104) (p := 21) (v := ?vo_w13) (w1 := (((w11.setCell ⟨go10, (x4_1 : Int).toNat * 3, none⟩ (.int .i64 t154)).setCell ⟨go10, (x4_1 : Int).toNat * 3 + 1, none⟩ (.int .i64 t155)).setCell ⟨go10, (x4_1 : Int).toNat * 3 + 2, none⟩ (.string t156))) ?hg ?ho ?hn ?hr ?_; (case ho => rfl); (case hg => rfl); (case hn => rfl); (case hr => first | (go_simp; done) | (go_simp; rfl)); intro w13 hw; have hg : w11.grownBy w13 (some go10) := (by rw [hw]; exact HP12.2); have hp_ : Kd.R k104 104 w13 w.heap.size (fun _ => True) (.slice (some ⟨go10, 0, none⟩) x3_1.length co10) y157 := (by rw [hw, Ny157.out]; exact HP12.1); clear HP12; have n0_ := Aside0.mk (hp_); have n1_ := Aside0.mk ((by rw [hw]; exact below_set (below_set (below_set (HB.out) GB10.out) GB10.out) GB10.out : Below w.heap.size w w13)); clear HO_3; clear HB; have HO_3 := n0_; have HB := n1_; clear n0_ n1_; clear hg hw hp_))
        go_roundg k1
        case measure => have := HK1.out; omega
        case rel => exact ⟨(y157), (wrap64 (x4_1 + 1)), (by first | rfl | (simp; done) | (simp [*]; done)), H', ⟨by have := HK1.out; omega⟩, ⟨by (with_reducible repeat (first | apply Kd.R_alloc | apply Kd.R_drewN | apply Kd.R_drew)); exact HO_3.out⟩, ⟨by repeat (first | (with_reducible first | exact HB.out | apply below_alloc | apply pw_below_drewN | apply below_drew1) | exact HB.out)⟩⟩
       ·rw [if_neg c9] at H
        exact absurd H (by simp)
      ·rw [if_neg c7] at H
       exact absurd H (by simp)
     ·rw [if_neg c6] at H
      have c6b0 : decide (x4_1 < (l0.length : Int)) = false := decide_eq_false c6
      clear c6
      obtain rfl := Option.some.inj H
      go_wp2
      go_ret
      exact ⟨_, by first | rfl | (simp [errW_none, errW_some] <;> rfl) | (simp [*, errW_none, errW_some] <;> rfl), by (with_reducible repeat (first | apply Kd.R_alloc | apply Kd.R_drewN | apply Kd.R_drew)); exact HO_3.out, by repeat (first | (with_reducible first | exact HB.out | apply below_alloc | apply pw_below_drewN | apply below_drew1) | exact HB.out)⟩
  ·rw [if_neg c3] at H
   exact absurd H (by simp)
 ·rw [if_neg c2] at H
  exact absurd H (by simp)
def laws_toFact.f (k : Nat) (a0_0 : Int) (a0_1 : ByteArray) (l0_2 : List (S158)) : Option (Int × ByteArray × (List (S104))) := (laws_toValueS.f k l0_2).bind fun t161 => (some (a0_0, a0_1, t161))
theorem laws_toFact.mono : ∀ a0 a1 a2 k, LeO (laws_toFact.f k a0 a1 a2) (laws_toFact.f (k + 1) a0 a1 a2) := by
 intro a0 a1 a2 k
 unfold laws_toFact.f
 repeat' first
   | (with_reducible exact laws_toValueS.mono _ _)
   | (with_reducible exact LeO.refl _)
   | (with_reducible exact LeO.none _)
   | (with_reducible refine LeO.ite ?_ ?_)
   | (with_reducible refine LeO.bind ?_ (fun _ => ?_))
   | exact laws_toValueS.mono _ _
   | exact LeO.none _
   | refine LeO.ite ?_ ?_
   | refine LeO.bind ?_ (fun _ => ?_)
set_option maxHeartbeats 8000000 in
set_option maxRecDepth 100000 in
theorem laws_toFact.calls (k : Nat) (a0_0 : Int) (a0_1 : ByteArray) (A0_2 : Option Addr) (c0_2 : Nat) (l0_2 : List (S158)) (r1 : Int) (r2 : ByteArray) (r3 : List (S104)) (w : World) (hr0_2 : Kd.C k158 w A0_2 l0_2.length l0_2) (hc0_2 : l0_2.length ≤ c0_2) (h : laws_toFact.f k a0_0 a0_1 l0_2 = some (r1, r2, r3)) :
  Calls Try.prog 14 #[.agg #[.int .i64 a0_0, .string a0_1, .slice A0_2 l0_2.length c0_2]] w fun e w' => ∃ v2_ : Value, e = .returned (.agg #[.int .i64 r1, .string r2, v2_]) ∧ Kd.R k104 104 w' w.heap.size (fun _ => True) v2_ r3 ∧ Below w.heap.size w w' := by
 have hu28 := Try.underlying28
 have hu38 := Try.underlying38
 have HR0_2 := Aside0.mk hr0_2
 have HC0_2 := Aside0.mk hc0_2
 clear hr0_2 hc0_2
 have HB := Aside0.mk (Below.refl w.heap.size w)
 have H : ((laws_toValueS.f k l0_2).bind fun t161 => (some (a0_0, a0_1, t161))) = some (r1, r2, r3) := h
 clear h
 replace H := Option.bind_eq_some_iff.mp H
 obtain ⟨t161, A20, H⟩ := H
 replace H : (some (a0_0, a0_1, t161)) = some (r1, r2, r3) := H
 have A2 := Aside0.mk A20
 clear A20
 simp only [Option.some.injEq, Prod.mk.injEq] at H
 obtain ⟨rfl, rfl, rfl⟩ := H
 go_enter Try.func14, Try.ntmps14
 go_wp2_with (first | ((with_reducible refine gate_dst (N := 1) rfl ?_); refine box_event ?hg (N := 1) ?hd (cs := #[.int .i64 a0_0, .string a0_1, .slice A0_2 l0_2.length c0_2]) (t := 28) ?hr ?_; (case hd => rfl); (case hg => rfl); (case hr => first | (go_simp; done) | (go_simp; rfl)); intro gb158 hg w3 hbox hb; have n0_ := Aside0.mk (below_step (by repeat (first | (with_reducible first | exact HB.out | apply below_alloc | apply pw_below_drewN | apply below_drew1) | exact HB.out)) hb); have n1_ := Aside0.mk (hbox); have n2_ := Aside0.mk ((by rw [hg]; exact (below_size (by repeat (first | (with_reducible first | exact HB.out | apply below_alloc | apply pw_below_drewN | apply below_drew1) | exact HB.out))) : w.heap.size ≤ gb158)); have n3_ := Aside0.mk ((by rw [hg]; exact (below_size (by repeat (first | (with_reducible first | exact HB.out | apply below_alloc | apply pw_below_drewN | apply below_drew1) | exact HB.out))) : w.heap.size ≤ gb158)); clear HB; have HB := n0_; have BK158 := n1_; have GW158 := n2_; have GE158 := n3_; clear n0_ n1_ n2_ n3_; clear hb hbox hg) | ((with_reducible refine gate_dst (N := 2) rfl ?_); refine box_event ?hg (N := 2) ?hd (cs := #[.int .i64 0, .string (⟨#[]⟩ : ByteArray), .slice none 0 0]) (t := 38) ?hr ?_; (case hd => rfl); (case hg => rfl); (case hr => first | (go_simp; done) | (go_simp; rfl)); intro gb159 hg w4 hbox hb; have n0_ := Aside0.mk (blk_below (g := gb158) (o := .cells #[.int .i64 a0_0, .string a0_1, .slice A0_2 l0_2.length c0_2] 28 (0, 0)) (by (with_reducible repeat (first | refine blk_drewN ?_ _ | refine blk_drew ?_ | refine blk_alloc ?_ _)); exact BK158.out) hb); have n1_ := Aside0.mk (below_step (by repeat (first | (with_reducible first | exact HB.out | apply below_alloc | apply pw_below_drewN | apply below_drew1 | refine below_set ?_ GE158.out) | exact HB.out)) hb); have n2_ := Aside0.mk (hbox); have n3_ := Aside0.mk ((by rw [hg]; exact (below_size (by repeat (first | (with_reducible first | exact HB.out | apply below_alloc | apply pw_below_drewN | apply below_drew1 | refine below_set ?_ GE158.out) | exact HB.out))) : w.heap.size ≤ gb159)); have n4_ := Aside0.mk ((by rw [hg]; exact (below_size (by repeat (first | (with_reducible first | exact HB.out | apply below_alloc | apply pw_below_drewN | apply below_drew1 | refine below_set ?_ GE158.out) | exact HB.out))) : w.heap.size ≤ gb159)); have n5_ := Aside0.mk ((by rw [hg]; exact Nat.ne_of_lt (blk_lt (g := gb158) (o := .cells #[.int .i64 a0_0, .string a0_1, .slice A0_2 l0_2.length c0_2] 28 (0, 0)) (by (with_reducible repeat (first | refine blk_drewN ?_ _ | refine blk_drew ?_ | refine blk_alloc ?_ _)); exact BK158.out)) : gb158 ≠ gb159)); have n6_ := Aside0.mk ((by rw [hg]; exact Nat.ne_of_gt (blk_lt (g := gb158) (o := .cells #[.int .i64 a0_0, .string a0_1, .slice A0_2 l0_2.length c0_2] 28 (0, 0)) (by (with_reducible repeat (first | refine blk_drewN ?_ _ | refine blk_drew ?_ | refine blk_alloc ?_ _)); exact BK158.out)) : gb159 ≠ gb158)); clear BK158; clear HB; have BK158 := n0_; have HB := n1_; have BK159 := n2_; have GW159 := n3_; have GE159 := n4_; have NB158_159 := n5_; have NB159_158 := n6_; clear n0_ n1_ n2_ n3_ n4_ n5_ n6_; clear hb hbox hg) | ((with_reducible refine gate_dst (N := 3) rfl ?_); refine box_event ?hg (N := 3) ?hd (cs := #[.int .i64 0, .string (⟨#[]⟩ : ByteArray), .slice none 0 0]) (t := 38) ?hr ?_; (case hd => rfl); (case hg => rfl); (case hr => first | (go_simp; done) | (go_simp; rfl)); intro gb160 hg w5 hbox hb; have n0_ := Aside0.mk (blk_below (g := gb158) (o := .cells #[.int .i64 a0_0, .string a0_1, .slice A0_2 l0_2.length c0_2] 28 (0, 0)) (by (with_reducible repeat (first | refine blk_drewN ?_ _ | refine blk_drew ?_ | refine blk_alloc ?_ _)); exact BK158.out) hb); have n1_ := Aside0.mk (blk_below (g := gb159) (o := .cells #[.int .i64 0, .string (⟨#[]⟩ : ByteArray), .slice none 0 0] 38 (0, 0)) (by (with_reducible repeat (first | refine blk_drewN ?_ _ | refine blk_drew ?_ | refine blk_alloc ?_ _)); exact BK159.out) hb); have n2_ := Aside0.mk (below_step (by repeat (first | (with_reducible first | exact HB.out | apply below_alloc | apply pw_below_drewN | apply below_drew1 | refine below_set ?_ GE158.out | refine below_set ?_ GE159.out) | exact HB.out)) hb); have n3_ := Aside0.mk (hbox); have n4_ := Aside0.mk ((by rw [hg]; exact (below_size (by repeat (first | (with_reducible first | exact HB.out | apply below_alloc | apply pw_below_drewN | apply below_drew1 | refine below_set ?_ GE158.out | refine below_set ?_ GE159.out) | exact HB.out))) : w.heap.size ≤ gb160)); have n5_ := Aside0.mk ((by rw [hg]; exact (below_size (by repeat (first | (with_reducible first | exact HB.out | apply below_alloc | apply pw_below_drewN | apply below_drew1 | refine below_set ?_ GE158.out | refine below_set ?_ GE159.out) | exact HB.out))) : w.heap.size ≤ gb160)); have n6_ := Aside0.mk ((by rw [hg]; exact Nat.ne_of_lt (blk_lt (g := gb158) (o := .cells #[.int .i64 a0_0, .string a0_1, .slice A0_2 l0_2.length c0_2] 28 (0, 0)) (by (with_reducible repeat (first | refine blk_drewN ?_ _ | refine blk_drew ?_ | refine blk_alloc ?_ _)); exact BK158.out)) : gb158 ≠ gb160)); have n7_ := Aside0.mk ((by rw [hg]; exact Nat.ne_of_gt (blk_lt (g := gb158) (o := .cells #[.int .i64 a0_0, .string a0_1, .slice A0_2 l0_2.length c0_2] 28 (0, 0)) (by (with_reducible repeat (first | refine blk_drewN ?_ _ | refine blk_drew ?_ | refine blk_alloc ?_ _)); exact BK158.out)) : gb160 ≠ gb158)); have n8_ := Aside0.mk ((by rw [hg]; exact Nat.ne_of_lt (blk_lt (g := gb159) (o := .cells #[.int .i64 0, .string (⟨#[]⟩ : ByteArray), .slice none 0 0] 38 (0, 0)) (by (with_reducible repeat (first | refine blk_drewN ?_ _ | refine blk_drew ?_ | refine blk_alloc ?_ _)); exact BK159.out)) : gb159 ≠ gb160)); have n9_ := Aside0.mk ((by rw [hg]; exact Nat.ne_of_gt (blk_lt (g := gb159) (o := .cells #[.int .i64 0, .string (⟨#[]⟩ : ByteArray), .slice none 0 0] 38 (0, 0)) (by (with_reducible repeat (first | refine blk_drewN ?_ _ | refine blk_drew ?_ | refine blk_alloc ?_ _)); exact BK159.out)) : gb160 ≠ gb159)); clear BK158; clear BK159; clear HB; have BK158 := n0_; have BK159 := n1_; have HB := n2_; have BK160 := n3_; have GW160 := n4_; have GE160 := n5_; have NB158_160 := n6_; have NB160_158 := n7_; have NB159_160 := n8_; have NB160_159 := n9_; clear n0_ n1_ n2_ n3_ n4_ n5_ n6_ n7_ n8_ n9_; clear hb hbox hg; have hnb6 := NB158_159.out; have hnc6 := NB159_158.out; have hnb7 := NB158_160.out; have hnc7 := NB160_158.out; have hcz8_0 : w5.cell? ⟨gb158, 0, none⟩ = some (.int .i64 a0_0) := (blk_cell BK158.out 0).trans rfl; have hcz8_1 : w5.cell? ⟨gb158, 1, none⟩ = some (.string a0_1) := (blk_cell BK158.out 1).trans rfl; have hcz8_2 : w5.cell? ⟨gb158, 2, none⟩ = some (.slice A0_2 l0_2.length c0_2) := (blk_cell BK158.out 2).trans rfl; have hfz8_0 := blk_frozen BK158.out 0; have hfz8_1 := blk_frozen BK158.out 1; have hfz8_2 := blk_frozen BK158.out 2; have hnb9 := NB160_159.out; have hnc9 := NB159_160.out; have hcz10_0 : w5.cell? ⟨gb160, 0, none⟩ = some (.int .i64 0) := (blk_cell BK160.out 0).trans rfl; have hcz10_1 : w5.cell? ⟨gb160, 1, none⟩ = some (.string (⟨#[]⟩ : ByteArray)) := (blk_cell BK160.out 1).trans rfl; have hcz10_2 : w5.cell? ⟨gb160, 2, none⟩ = some (.slice none 0 0) := (blk_cell BK160.out 2).trans rfl; have hfz10_0 := blk_frozen BK160.out 0; have hfz10_1 := blk_frozen BK160.out 1; have hfz10_2 := blk_frozen BK160.out 2) | ((with_reducible refine gate_callee (f := 60) rfl ?_); refine goesL_ (some 12) rfl rfl Try.func60 (by kernel_rfl) rfl #[.slice A0_2 l0_2.length c0_2] rfl (by (try simp only [List.map_toArray, List.map_cons, List.map_nil]); first | done | rfl | (simp only [List.length_drop, List.length_take]; rfl)) ?_; (with_reducible refine (laws_toValueS.calls k _ _ l0_2 t161 _ ?side1 ?side2 A2.out).mono ?_); (case side1 => exact Kd.C_below HR0_2.out (by repeat (first | (with_reducible first | exact HB.out | apply below_alloc | apply pw_below_drewN | apply below_drew1 | refine below_set ?_ GE158.out | refine below_set ?_ GE159.out | refine below_set ?_ GE160.out) | exact HB.out))); (case side2 => exact HC0_2.out); rintro e w11 ⟨v162, rfl, ho0, hb⟩; refine ⟨_, rfl, ?_⟩; have n0_ := Aside0.mk (Kd.R_lower ho0 (below_size (by repeat (first | (with_reducible first | exact HB.out | apply below_alloc | apply pw_below_drewN | apply below_drew1 | refine below_set ?_ GE158.out | refine below_set ?_ GE159.out | refine below_set ?_ GE160.out) | exact HB.out)))); have n1_ := Aside0.mk (blk_below (g := gb158) (o := .cells #[.int .i64 a0_0, .string a0_1, .slice A0_2 l0_2.length c0_2] 28 (0, 0)) (by (with_reducible repeat (first | refine blk_drewN ?_ _ | refine blk_drew ?_ | refine blk_alloc ?_ _)); refine blk_far ?_ NB158_160.out _; (with_reducible repeat (first | refine blk_drewN ?_ _ | refine blk_drew ?_ | refine blk_alloc ?_ _)); refine blk_far ?_ NB158_160.out _; (with_reducible repeat (first | refine blk_drewN ?_ _ | refine blk_drew ?_ | refine blk_alloc ?_ _)); exact BK158.out) hb); have n2_ := Aside0.mk (blk_below (g := gb159) (o := .cells #[.int .i64 0, .string (⟨#[]⟩ : ByteArray), .slice none 0 0] 38 (0, 0)) (by (with_reducible repeat (first | refine blk_drewN ?_ _ | refine blk_drew ?_ | refine blk_alloc ?_ _)); refine blk_far ?_ NB159_160.out _; (with_reducible repeat (first | refine blk_drewN ?_ _ | refine blk_drew ?_ | refine blk_alloc ?_ _)); refine blk_far ?_ NB159_160.out _; (with_reducible repeat (first | refine blk_drewN ?_ _ | refine blk_drew ?_ | refine blk_alloc ?_ _)); exact BK159.out) hb); have n3_ := Aside0.mk (blk_below (g := gb160) (o := .cells #[.int .i64 a0_0, .string a0_1, .slice none 0 0] 38 (0, 0)) (by (with_reducible repeat (first | refine blk_drewN ?_ _ | refine blk_drew ?_ | refine blk_alloc ?_ _)); refine blk_put (cs := #[.int .i64 a0_0, .string (⟨#[]⟩ : ByteArray), .slice none 0 0]) ?_ 1 _ rfl; (with_reducible repeat (first | refine blk_drewN ?_ _ | refine blk_drew ?_ | refine blk_alloc ?_ _)); refine blk_put (cs := #[.int .i64 0, .string (⟨#[]⟩ : ByteArray), .slice none 0 0]) ?_ 0 _ rfl; (with_reducible repeat (first | refine blk_drewN ?_ _ | refine blk_drew ?_ | refine blk_alloc ?_ _)); exact BK160.out) hb); have n4_ := Aside0.mk (below_step (by repeat (first | (with_reducible first | exact HB.out | apply below_alloc | apply pw_below_drewN | apply below_drew1 | refine below_set ?_ GE158.out | refine below_set ?_ GE159.out | refine below_set ?_ GE160.out) | exact HB.out)) hb); clear BK158; clear BK159; clear BK160; clear HB; have HO163 := n0_; have BK158 := n1_; have BK159 := n2_; have BK160 := n3_; have HB := n4_; clear n0_ n1_ n2_ n3_ n4_; (try clear hb); (try clear hb2); (try clear hk); (try clear hi); (try clear ho0); obtain ⟨Ao12, co12, eo12⟩ := Kd.R_slice HO163.out; subst eo12; have hcz13_0 : w11.cell? ⟨gb160, 0, none⟩ = some (.int .i64 a0_0) := (blk_cell BK160.out 0).trans rfl; have hcz13_1 : w11.cell? ⟨gb160, 1, none⟩ = some (.string a0_1) := (blk_cell BK160.out 1).trans rfl; have hcz13_2 : w11.cell? ⟨gb160, 2, none⟩ = some (.slice none 0 0) := (blk_cell BK160.out 2).trans rfl; have hfz13_0 := blk_frozen BK160.out 0; have hfz13_1 := blk_frozen BK160.out 1; have hfz13_2 := blk_frozen BK160.out 2; have hcz14_0 : w11.cell? ⟨gb159, 0, none⟩ = some (.int .i64 0) := (blk_cell BK159.out 0).trans rfl; have hcz14_1 : w11.cell? ⟨gb159, 1, none⟩ = some (.string (⟨#[]⟩ : ByteArray)) := (blk_cell BK159.out 1).trans rfl; have hcz14_2 : w11.cell? ⟨gb159, 2, none⟩ = some (.slice none 0 0) := (blk_cell BK159.out 2).trans rfl; have hfz14_0 := blk_frozen BK159.out 0; have hfz14_1 := blk_frozen BK159.out 1; have hfz14_2 := blk_frozen BK159.out 2))
 refine bodyPost_ret (results_cell_row rfl _ _ gb159 38 #[.int .i64 a0_0, .string a0_1, .slice Ao12 t161.length co12] (0, 0) _ rfl (by (with_reducible repeat (first | refine blk_drewN ?_ _ | refine blk_drew ?_ | refine blk_alloc ?_ _)); refine blk_put (cs := #[.int .i64 a0_0, .string a0_1, .slice none 0 0]) ?_ 2 _ rfl; (with_reducible repeat (first | refine blk_drewN ?_ _ | refine blk_drew ?_ | refine blk_alloc ?_ _)); refine blk_put (cs := #[.int .i64 a0_0, .string (⟨#[]⟩ : ByteArray), .slice none 0 0]) ?_ 1 _ rfl; (with_reducible repeat (first | refine blk_drewN ?_ _ | refine blk_drew ?_ | refine blk_alloc ?_ _)); refine blk_put (cs := #[.int .i64 0, .string (⟨#[]⟩ : ByteArray), .slice none 0 0]) ?_ 0 _ rfl; (with_reducible repeat (first | refine blk_drewN ?_ _ | refine blk_drew ?_ | refine blk_alloc ?_ _)); refine blk_far ?_ NB159_160.out _; (with_reducible repeat (first | refine blk_drewN ?_ _ | refine blk_drew ?_ | refine blk_alloc ?_ _)); exact BK159.out) Try.underlying38 rfl (by kernel_rfl)) rfl ?_
 exact ⟨_, by first | rfl | (simp [errW_none, errW_some] <;> rfl) | (simp [*, errW_none, errW_some] <;> rfl), by (with_reducible repeat (first | apply Kd.R_alloc | apply Kd.R_drewN | apply Kd.R_drew)); exact Kd.R_mono (Kd.R_far (p := ⟨gb159, 2, none⟩) (Kd.R_far (p := ⟨gb159, 1, none⟩) (Kd.R_far (p := ⟨gb159, 0, none⟩) (Kd.R_far (p := ⟨gb160, 2, none⟩) (Kd.R_types (Kd.R_types HO163.out BK160.out (by decide)) BK159.out (by decide)) (fun _ hk => hk.1.2) (.slice Ao12 t161.length co12)) (fun _ hk => hk.2) (.int .i64 a0_0)) (fun _ hk => hk.2) (.string a0_1)) (fun _ hk => hk.2) (.slice Ao12 t161.length co12)) (fun _ hk => trivial), by repeat (first | (with_reducible first | exact HB.out | apply below_alloc | apply pw_below_drewN | apply below_drew1 | refine below_set ?_ GE158.out | refine below_set ?_ GE159.out | refine below_set ?_ GE160.out) | exact HB.out)⟩
end Go.Proofs.Ytoncacdehhmpaaa.P
namespace Go.Proofs.Ytoncacdehhmpaaa.P
open Go.RowKit Go.Proofs.YtoncacdehhmpaaaW.PrintWords Go.Proofs.YtoncacdehhmpaaaW.PrintLast Go.Proofs.YtoncacdehhmpaaaW.PrintMore
attribute [local go_sem] max2_int min2_int max_two min_two max_three min_three max_four min_four
set_option linter.unusedVariables false
set_option linter.unusedSimpArgs false
def laws_toFactS.l0 : Nat → List (S28) → List (S38) → Int → Option ((List (S38)))
 | 0, _, _, _ => none
 | k + 1, x0, x3, x4 => if x4 < (x0.length : Int) then (if 0 ≤ x4 then ((laws_toFact.f k ((rd_T28 x0 x4).f0) ((rd_T28 x0 x4).f1) ((rd_T28 x0 x4).f2)).bind fun bt254 => (if x4 < (x3.length : Int) then (laws_toFactS.l0 k x0 (x3.set (x4 : Int).toNat (⟨bt254.1, bt254.2.1, bt254.2.2⟩ : S38)) (wrap64 (x4 + 1))) else (none))) else (none)) else (some x3)
def laws_toFactS.f (k : Nat) (l0 : List (S28)) : Option ((List (S38))) := if 0 ≤ (l0.length : Int) then (if ((l0.length : Int) : Int).toNat ≤ 5864062014805 then (laws_toFactS.l0 k l0 (List.replicate ((l0.length : Int) : Int).toNat z38) 0) else (none)) else (none)
theorem laws_toFactS.mono_l : ∀ k, (∀ y0 y1 y2, LeO (laws_toFactS.l0 k y0 y1 y2) (laws_toFactS.l0 (k + 1) y0 y1 y2))
 | 0 => fun _ _ _ r h => by simp [laws_toFactS.l0] at h
 | k + 1 => by
  have ih0 := laws_toFactS.mono_l k
  ·intro y0 y1 y2
   unfold laws_toFactS.l0
   repeat' first
   | (with_reducible exact ih0 _ _ _)
   | (with_reducible exact laws_toFact.mono _ _ _ _)
   | (with_reducible exact LeO.refl _)
   | (with_reducible exact LeO.none _)
   | (with_reducible refine LeO.ite ?_ ?_)
   | (with_reducible refine LeO.bind ?_ (fun _ => ?_))
   | exact ih0 _ _ _
   | exact laws_toFact.mono _ _ _ _
   | exact LeO.none _
   | refine LeO.ite ?_ ?_
   | refine LeO.bind ?_ (fun _ => ?_)
theorem laws_toFactS.mono : ∀ a0 k, LeO (laws_toFactS.f k a0) (laws_toFactS.f (k + 1) a0) := by
 intro a0 k
 have ih0 := laws_toFactS.mono_l k
 unfold laws_toFactS.f
 repeat' first
   | (with_reducible exact ih0 _ _ _)
   | (with_reducible exact laws_toFact.mono _ _ _ _)
   | (with_reducible exact LeO.refl _)
   | (with_reducible exact LeO.none _)
   | (with_reducible refine LeO.ite ?_ ?_)
   | (with_reducible refine LeO.bind ?_ (fun _ => ?_))
   | exact ih0 _ _ _
   | exact laws_toFact.mono _ _ _ _
   | exact LeO.none _
   | refine LeO.ite ?_ ?_
   | refine LeO.bind ?_ (fun _ => ?_)
set_option maxHeartbeats 8000000 in
set_option maxRecDepth 100000 in
theorem laws_toFactS.calls (k : Nat) (A0 : Option Addr) (c0 : Nat) (l0 : List (S28)) (r : List (S38)) (w : World) (hr0 : Kd.C k28 w A0 l0.length l0) (hc0 : l0.length ≤ c0) (h : laws_toFactS.f k l0 = some r) :
  Calls Try.prog 41 #[.slice A0 l0.length c0] w fun e w' => ∃ v0_ : Value, e = .returned (v0_) ∧ Kd.S k38 38 w' w.heap.size (fun _ => True) v0_ r ∧ Below w.heap.size w w' := by
 have hu28 := Try.underlying28
 have hu38 := Try.underlying38
 have HR0 := Aside0.mk hr0
 have HC0 := Aside0.mk hc0
 clear hr0 hc0
 have HB := Aside0.mk (Below.refl w.heap.size w)
 have H : (if 0 ≤ (l0.length : Int) then (if ((l0.length : Int) : Int).toNat ≤ 5864062014805 then (laws_toFactS.l0 k l0 (List.replicate ((l0.length : Int) : Int).toNat z38) 0) else (none)) else (none)) = some r := h
 clear h
 by_cases c2 : 0 ≤ (l0.length : Int)
 ·rw [if_pos c2] at H
  have c2b0 := eq_true c2
  have c2b1 : decide (0 ≤ (l0.length : Int)) = true := decide_eq_true c2
  clear c2
  by_cases c3 : ((l0.length : Int) : Int).toNat ≤ 5864062014805
  ·rw [if_pos c3] at H
   have c3b0 := eq_true c3
   have c3b1 : decide (((l0.length : Int) : Int).toNat ≤ 5864062014805) = true := decide_eq_true c3
   clear c3
   obtain ⟨y250, hy250⟩ : ∃ y_ : List (S38), y_ = (List.replicate ((l0.length : Int) : Int).toNat z38) := ⟨_, rfl⟩
   replace H : (laws_toFactS.l0 k l0 y250 0) = some r := by first | (rw [hy250]; with_reducible exact H) | (have H2_ := (Option.bind_some _ _).symm.trans H; rw [hy250]; with_reducible exact H2_) | (have H2_ := (Option.bind_some _ _).symm.trans H; with_reducible exact H2_) | with_reducible exact H | (rw [hy250]; exact H) | exact H
   have Ny250 := Aside0.mk hy250
   clear hy250
   have H' := Aside0.mk H
   clear H
   go_enter Try.func41, Try.ntmps41
   go_wp2_with (first | ((with_reducible refine gate_dst (N := 7) rfl ?_); refine Kd.S_make k38 _ 38 rfl (N := 7) rfl 48 _ _ rfl (l0.length : Int) rfl rfl Try.underlying48 (.agg #[(.int .i64 0), (.string ⟨#[]⟩), (.slice none 0 0)]) 48 info38 rfl (by decide) (by omega) z38 (ok := fun _ => True) (okp := fun _ => True) (k38_mkM _ _ _ z38 (Kd.R_nil _ _ _ _ _)) (fun _ hk => hk) trivial (of_decide_eq_true (by first | (with_reducible assumption) | assumption)) (Nat.le_trans (Nat.mul_le_mul_right _ (of_decide_eq_true (by first | (with_reducible assumption) | assumption) : (l0.length : Int).toNat ≤ 5864062014805)) (by omega)) (Below.refl _ _) (Nat.le_refl _) ?_; intro v251 w4 ho5 hb hg_ hnew_; clear hg_ hnew_; (first | rw [← Ny250.out] at ho5 | (simp only [Int.reduceToNat] at ho5; rw [← Ny250.out] at ho5)); have n0_ := Aside0.mk (Kd.S_lower ho5 (below_size (by repeat (first | (with_reducible first | exact HB.out | apply below_alloc | apply pw_below_drewN | apply below_drew1) | exact HB.out)))); have n1_ := Aside0.mk (below_step (by repeat (first | (with_reducible first | exact HB.out | apply below_alloc | apply pw_below_drewN | apply below_drew1) | exact HB.out)) hb); clear HB; have HO252 := n0_; have HB := n1_; clear n0_ n1_; clear hb ho5))
   go_loopg [4] k (fun kq v4 w' => ∃ (x3_1 : List (S38)) (x4_1 : Int), v4 = .int .i64 x4_1 ∧ Aside0 (laws_toFactS.l0 kq l0 x3_1 x4_1 = some r) ∧ Aside0 (kq ≤ k) ∧ Aside0 (Kd.S k38 38 w' w.heap.size (fun _ => True) v251 x3_1) ∧ Aside0 (Below w.heap.size w w'))
   case atStart => exact ⟨(y250), (0), (by first | rfl | (simp; done) | (simp [*]; done)), H', ⟨Nat.le_refl _⟩, ⟨by (with_reducible repeat (first | apply Kd.S_alloc | apply Kd.S_drewN | apply Kd.S_drew)); exact HO252.out⟩, ⟨by repeat (first | (with_reducible first | exact HB.out | apply below_alloc | apply pw_below_drewN | apply below_drew1) | exact HB.out)⟩⟩
   case round =>
    clear H'
    try clear c2
    try clear c2b0
    try clear c2b1
    try clear p2
    try clear c3
    try clear c3b0
    try clear c3b1
    try clear c4
    obtain ⟨x3_1, x4_1, rfl, HA, HK1, HO_3, HB⟩ := hrel
    cases gk with
    | zero => exact absurd HA.out (by simp [laws_toFactS.l0])
    | succ k1 =>
     have H := HA.out
     clear HA
     simp only [laws_toFactS.l0] at H
     by_cases c6 : x4_1 < (l0.length : Int)
     ·rw [if_pos c6] at H
      have c6b0 : decide (x4_1 < (l0.length : Int)) = true := decide_eq_true c6
      clear c6
      by_cases c7 : 0 ≤ x4_1
      ·rw [if_pos c7] at H
       have c7b0 : decide (0 ≤ x4_1) = true := decide_eq_true c7
       clear c7
       replace H := Option.bind_eq_some_iff.mp H
       obtain ⟨⟨t254, t255, t256⟩, A80, H⟩ := H
       replace H : (if x4_1 < (x3_1.length : Int) then (laws_toFactS.l0 k1 l0 (x3_1.set (x4_1 : Int).toNat (⟨t254, t255, t256⟩ : S38)) (wrap64 (x4_1 + 1))) else (none)) = some r := H
       have A8 := Aside0.mk A80
       clear A80
       by_cases c9 : x4_1 < (x3_1.length : Int)
       ·rw [if_pos c9] at H
        have c9b0 : decide (x4_1 < (x3_1.length : Int)) = true := decide_eq_true c9
        clear c9
        obtain ⟨y259, hy259⟩ : ∃ y_ : List (S38), y_ = (x3_1.set (x4_1 : Int).toNat (⟨t254, t255, t256⟩ : S38)) := ⟨_, rfl⟩
        replace H : (laws_toFactS.l0 k1 l0 y259 (wrap64 (x4_1 + 1))) = some r := by first | (rw [hy259]; with_reducible exact H) | (have H2_ := (Option.bind_some _ _).symm.trans H; rw [hy259]; with_reducible exact H2_) | (have H2_ := (Option.bind_some _ _).symm.trans H; with_reducible exact H2_) | with_reducible exact H | (rw [hy259]; exact H) | exact H
        have Ny259 := Aside0.mk hy259
        clear hy259
        have H' := Aside0.mk H
        clear H
        have p253 : 0 ≤ (x4_1 : Int) := of_decide_eq_true (by first | (with_reducible assumption) | assumption)
        have q253 : x4_1 < (l0.length : Int) := of_decide_eq_true (by first | (with_reducible assumption) | assumption)
        obtain ⟨ad253, A253_2, c253_2, e253, hx253_0, hx253_1, hx253_2, hl253_2, hi253_2⟩ := at_T28 HR0.out x4_1 p253 q253
        cases e253
        replace hx253_0 := (HB.out.cell (World.block_lt_of_cell? w _ hx253_0)).trans hx253_0
        replace hx253_1 := (HB.out.cell (World.block_lt_of_cell? w _ hx253_1)).trans hx253_1
        replace hx253_2 := (HB.out.cell (World.block_lt_of_cell? w _ hx253_2)).trans hx253_2
        have HR253_2 := Aside0.mk hi253_2
        have HC253_2 := Aside0.mk hl253_2
        clear hi253_2 hl253_2
        replace p253 := eq_true p253
        replace q253 := eq_true q253
        go_wp2_with (first | ((with_reducible refine gate_callee (f := 14) rfl ?_); refine goesL_ (some 20) rfl rfl Try.func14 (by kernel_rfl) rfl #[.agg #[.int .i64 ((rd_T28 l0 x4_1).f0), .string ((rd_T28 l0 x4_1).f1), .slice A253_2 ((rd_T28 l0 x4_1).f2).length c253_2]] rfl (by (try simp only [List.map_toArray, List.map_cons, List.map_nil]); first | done | rfl | (simp only [List.length_drop, List.length_take]; rfl)) ?_; (with_reducible refine (laws_toFact.calls k1 ((rd_T28 l0 x4_1).f0) ((rd_T28 l0 x4_1).f1) _ _ ((rd_T28 l0 x4_1).f2) t254 t255 t256 _ ?side1 ?side2 A8.out).mono ?_); (case side1 => repeat (first | exact (Kd.C_below HR253_2.out HB.out) | (with_reducible refine Kd.C_alloc ?_ _) | (with_reducible refine Kd.C_drewN ?_ _) | (with_reducible refine Kd.C_drew ?_))); (case side2 => exact HC253_2.out); rintro e w11 ⟨v257, rfl, ho0, hb⟩; refine ⟨_, rfl, ?_⟩; have n0_ := Aside0.mk (Kd.S_elder' (by (with_reducible repeat (first | apply Kd.S_alloc | apply Kd.S_drewN | apply Kd.S_drew)); exact HO_3.out) (Kd.R_base ho0) hb); have n1_ := Aside0.mk (Kd.R_lower ho0 (below_size (by repeat (first | (with_reducible first | exact HB.out | apply below_alloc | apply pw_below_drewN | apply below_drew1) | exact HB.out)))); have n2_ := Aside0.mk (below_step (by repeat (first | (with_reducible first | exact HB.out | apply below_alloc | apply pw_below_drewN | apply below_drew1) | exact HB.out)) hb); clear HO_3; clear HB; have HO_3 := n0_; have HO258 := n1_; have HB := n2_; clear n0_ n1_ n2_; (try clear hb); (try clear hb2); (try clear hk); (try clear hi); (try clear ho0); have p10 : 0 ≤ (x4_1 : Int) := of_decide_eq_true (by first | (with_reducible assumption) | assumption); have q10 : (x4_1 : Int) < ((x3_1.length : Int) : Int) := of_decide_eq_true (by first | (with_reducible assumption) | assumption); obtain ⟨go10, co10, eo10, gb10, gl10, cl10, HG10⟩ := Kd.S_form HO_3.out (by omega); (first | cases eo10 | (injection eo10 with ea_ en_ ec_; (first | subst ea_ | (injection ea_ with ea_; subst ea_)); subst ec_; clear en_)); have GB10 := Aside0.mk gb10; have GG10 := Aside0.mk HG10; clear gb10 gl10 HG10; obtain ⟨_, ce10, hcl10, hM10, hcc10, hfr10, _, _⟩ := Kd.S_elem HO_3.out z38 (x4_1 : Int) p10 q10; obtain ⟨ve10_2, rfl, ge10_2⟩ := k38_openM hM10; have hx10_0 : w11.cell? ⟨go10, (x4_1 : Int).toNat * 3, none⟩ = some (.int .i64 ((rd_T38 x3_1 x4_1).f0)) := hcc10 0 _ rfl; have hx10_1 : w11.cell? ⟨go10, (x4_1 : Int).toNat * 3 + 1, none⟩ = some (.string ((rd_T38 x3_1 x4_1).f1)) := hcc10 1 _ rfl; have hx10_2 : w11.cell? ⟨go10, (x4_1 : Int).toNat * 3 + 2, none⟩ = some (ve10_2) := hcc10 2 _ rfl; have hf10_0 : w11.frozen? ⟨go10, (x4_1 : Int).toNat * 3, none⟩ = false := hfr10 0; have hf10_1 : w11.frozen? ⟨go10, (x4_1 : Int).toNat * 3 + 1, none⟩ = false := hfr10 1; have hf10_2 : w11.frozen? ⟨go10, (x4_1 : Int).toNat * 3 + 2, none⟩ = false := hfr10 2; clear hcl10 hcc10 hfr10; (try clear hM10); replace p10 := eq_true p10; replace q10 := eq_true q10; have n_ := Aside0.mk (Kd.S_mono (ok' := (fun k_ => some k_ ≠ (v257 : Value).ownBlock)) HO_3.out (fun k_ hk => hk.2)); clear HO_3; have HO_3 := n_; clear n_; have HX12 := Aside0.mk (show Kd.S k38 38 w11 w.heap.size (fun k_ => ((fun _ => True)) k_ ∧ ¬ ((fun k_ => some k_ = (v257 : Value).ownBlock)) k_) (.slice (some ⟨go10, 0, none⟩) x3_1.length co10) x3_1 from (by (with_reducible repeat (first | apply Kd.S_alloc | apply Kd.S_drewN | apply Kd.S_drew)); exact Kd.S_mono HO_3.out (fun k_ hk => ⟨trivial, fun e_ => hk e_⟩))); obtain ⟨oki12, ce12, hcl12, hM12, hcc12, hfr12, hoki12, hH12⟩ := Kd.S_elem HX12.out z38 (x4_1 : Int) (of_decide_eq_true (by first | (with_reducible assumption) | assumption)) (by have h_ : (x4_1 : Int) < ((x3_1.length : Int) : Int) := of_decide_eq_true (by first | (with_reducible assumption) | assumption); first | exact h_ | (have e_ := (Kd.S_reads' HO_3.out).1; omega) | simpa using h_); obtain ⟨ve12_2, rfl, ge12_2⟩ := k38_openM hM12; have HP12 := Kd.S_seg hH12 (of_decide_eq_true (by first | (with_reducible assumption) | assumption)) (by have h_ : (x4_1 : Int) < ((x3_1.length : Int) : Int) := of_decide_eq_true (by first | (with_reducible assumption) | assumption); first | exact h_ | (have e_ := (Kd.S_reads' HO_3.out).1; omega) | simpa using h_) (seg := [.int .i64 t254, .string t255, v257]) (j := 0) (show 3 ≤ 3 from by decide) (x' := (⟨t254, t255, t256⟩ : S38)) (k38_mkM _ _ _ (⟨t254, t255, t256⟩ : S38) (Kd.R_mono (Kd.R_tight rfl (Kd.R_mono (ok' := fun k_ => ((fun _ => True)) k_ ∧ k_ ≠ go10) (Kd.R_apart' (HO258.out) (Kd.S_typed HO_3.out) (by decide)) (fun k_ hk => ⟨trivial, fun e_ => (hk.2) (by rw [e_]; rfl)⟩))) (fun _ h_ => Or.inr (h_)))) (fun _ hk => hk) (fun k_ hk_ => ((Kd.R_mono (ok' := fun k_ => ((fun _ => True)) k_ ∧ k_ ≠ go10) (Kd.R_apart' (HO258.out) (Kd.S_typed HO_3.out) (by decide)) (fun k_ hk => ⟨trivial, fun e_ => (hk.2) (by rw [e_]; rfl)⟩))).1 k_ hk_.symm); have hx12_0 := hcc12 0 _ rfl; (try simp only [show (k38).sz = 3 from rfl, Nat.mul_one, Nat.add_zero] at hx12_0); have hf12_0 := hfr12 0; (try simp only [show (k38).sz = 3 from rfl, Nat.mul_one, Nat.add_zero] at hf12_0); have hx12_1 := hcc12 1 _ rfl; (try simp only [show (k38).sz = 3 from rfl, Nat.mul_one, Nat.add_zero] at hx12_1); have hf12_1 := hfr12 1; (try simp only [show (k38).sz = 3 from rfl, Nat.mul_one, Nat.add_zero] at hf12_1); have hx12_2 := hcc12 2 _ rfl; (try simp only [show (k38).sz = 3 from rfl, Nat.mul_one, Nat.add_zero] at hx12_2); have hf12_2 := hfr12 2; (try simp only [show (k38).sz = 3 from rfl, Nat.mul_one, Nat.add_zero] at hf12_2); clear hcl12 hcc12 hfr12 hoki12 hH12; (try clear hM12)) | ((with_reducible refine gate_store (t := 38) (p := 21) rfl ?_); refine store_event (t := 38) (p := 21) (v := ?vo_w13) (w1 := (((w11.setCell ⟨go10, (x4_1 : Int).toNat * 3, none⟩ (.int .i64 t254)).setCell ⟨go10, (x4_1 : Int).toNat * 3 + 1, none⟩ (.string t255)).setCell ⟨go10, (x4_1 : Int).toNat * 3 + 2, none⟩ (v257))) ?hg ?ho ?hn ?hr ?_; (case ho => rfl); (case hg => rfl); (case hn => rfl); (case hr => first | (go_simp; done) | (go_simp; rfl) | ((obtain ⟨As0_, cs0_, es0_⟩ := Kd.R_slice (Aside0.out ‹Aside0 (Kd.R _ _ _ _ _ v257 _)›)); subst es0_; go_simp; done) | ((obtain ⟨As0_, cs0_, es0_⟩ := Kd.R_slice (Aside0.out ‹Aside0 (Kd.R _ _ _ _ _ v257 _)›)); subst es0_; go_simp; rfl)); intro w13 hw; have hg : w11.grownBy w13 (some go10) := (by rw [hw]; exact HP12.2); have hp_ : Kd.S k38 38 w13 w.heap.size (fun _ => True) (.slice (some ⟨go10, 0, none⟩) x3_1.length co10) y259 := (by rw [hw, Ny259.out]; exact HP12.1); clear HP12; have n0_ := Aside0.mk (hp_); have n1_ := Aside0.mk ((by rw [hw]; exact below_set (below_set (below_set (HB.out) GB10.out) GB10.out) GB10.out : Below w.heap.size w w13)); clear HO_3; clear HB; clear HO258; have HO_3 := n0_; have HB := n1_; clear n0_ n1_; clear hg hw hp_))
        go_roundg k1
        case measure => have := HK1.out; omega
        case rel => exact ⟨(y259), (wrap64 (x4_1 + 1)), (by first | rfl | (simp; done) | (simp [*]; done)), H', ⟨by have := HK1.out; omega⟩, ⟨by (with_reducible repeat (first | apply Kd.S_alloc | apply Kd.S_drewN | apply Kd.S_drew)); exact HO_3.out⟩, ⟨by repeat (first | (with_reducible first | exact HB.out | apply below_alloc | apply pw_below_drewN | apply below_drew1) | exact HB.out)⟩⟩
       ·rw [if_neg c9] at H
        exact absurd H (by simp)
      ·rw [if_neg c7] at H
       exact absurd H (by simp)
     ·rw [if_neg c6] at H
      have c6b0 : decide (x4_1 < (l0.length : Int)) = false := decide_eq_false c6
      clear c6
      obtain rfl := Option.some.inj H
      go_wp2
      go_ret
      exact ⟨_, by first | rfl | (simp [errW_none, errW_some] <;> rfl) | (simp [*, errW_none, errW_some] <;> rfl), by (with_reducible repeat (first | apply Kd.S_alloc | apply Kd.S_drewN | apply Kd.S_drew)); exact HO_3.out, by repeat (first | (with_reducible first | exact HB.out | apply below_alloc | apply pw_below_drewN | apply below_drew1) | exact HB.out)⟩
  ·rw [if_neg c3] at H
   exact absurd H (by simp)
 ·rw [if_neg c2] at H
  exact absurd H (by simp)
def laws_toStore.f (k : Nat) (l0_0 : List (S28)) (a0_1 : Int) (a0_2 : Int) (a0_3 : Bool) : Option ((List (S38)) × Int × Int × Bool) := (laws_toFactS.f k l0_0).bind fun t263 => (some (t263, a0_1, a0_2, a0_3))
theorem laws_toStore.mono : ∀ a0 a1 a2 a3 k, LeO (laws_toStore.f k a0 a1 a2 a3) (laws_toStore.f (k + 1) a0 a1 a2 a3) := by
 intro a0 a1 a2 a3 k
 unfold laws_toStore.f
 repeat' first
   | (with_reducible exact laws_toFactS.mono _ _)
   | (with_reducible exact LeO.refl _)
   | (with_reducible exact LeO.none _)
   | (with_reducible refine LeO.ite ?_ ?_)
   | (with_reducible refine LeO.bind ?_ (fun _ => ?_))
   | exact laws_toFactS.mono _ _
   | exact LeO.none _
   | refine LeO.ite ?_ ?_
   | refine LeO.bind ?_ (fun _ => ?_)
set_option maxHeartbeats 8000000 in
set_option maxRecDepth 100000 in
theorem laws_toStore.calls (k : Nat) (A0_0 : Option Addr) (c0_0 : Nat) (l0_0 : List (S28)) (a0_1 : Int) (a0_2 : Int) (a0_3 : Bool) (r1 : List (S38)) (r2 : Int) (r3 : Int) (r4 : Bool) (w : World) (hr0_0 : Kd.C k28 w A0_0 l0_0.length l0_0) (hc0_0 : l0_0.length ≤ c0_0) (h : laws_toStore.f k l0_0 a0_1 a0_2 a0_3 = some (r1, r2, r3, r4)) :
  Calls Try.prog 20 #[.agg #[.slice A0_0 l0_0.length c0_0, .int .i64 a0_1, .int .i64 a0_2, .bool a0_3]] w fun e w' => ∃ v0_ : Value, e = .returned (.agg #[v0_, .int .i64 r2, .int .i64 r3, .bool r4]) ∧ Kd.S k38 38 w' w.heap.size (fun _ => True) v0_ r1 ∧ Below w.heap.size w w' := by
 have hu45 := Try.underlying45
 have hu50 := Try.underlying50
 have HR0_0 := Aside0.mk hr0_0
 have HC0_0 := Aside0.mk hc0_0
 clear hr0_0 hc0_0
 have HB := Aside0.mk (Below.refl w.heap.size w)
 have H : ((laws_toFactS.f k l0_0).bind fun t263 => (some (t263, a0_1, a0_2, a0_3))) = some (r1, r2, r3, r4) := h
 clear h
 replace H := Option.bind_eq_some_iff.mp H
 obtain ⟨t263, A20, H⟩ := H
 replace H : (some (t263, a0_1, a0_2, a0_3)) = some (r1, r2, r3, r4) := H
 have A2 := Aside0.mk A20
 clear A20
 simp only [Option.some.injEq, Prod.mk.injEq] at H
 obtain ⟨rfl, rfl, rfl, rfl⟩ := H
 go_enter Try.func20, Try.ntmps20
 go_wp2_with (first | ((with_reducible refine gate_dst (N := 1) rfl ?_); refine box_event ?hg (N := 1) ?hd (cs := #[.slice A0_0 l0_0.length c0_0, .int .i64 a0_1, .int .i64 a0_2, .bool a0_3]) (t := 45) ?hr ?_; (case hd => rfl); (case hg => rfl); (case hr => first | (go_simp; done) | (go_simp; rfl)); intro gb260 hg w3 hbox hb; have n0_ := Aside0.mk (below_step (by repeat (first | (with_reducible first | exact HB.out | apply below_alloc | apply pw_below_drewN | apply below_drew1) | exact HB.out)) hb); have n1_ := Aside0.mk (hbox); have n2_ := Aside0.mk ((by rw [hg]; exact (below_size (by repeat (first | (with_reducible first | exact HB.out | apply below_alloc | apply pw_below_drewN | apply below_drew1) | exact HB.out))) : w.heap.size ≤ gb260)); have n3_ := Aside0.mk ((by rw [hg]; exact (below_size (by repeat (first | (with_reducible first | exact HB.out | apply below_alloc | apply pw_below_drewN | apply below_drew1) | exact HB.out))) : w.heap.size ≤ gb260)); clear HB; have HB := n0_; have BK260 := n1_; have GW260 := n2_; have GE260 := n3_; clear n0_ n1_ n2_ n3_; clear hb hbox hg) | ((with_reducible refine gate_dst (N := 2) rfl ?_); refine box_event ?hg (N := 2) ?hd (cs := #[.slice none 0 0, .int .i64 0, .int .i64 0, .bool false]) (t := 50) ?hr ?_; (case hd => rfl); (case hg => rfl); (case hr => first | (go_simp; done) | (go_simp; rfl)); intro gb261 hg w4 hbox hb; have n0_ := Aside0.mk (blk_below (g := gb260) (o := .cells #[.slice A0_0 l0_0.length c0_0, .int .i64 a0_1, .int .i64 a0_2, .bool a0_3] 45 (0, 0)) (by (with_reducible repeat (first | refine blk_drewN ?_ _ | refine blk_drew ?_ | refine blk_alloc ?_ _)); exact BK260.out) hb); have n1_ := Aside0.mk (below_step (by repeat (first | (with_reducible first | exact HB.out | apply below_alloc | apply pw_below_drewN | apply below_drew1 | refine below_set ?_ GE260.out) | exact HB.out)) hb); have n2_ := Aside0.mk (hbox); have n3_ := Aside0.mk ((by rw [hg]; exact (below_size (by repeat (first | (with_reducible first | exact HB.out | apply below_alloc | apply pw_below_drewN | apply below_drew1 | refine below_set ?_ GE260.out) | exact HB.out))) : w.heap.size ≤ gb261)); have n4_ := Aside0.mk ((by rw [hg]; exact (below_size (by repeat (first | (with_reducible first | exact HB.out | apply below_alloc | apply pw_below_drewN | apply below_drew1 | refine below_set ?_ GE260.out) | exact HB.out))) : w.heap.size ≤ gb261)); have n5_ := Aside0.mk ((by rw [hg]; exact Nat.ne_of_lt (blk_lt (g := gb260) (o := .cells #[.slice A0_0 l0_0.length c0_0, .int .i64 a0_1, .int .i64 a0_2, .bool a0_3] 45 (0, 0)) (by (with_reducible repeat (first | refine blk_drewN ?_ _ | refine blk_drew ?_ | refine blk_alloc ?_ _)); exact BK260.out)) : gb260 ≠ gb261)); have n6_ := Aside0.mk ((by rw [hg]; exact Nat.ne_of_gt (blk_lt (g := gb260) (o := .cells #[.slice A0_0 l0_0.length c0_0, .int .i64 a0_1, .int .i64 a0_2, .bool a0_3] 45 (0, 0)) (by (with_reducible repeat (first | refine blk_drewN ?_ _ | refine blk_drew ?_ | refine blk_alloc ?_ _)); exact BK260.out)) : gb261 ≠ gb260)); clear BK260; clear HB; have BK260 := n0_; have HB := n1_; have BK261 := n2_; have GW261 := n3_; have GE261 := n4_; have NB260_261 := n5_; have NB261_260 := n6_; clear n0_ n1_ n2_ n3_ n4_ n5_ n6_; clear hb hbox hg) | ((with_reducible refine gate_dst (N := 3) rfl ?_); refine box_event ?hg (N := 3) ?hd (cs := #[.slice none 0 0, .int .i64 0, .int .i64 0, .bool false]) (t := 50) ?hr ?_; (case hd => rfl); (case hg => rfl); (case hr => first | (go_simp; done) | (go_simp; rfl)); intro gb262 hg w5 hbox hb; have n0_ := Aside0.mk (blk_below (g := gb260) (o := .cells #[.slice A0_0 l0_0.length c0_0, .int .i64 a0_1, .int .i64 a0_2, .bool a0_3] 45 (0, 0)) (by (with_reducible repeat (first | refine blk_drewN ?_ _ | refine blk_drew ?_ | refine blk_alloc ?_ _)); exact BK260.out) hb); have n1_ := Aside0.mk (blk_below (g := gb261) (o := .cells #[.slice none 0 0, .int .i64 0, .int .i64 0, .bool false] 50 (0, 0)) (by (with_reducible repeat (first | refine blk_drewN ?_ _ | refine blk_drew ?_ | refine blk_alloc ?_ _)); exact BK261.out) hb); have n2_ := Aside0.mk (below_step (by repeat (first | (with_reducible first | exact HB.out | apply below_alloc | apply pw_below_drewN | apply below_drew1 | refine below_set ?_ GE260.out | refine below_set ?_ GE261.out) | exact HB.out)) hb); have n3_ := Aside0.mk (hbox); have n4_ := Aside0.mk ((by rw [hg]; exact (below_size (by repeat (first | (with_reducible first | exact HB.out | apply below_alloc | apply pw_below_drewN | apply below_drew1 | refine below_set ?_ GE260.out | refine below_set ?_ GE261.out) | exact HB.out))) : w.heap.size ≤ gb262)); have n5_ := Aside0.mk ((by rw [hg]; exact (below_size (by repeat (first | (with_reducible first | exact HB.out | apply below_alloc | apply pw_below_drewN | apply below_drew1 | refine below_set ?_ GE260.out | refine below_set ?_ GE261.out) | exact HB.out))) : w.heap.size ≤ gb262)); have n6_ := Aside0.mk ((by rw [hg]; exact Nat.ne_of_lt (blk_lt (g := gb260) (o := .cells #[.slice A0_0 l0_0.length c0_0, .int .i64 a0_1, .int .i64 a0_2, .bool a0_3] 45 (0, 0)) (by (with_reducible repeat (first | refine blk_drewN ?_ _ | refine blk_drew ?_ | refine blk_alloc ?_ _)); exact BK260.out)) : gb260 ≠ gb262)); have n7_ := Aside0.mk ((by rw [hg]; exact Nat.ne_of_gt (blk_lt (g := gb260) (o := .cells #[.slice A0_0 l0_0.length c0_0, .int .i64 a0_1, .int .i64 a0_2, .bool a0_3] 45 (0, 0)) (by (with_reducible repeat (first | refine blk_drewN ?_ _ | refine blk_drew ?_ | refine blk_alloc ?_ _)); exact BK260.out)) : gb262 ≠ gb260)); have n8_ := Aside0.mk ((by rw [hg]; exact Nat.ne_of_lt (blk_lt (g := gb261) (o := .cells #[.slice none 0 0, .int .i64 0, .int .i64 0, .bool false] 50 (0, 0)) (by (with_reducible repeat (first | refine blk_drewN ?_ _ | refine blk_drew ?_ | refine blk_alloc ?_ _)); exact BK261.out)) : gb261 ≠ gb262)); have n9_ := Aside0.mk ((by rw [hg]; exact Nat.ne_of_gt (blk_lt (g := gb261) (o := .cells #[.slice none 0 0, .int .i64 0, .int .i64 0, .bool false] 50 (0, 0)) (by (with_reducible repeat (first | refine blk_drewN ?_ _ | refine blk_drew ?_ | refine blk_alloc ?_ _)); exact BK261.out)) : gb262 ≠ gb261)); clear BK260; clear BK261; clear HB; have BK260 := n0_; have BK261 := n1_; have HB := n2_; have BK262 := n3_; have GW262 := n4_; have GE262 := n5_; have NB260_262 := n6_; have NB262_260 := n7_; have NB261_262 := n8_; have NB262_261 := n9_; clear n0_ n1_ n2_ n3_ n4_ n5_ n6_ n7_ n8_ n9_; clear hb hbox hg; have hnb6 := NB260_261.out; have hnc6 := NB261_260.out; have hnb7 := NB260_262.out; have hnc7 := NB262_260.out; have hcz8_0 : w5.cell? ⟨gb260, 0, none⟩ = some (.slice A0_0 l0_0.length c0_0) := (blk_cell BK260.out 0).trans rfl; have hcz8_1 : w5.cell? ⟨gb260, 1, none⟩ = some (.int .i64 a0_1) := (blk_cell BK260.out 1).trans rfl; have hcz8_2 : w5.cell? ⟨gb260, 2, none⟩ = some (.int .i64 a0_2) := (blk_cell BK260.out 2).trans rfl; have hcz8_3 : w5.cell? ⟨gb260, 3, none⟩ = some (.bool a0_3) := (blk_cell BK260.out 3).trans rfl; have hfz8_0 := blk_frozen BK260.out 0; have hfz8_1 := blk_frozen BK260.out 1; have hfz8_2 := blk_frozen BK260.out 2; have hfz8_3 := blk_frozen BK260.out 3) | ((with_reducible refine gate_callee (f := 41) rfl ?_); refine goesL_ (some 6) rfl rfl Try.func41 (by kernel_rfl) rfl #[.slice A0_0 l0_0.length c0_0] rfl (by (try simp only [List.map_toArray, List.map_cons, List.map_nil]); first | done | rfl | (simp only [List.length_drop, List.length_take]; rfl)) ?_; (with_reducible refine (laws_toFactS.calls k _ _ l0_0 t263 _ ?side1 ?side2 A2.out).mono ?_); (case side1 => repeat (first | exact (Kd.C_below HR0_0.out HB.out) | (with_reducible refine Kd.C_alloc ?_ _) | (with_reducible refine Kd.C_drewN ?_ _) | (with_reducible refine Kd.C_drew ?_))); (case side2 => exact HC0_0.out); rintro e w9 ⟨v264, rfl, ho0, hb⟩; refine ⟨_, rfl, ?_⟩; have n0_ := Aside0.mk (Kd.S_lower ho0 (below_size (by repeat (first | (with_reducible first | exact HB.out | apply below_alloc | apply pw_below_drewN | apply below_drew1 | refine below_set ?_ GE260.out | refine below_set ?_ GE261.out | refine below_set ?_ GE262.out) | exact HB.out)))); have n1_ := Aside0.mk (blk_below (g := gb260) (o := .cells #[.slice A0_0 l0_0.length c0_0, .int .i64 a0_1, .int .i64 a0_2, .bool a0_3] 45 (0, 0)) (by (with_reducible repeat (first | refine blk_drewN ?_ _ | refine blk_drew ?_ | refine blk_alloc ?_ _)); exact BK260.out) hb); have n2_ := Aside0.mk (blk_below (g := gb261) (o := .cells #[.slice none 0 0, .int .i64 0, .int .i64 0, .bool false] 50 (0, 0)) (by (with_reducible repeat (first | refine blk_drewN ?_ _ | refine blk_drew ?_ | refine blk_alloc ?_ _)); exact BK261.out) hb); have n3_ := Aside0.mk (blk_below (g := gb262) (o := .cells #[.slice none 0 0, .int .i64 0, .int .i64 0, .bool false] 50 (0, 0)) (by (with_reducible repeat (first | refine blk_drewN ?_ _ | refine blk_drew ?_ | refine blk_alloc ?_ _)); exact BK262.out) hb); have n4_ := Aside0.mk (below_step (by repeat (first | (with_reducible first | exact HB.out | apply below_alloc | apply pw_below_drewN | apply below_drew1 | refine below_set ?_ GE260.out | refine below_set ?_ GE261.out | refine below_set ?_ GE262.out) | exact HB.out)) hb); clear BK260; clear BK261; clear BK262; clear HB; have HO265 := n0_; have BK260 := n1_; have BK261 := n2_; have BK262 := n3_; have HB := n4_; clear n0_ n1_ n2_ n3_ n4_; (try clear hb); (try clear hb2); (try clear hk); (try clear hi); (try clear ho0); obtain ⟨Ao10, co10, eo10⟩ := Kd.S_slice HO265.out; subst eo10; have hnb11 := NB262_261.out; have hnc11 := NB261_262.out; have hcz12_0 : w9.cell? ⟨gb262, 0, none⟩ = some (.slice none 0 0) := (blk_cell BK262.out 0).trans rfl; have hcz12_1 : w9.cell? ⟨gb262, 1, none⟩ = some (.int .i64 0) := (blk_cell BK262.out 1).trans rfl; have hcz12_2 : w9.cell? ⟨gb262, 2, none⟩ = some (.int .i64 0) := (blk_cell BK262.out 2).trans rfl; have hcz12_3 : w9.cell? ⟨gb262, 3, none⟩ = some (.bool false) := (blk_cell BK262.out 3).trans rfl; have hfz12_0 := blk_frozen BK262.out 0; have hfz12_1 := blk_frozen BK262.out 1; have hfz12_2 := blk_frozen BK262.out 2; have hfz12_3 := blk_frozen BK262.out 3; have hcz13_0 : w9.cell? ⟨gb260, 0, none⟩ = some (.slice A0_0 l0_0.length c0_0) := (blk_cell BK260.out 0).trans rfl; have hcz13_1 : w9.cell? ⟨gb260, 1, none⟩ = some (.int .i64 a0_1) := (blk_cell BK260.out 1).trans rfl; have hcz13_2 : w9.cell? ⟨gb260, 2, none⟩ = some (.int .i64 a0_2) := (blk_cell BK260.out 2).trans rfl; have hcz13_3 : w9.cell? ⟨gb260, 3, none⟩ = some (.bool a0_3) := (blk_cell BK260.out 3).trans rfl; have hfz13_0 := blk_frozen BK260.out 0; have hfz13_1 := blk_frozen BK260.out 1; have hfz13_2 := blk_frozen BK260.out 2; have hfz13_3 := blk_frozen BK260.out 3; have hcz14_0 : w9.cell? ⟨gb261, 0, none⟩ = some (.slice none 0 0) := (blk_cell BK261.out 0).trans rfl; have hcz14_1 : w9.cell? ⟨gb261, 1, none⟩ = some (.int .i64 0) := (blk_cell BK261.out 1).trans rfl; have hcz14_2 : w9.cell? ⟨gb261, 2, none⟩ = some (.int .i64 0) := (blk_cell BK261.out 2).trans rfl; have hcz14_3 : w9.cell? ⟨gb261, 3, none⟩ = some (.bool false) := (blk_cell BK261.out 3).trans rfl; have hfz14_0 := blk_frozen BK261.out 0; have hfz14_1 := blk_frozen BK261.out 1; have hfz14_2 := blk_frozen BK261.out 2; have hfz14_3 := blk_frozen BK261.out 3))
 refine bodyPost_ret (results_cell_row rfl _ _ gb261 50 #[.slice Ao10 t263.length co10, .int .i64 a0_1, .int .i64 a0_2, .bool a0_3] (0, 0) _ rfl (by (with_reducible repeat (first | refine blk_drewN ?_ _ | refine blk_drew ?_ | refine blk_alloc ?_ _)); refine blk_put (cs := #[.slice Ao10 t263.length co10, .int .i64 a0_1, .int .i64 a0_2, .bool false]) ?_ 3 _ rfl; (with_reducible repeat (first | refine blk_drewN ?_ _ | refine blk_drew ?_ | refine blk_alloc ?_ _)); refine blk_put (cs := #[.slice Ao10 t263.length co10, .int .i64 a0_1, .int .i64 0, .bool false]) ?_ 2 _ rfl; (with_reducible repeat (first | refine blk_drewN ?_ _ | refine blk_drew ?_ | refine blk_alloc ?_ _)); refine blk_put (cs := #[.slice Ao10 t263.length co10, .int .i64 0, .int .i64 0, .bool false]) ?_ 1 _ rfl; (with_reducible repeat (first | refine blk_drewN ?_ _ | refine blk_drew ?_ | refine blk_alloc ?_ _)); refine blk_put (cs := #[.slice none 0 0, .int .i64 0, .int .i64 0, .bool false]) ?_ 0 _ rfl; (with_reducible repeat (first | refine blk_drewN ?_ _ | refine blk_drew ?_ | refine blk_alloc ?_ _)); refine blk_far ?_ NB261_262.out _; (with_reducible repeat (first | refine blk_drewN ?_ _ | refine blk_drew ?_ | refine blk_alloc ?_ _)); refine blk_far ?_ NB261_262.out _; (with_reducible repeat (first | refine blk_drewN ?_ _ | refine blk_drew ?_ | refine blk_alloc ?_ _)); refine blk_far ?_ NB261_262.out _; (with_reducible repeat (first | refine blk_drewN ?_ _ | refine blk_drew ?_ | refine blk_alloc ?_ _)); refine blk_far ?_ NB261_262.out _; (with_reducible repeat (first | refine blk_drewN ?_ _ | refine blk_drew ?_ | refine blk_alloc ?_ _)); exact BK261.out) Try.underlying50 rfl (by kernel_rfl)) rfl ?_
 exact ⟨_, by first | rfl | (simp [errW_none, errW_some] <;> rfl) | (simp [*, errW_none, errW_some] <;> rfl), by (with_reducible repeat (first | apply Kd.S_alloc | apply Kd.S_drewN | apply Kd.S_drew)); exact Kd.S_mono (Kd.S_far (p := ⟨gb261, 3, none⟩) (Kd.S_far (p := ⟨gb261, 2, none⟩) (Kd.S_far (p := ⟨gb261, 1, none⟩) (Kd.S_far (p := ⟨gb261, 0, none⟩) (Kd.S_far (p := ⟨gb262, 3, none⟩) (Kd.S_far (p := ⟨gb262, 2, none⟩) (Kd.S_far (p := ⟨gb262, 1, none⟩) (Kd.S_far (p := ⟨gb262, 0, none⟩) (Kd.S_types (Kd.S_types HO265.out BK262.out (by decide)) BK261.out (by decide)) (fun _ hk => hk.1.2) (.slice Ao10 t263.length co10)) (fun _ hk => hk.1.2) (.int .i64 a0_1)) (fun _ hk => hk.1.2) (.int .i64 a0_2)) (fun _ hk => hk.1.2) (.bool a0_3)) (fun _ hk => hk.2) (.slice Ao10 t263.length co10)) (fun _ hk => hk.2) (.int .i64 a0_1)) (fun _ hk => hk.2) (.int .i64 a0_2)) (fun _ hk => hk.2) (.bool a0_3)) (fun _ hk => trivial), by repeat (first | (with_reducible first | exact HB.out | apply below_alloc | apply pw_below_drewN | apply below_drew1 | refine below_set ?_ GE260.out | refine below_set ?_ GE261.out | refine below_set ?_ GE262.out) | exact HB.out)⟩
end Go.Proofs.Ytoncacdehhmpaaa.P
namespace Go.Proofs.YtoncacdehhmpaaaX
open Go.RowKit Go.Proofs.YtoncacdehhmpaaaW.PrintWords
set_option linter.unusedVariables false
set_option linter.unusedSimpArgs false
def bigN : Nat := 4611686018427387903
theorem le_of_bigN {n : Nat} (h : n ≤ bigN) : n ≤ 4611686018427387903 := h
def PredB (P : Program) (g : Nat) (lb : Array Value) {α : Type} (enc : α → Value) (p : α → Bool) (xs : List α) (w : World) : Prop :=
  ∀ (W : World) (x : α), x ∈ xs → Below w.heap.size w W → Calls P g (#[enc x] ++ lb) W fun e w' => e = .returned (.bool (p x)) ∧ Below W.heap.size W w'
def idxB {α : Type} (p : α → Bool) : List α → Int
  | [] => -1
  | x :: xs => if p x then 0 else (if idxB p xs < 0 then -1 else idxB p xs + 1)
theorem idxB_neg {α : Type} (p : α → Bool) (xs : List α) : idxB p xs = -1 ∨ 0 ≤ idxB p xs := by
  induction xs with
  | nil => exact .inl rfl
  | cons x xs ih =>
    simp only [idxB]
    split
    · exact .inr (by omega)
    · split
      · exact .inl rfl
      · exact .inr (by omega)
theorem idxB_miss {α : Type} (p : α → Bool) (xs : List α) (h : ∀ x, x ∈ xs → p x = false) : idxB p xs = -1 := by
  induction xs with
  | nil => rfl
  | cons x xs ih =>
    simp only [idxB]
    rw [h x List.mem_cons_self, ih (fun y hy => h y (List.mem_cons_of_mem _ hy))]
    simp
theorem idxB_hit {α : Type} (p : α → Bool) : ∀ (xs : List α) (k : Nat) (z : α), k < xs.length → p (xs.getD k z) = true → (∀ j, j < k → p (xs.getD j z) = false) → idxB p xs = k
  | [], k, z, hk, _, _ => absurd hk (by simp)
  | x :: xs, 0, z, _, hp, _ => by
    have : p x = true := hp
    simp [idxB, this]
  | x :: xs, k + 1, z, hk, hp, hm => by
    have h0 : p x = false := hm 0 (by omega)
    have ih := idxB_hit p xs k z (by simpa using hk) hp (fun j hj => hm (j + 1) (by omega))
    simp only [idxB, h0, ih]
    rw [if_neg (by simp), if_neg (by omega)]
    simp
theorem idxB_iff {α : Type} (p : α → Bool) (xs : List α) : idxB p xs ≥ 0 ↔ xs.any p = true := by
  induction xs with
  | nil => simp [idxB]
  | cons x xs ih =>
    rw [List.any_cons, idxB]
    by_cases hp : p x = true
    · rw [if_pos hp, hp]; simp
    · rw [if_neg hp, Bool.eq_false_iff.2 hp, Bool.false_or, ← ih]
      rcases idxB_neg p xs with h | h
      · rw [h]; simp
      · rw [if_neg (by omega)]
        omega
theorem idxB_any {α : Type} (p : α → Bool) (xs : List α) : decide (idxB p xs ≥ 0) = xs.any p := by
  rw [Bool.eq_iff_iff, decide_eq_true_iff]
  exact idxB_iff p xs
theorem getD_mem {α : Type} {xs : List α} {k : Nat} {z : α} (h : k < xs.length) : xs.getD k z ∈ xs := by
  rw [List.getD_eq_getElem?_getD, List.getElem?_eq_getElem h]
  exact List.getElem_mem h
end Go.Proofs.YtoncacdehhmpaaaX
namespace Go.Proofs.YtoncacdehhmpaaaX
open Go.RowKit Go.Proofs.YtoncacdehhmpaaaW.PrintWords
set_option linter.unusedVariables false
set_option linter.unusedSimpArgs false
def okInt (x : Int) : Prop := -9223372036854775808 ≤ x ∧ x ≤ 9223372036854775807
theorem wrap_succ {i n : Nat} (h : i < n) (hn : n ≤ 9223372036854775807) : wrap64 ((i : Int) + 1) = ((i + 1 : Nat) : Int) := by
  unfold wrap64
  omega
theorem up_ind {n : Nat} {P : Nat → Prop} (he : P n) (hs : ∀ i, i < n → P (i + 1) → P i) : ∀ i, i ≤ n → P i := by
  intro i hi
  obtain ⟨d, hd⟩ : ∃ d, n = i + d := ⟨n - i, by omega⟩
  induction d generalizing i with
  | zero => rw [show i = n by omega]; exact he
  | succ d ih => exact hs i (by omega) (ih (i + 1) (by omega) (by omega))
theorem getD_lt {α : Type} {xs : List α} {i : Nat} (z : α) (h : i < xs.length) : xs.getD i z = xs[i] := by
  rw [List.getD_eq_getElem?_getD, List.getElem?_eq_getElem h]
  rfl
theorem drop_getD {α : Type} {xs : List α} {i : Nat} (z : α) (h : i < xs.length) : xs.drop i = xs.getD i z :: xs.drop (i + 1) := by
  rw [getD_lt z h]
  exact List.drop_eq_getElem_cons h
theorem getD_in {α : Type} {xs : List α} {k : Nat} (z : α) (h : k < xs.length) : xs.getD k z ∈ xs := by
  rw [getD_lt z h]
  exact List.getElem_mem h
def szv (t : Nat) (left : Int) : Int := if (t : Int) ≤ left then left - t else -1
theorem szv_pos {t : Nat} {left : Int} (h : (t : Int) ≤ left) : szv t left = left - t := if_pos h
theorem szv_neg {t : Nat} {left : Int} (h : left < t) : szv t left = -1 := if_neg (by omega)
theorem wrap_left {left : Int} {a : Nat} (h0 : 0 ≤ left) (h1 : left ≤ 1048576) (ha : a ≤ 9223372036854775807) : wrap64 (left - (a : Int)) = left - a := by
  unfold wrap64
  omega
theorem sz_loop {α : Type} (xs : List α) (z : α) (tz : α → Nat) (L : Nat → Int → Int → Option Int)
    (hstep : ∀ (i : Nat) (left r : Int), i < xs.length → 0 ≤ left → left ≤ 1048576 → (left < tz (xs.getD i z) → r = -1) →
      ((tz (xs.getD i z) : Int) ≤ left → Ev (fun k => L k (left - tz (xs.getD i z)) ((i + 1 : Nat) : Int)) r) → Ev (fun k => L k left (i : Int)) r)
    (hend : ∀ left, Ev (fun k => L k left (xs.length : Int)) left) :
    ∀ left, 0 ≤ left → left ≤ 1048576 → Ev (fun k => L k left 0) (szv (xs.map tz).sum left) := by
  have key : ∀ i, i ≤ xs.length → ∀ left, 0 ≤ left → left ≤ 1048576 → Ev (fun k => L k left (i : Int)) (szv ((xs.drop i).map tz).sum left) := by
    refine up_ind ?_ ?_
    · intro left h0 h1
      rw [List.drop_length, List.map_nil, List.sum_nil, szv_pos (by omega)]
      rw [show left - ((0 : Nat) : Int) = left by omega]
      exact hend left
    · intro i hi ih left h0 h1
      rw [drop_getD z hi, List.map_cons, List.sum_cons]
      refine hstep i left _ hi h0 h1 (fun h => szv_neg (by omega)) (fun h => ?_)
      have e : szv (tz (xs.getD i z) + ((xs.drop (i + 1)).map tz).sum) left = szv ((xs.drop (i + 1)).map tz).sum (left - tz (xs.getD i z)) := by
        unfold szv
        split <;> split <;> omega
      rw [e]
      exact ih _ (by omega) (by omega)
  intro left h0 h1
  have := key 0 (Nat.zero_le _) left h0 h1
  rw [List.drop_zero] at this
  exact this
theorem to_loop {α β : Type} (xs : List α) (z : α) (f : α → β) (L : Nat → List β → Int → Option (List β))
    (hstep : ∀ (i : Nat) (out r : List β), i < xs.length → out.length = xs.length → Ev (fun k => L k (out.set i (f (xs.getD i z))) ((i + 1 : Nat) : Int)) r → Ev (fun k => L k out (i : Int)) r)
    (hend : ∀ out, out.length = xs.length → Ev (fun k => L k out (xs.length : Int)) out) : ∀ out, out.length = xs.length → Ev (fun k => L k out 0) (xs.map f) := by
  have key : ∀ i, i ≤ xs.length → ∀ out : List β, out.length = xs.length → Ev (fun k => L k out (i : Int)) (out.take i ++ (xs.drop i).map f) := by
    refine up_ind ?_ ?_
    · intro out ho
      rw [List.drop_length, List.map_nil, List.append_nil, ← ho, List.take_length, ho]
      exact hend out ho
    · intro i hi ih out ho
      refine hstep i out _ hi ho ?_
      have := ih (out.set i (f (xs.getD i z))) (by simpa using ho)
      have e : (out.set i (f (xs.getD i z))).take (i + 1) ++ (xs.drop (i + 1)).map f = out.take i ++ (xs.drop i).map f := by
        rw [drop_getD z hi, List.map_cons, List.take_succ_eq_append_getElem (by simpa [ho] using hi), List.take_set_of_le (Nat.le_refl i)]
        simp
      rw [e] at this
      exact this
  intro out ho
  have := key 0 (Nat.zero_le _) out ho
  simpa using this
theorem eq_loop (n : Nat) (L : Nat → Int → Option Bool) (hstep : ∀ i : Nat, i < n → Ev (fun k => L k ((i + 1 : Nat) : Int)) true → Ev (fun k => L k (i : Int)) true)
    (hend : Ev (fun k => L k (n : Int)) true) : Ev (fun k => L k 0) true := by
  have := up_ind (P := fun i => Ev (fun k => L k (i : Int)) true) hend (fun i hi h => hstep i hi h) 0 (Nat.zero_le _)
  exact this
theorem sum_le_of_mem {α : Type} (f : α → Nat) : ∀ (xs : List α) (x : α), x ∈ xs → f x ≤ (xs.map f).sum
  | [], x, h => absurd h (by simp)
  | y :: ys, x, h => by
    rw [List.map_cons, List.sum_cons]
    rcases List.mem_cons.1 h with h | h
    · rw [h]; omega
    · have := sum_le_of_mem f ys x h; omega
end Go.Proofs.YtoncacdehhmpaaaX
namespace Go.Proofs.YtoncacdehhmpaaaX
open Go.RowKit Go.Proofs.YtoncacdehhmpaaaW.PrintWords
set_option linter.unusedVariables false
set_option linter.unusedSimpArgs false
def symOk (c : Int) : Bool := (decide (97 ≤ c) && decide (c ≤ 122)) || (decide (48 ≤ c) && decide (c ≤ 57)) || c == 45
def symFrom (s : ByteArray) (i : Nat) : Bool := ((List.range s.size).drop i).all fun j => symOk (bt s j)
def goodSymB (s : ByteArray) : Bool := if s.size = 0 then false else if 20 < s.size then false else if bt s 0 < 97 then false else if 122 < bt s 0 then false else symFrom s 0
theorem symFrom_end (s : ByteArray) : symFrom s s.size = true := by
  unfold symFrom
  rw [List.drop_of_length_le (by simp)]
  rfl
theorem symFrom_step (s : ByteArray) (i : Nat) (h : i < s.size) : symFrom s i = (symOk (bt s i) && symFrom s (i + 1)) := by
  unfold symFrom
  rw [List.drop_eq_getElem_cons (by simpa using h), List.all_cons]
  simp
theorem high_rune (s : ByteArray) (pos : Nat) (h : pos < s.size) (hb : 128 ≤ (s[pos]'h).toNat) : 128 ≤ (Utf8.decode s pos).1 := by
  have hg : (s.get! (pos + 0)).toNat = (s[pos]'h).toNat := by
    rw [Nat.add_zero]
    show (s.data[pos]!).toNat = _
    rw [getElem!_pos s.data pos h]
    rfl
  unfold Utf8.decode
  simp only [hg]
  generalize (s[pos]'h).toNat = b at hb
  generalize (s.get! (pos + 1)).toNat = b1
  generalize (s.get! (pos + 2)).toNat = b2
  generalize (s.get! (pos + 3)).toNat = b3
  rw [if_neg (by omega)]
  repeat' split
  all_goals first | (simp only [Utf8.runeError]; omega) | (rename_i h1; simp only [Bool.and_eq_true, decide_eq_true_eq] at h1; simp only []; omega) | (simp only []; omega)
theorem sym_decode (s : ByteArray) (pos : Nat) (h : pos < s.size) : symOk ((Utf8.decode s pos).1 : Int) = symOk (bt s pos) ∧ (symOk (bt s pos) = true → (Utf8.decode s pos).2 = 1) := by
  have hb : bt s (pos : Int) = ((s[pos]'h).toNat : Int) := (bt_at s pos (by simpa using h)).symm
  by_cases c : (s[pos]'h).toNat < 128
  · rw [decode_ascii s pos h c, hb]
    exact ⟨rfl, fun _ => rfl⟩
  · have h1 := high_rune s pos h (by omega)
    have f1 : symOk ((Utf8.decode s pos).1 : Int) = false := by
      simp [symOk]; omega
    have f2 : symOk (bt s (pos : Int)) = false := by
      rw [hb]; simp [symOk]; omega
    rw [f1, f2]
    exact ⟨rfl, fun h => by cases h⟩
end Go.Proofs.YtoncacdehhmpaaaX
namespace Go.Proofs.Ytoncacdehhmpaaa.P
open Go.RowKit Go.Proofs.YtoncacdehhmpaaaW.PrintWords Go.Proofs.YtoncacdehhmpaaaW.PrintLast Go.Proofs.YtoncacdehhmpaaaW.PrintMore
attribute [local go_sem] max2_int min2_int max_two min_two max_three min_three max_four min_four
set_option linter.unusedVariables false
set_option linter.unusedSimpArgs false
open Go.Proofs.YtoncacdehhmpaaaX in
def impl_goodSym.f (a0 : ByteArray) : Option Bool := some (goodSymB a0)
open Go.Proofs.YtoncacdehhmpaaaX in
set_option maxHeartbeats 4000000 in
set_option maxRecDepth 100000 in
theorem impl_goodSym.calls (a0 : ByteArray) (r : Bool) (w : World) (h : impl_goodSym.f a0 = some r) :
  Calls Try.prog 109 #[.string a0] w fun e w' => e = .returned (.bool r) ∧ Below w.heap.size w w' := by
 have h := Option.some.inj h
 subst h
 have HB := Aside0.mk (Below.refl w.heap.size w)
 by_cases h1 : a0.size = 0
 ·have hv : goodSymB a0 = false := by unfold goodSymB; rw [if_pos h1]
  rw [hv]
  have q1 : a0.toList = [] := by rw [ByteArray.toList_eq]; exact List.eq_nil_of_length_eq_zero (by rw [Array.length_toList]; exact h1)
  clear h1 hv
  go_enter Try.func109, Try.ntmps109
  go_wp2
  go_ret
  exact ⟨rfl, HB.out⟩
 have hz : 0 < a0.size := by omega
 have hzz : ¬ (a0.toList = []) := by
  intro e
  rw [ByteArray.toList_eq] at e
  have := congrArg List.length e
  rw [Array.length_toList] at this
  exact h1 this
 have q1 : (a0.toList.isEmpty) = false := by simpa using hzz
 have hbt : ∀ h : 0 < a0.size, ((a0[0]'h).toNat : Int) = bt a0 0 := bt_at a0 0
 by_cases h2 : 20 < a0.size
 ·have hv : goodSymB a0 = false := by unfold goodSymB; rw [if_neg h1, if_pos h2]
  rw [hv]
  have q2 : decide (20 < (a0.size : Int)) = true := decide_eq_true (by omega)
  clear h1 h2 hv
  go_enter Try.func109, Try.ntmps109
  go_wp2
  go_ret
  exact ⟨rfl, HB.out⟩
 have q2 : decide (20 < (a0.size : Int)) = false := decide_eq_false (by omega)
 by_cases h3 : bt a0 0 < 97
 ·have hv : goodSymB a0 = false := by unfold goodSymB; rw [if_neg h1, if_neg h2, if_pos h3]
  rw [hv]
  have q3 : decide (bt a0 0 < 97) = true := decide_eq_true h3
  clear h1 h2 h3 hv
  go_enter Try.func109, Try.ntmps109
  go_wp2
  go_ret
  exact ⟨rfl, HB.out⟩
 have q3 : decide (bt a0 0 < 97) = false := decide_eq_false h3
 by_cases h4 : 122 < bt a0 0
 ·have hv : goodSymB a0 = false := by unfold goodSymB; rw [if_neg h1, if_neg h2, if_neg h3, if_pos h4]
  rw [hv]
  have q4 : decide (122 < bt a0 0) = true := decide_eq_true h4
  clear h1 h2 h3 h4 hv
  go_enter Try.func109, Try.ntmps109
  go_wp2
  go_ret
  exact ⟨rfl, HB.out⟩
 have q4 : decide (122 < bt a0 0) = false := decide_eq_false h4
 have hv : goodSymB a0 = symFrom a0 0 := by unfold goodSymB; rw [if_neg h1, if_neg h2, if_neg h3, if_neg h4]
 rw [hv]
 have HS := Aside0.mk (show a0.size ≤ 20 by omega)
 clear h1 h2 h3 h4 hv
 go_enter Try.func109, Try.ntmps109
 go_wp2
 clear q1 q2 q3 q4 hzz hbt
 go_loopw [4] (fun _ wr => ∃ pos : Nat, wr.heap[w.heap.size]? = some (.stringIter a0 pos) ∧ Aside0 (pos ≤ a0.size) ∧ Aside0 (Below w.heap.size w wr) ∧ Aside0 (symFrom a0 0 = symFrom a0 pos)) (fun _ wr => a0.size - wr.iterPos w.heap.size)
 case atStart => exact ⟨0, World.iter_heap w a0 0, ⟨Nat.zero_le _⟩, ⟨(Below.refl _ _).alloc (Nat.le_refl _) _⟩, ⟨rfl⟩⟩
 case round =>
  obtain ⟨pos, hit, hle, BW, MI⟩ := hrel
  have hpos0 : wr.iterPos w.heap.size = pos := by simp [World.iterPos, hit]
  by_cases hp : pos < a0.size
  ·have hnx : ∀ ty, (Instr.next (.pointer (some ⟨w.heap.size, 0, none⟩)) true ty).run Try.prog wr = _ := fun ty => Lib.run_next_any_at wr w.heap.size a0 pos ty hit hp
   have hit2 := Lib.iterAt_heap wr w.heap.size a0 pos (pos + (Utf8.decode a0 pos).2) hit
   have hbw2 := Aside0.mk (Lib.below_iterAt BW.out (k := w.heap.size) (Nat.le_refl _) a0 (pos + (Utf8.decode a0 pos).2))
   obtain ⟨W1, hW1⟩ : ∃ W1, W1 = wr.iterAt w.heap.size a0 (pos + (Utf8.decode a0 pos).2) := ⟨_, rfl⟩
   rw [← hW1] at hnx hit2 hbw2
   have hsy := Aside0.mk (sym_decode a0 pos hp)
   have hst := Aside0.mk (symFrom_step a0 pos hp)
   have hlo : (0 : Int) ≤ ((Utf8.decode a0 pos).1 : Int) := by omega
   have hhi : ((Utf8.decode a0 pos).1 : Int) ≤ 1114111 := by have := Lib.rune_le a0 pos; omega
   have hp' := Aside0.mk hp
   have hpos := Aside0.mk hpos0
   clear hW1 hit hp hpos0
   generalize hc : ((Utf8.decode a0 pos).1 : Int) = c at hnx hlo hhi hsy
   clear hc
   by_cases g1 : 97 ≤ c ∧ c ≤ 122
   ·obtain ⟨g1, g2⟩ := g1
    have k0 : decide (97 ≤ c) = true := decide_eq_true (by omega)
    have k1 : decide (c ≤ 122) = true := decide_eq_true (by omega)
    have ok : symOk c = true := by simp [symOk]; omega
    have HO := Aside0.mk ok
    clear ok
    go_wp2
    go_roundw
    case rel =>
     have e1 := hsy.out
     rw [HO.out] at e1
     have e2 := e1.2 e1.1.symm
     refine ⟨pos + 1, by rw [← e2]; exact hit2, ⟨by have := hp'.out; omega⟩, hbw2, ⟨?_⟩⟩
     rw [MI.out, hst.out, ← e1.1]
     rfl
    case measure =>
     have e1 := hsy.out
     rw [HO.out] at e1
     have e2 := e1.2 e1.1.symm
     have e3 : W1.iterPos w.heap.size = pos + (Utf8.decode a0 pos).2 := by simp [World.iterPos, hit2]
     have := hp'.out
     have := hpos.out
     omega
   have a1 : (decide (97 ≤ c) = true ∧ decide (c ≤ 122) = false) ∨ decide (97 ≤ c) = false := by
    by_cases e1 : 97 ≤ c
    ·exact .inl ⟨decide_eq_true e1, decide_eq_false (by omega)⟩
    ·exact .inr (decide_eq_false e1)
   by_cases g3 : 48 ≤ c ∧ c ≤ 57
   ·obtain ⟨g3, g4⟩ := g3
    clear a1
    have k0 : decide (97 ≤ c) = false := decide_eq_false (by omega)
    have k1 : decide (48 ≤ c) = true := decide_eq_true (by omega)
    have k2 : decide (c ≤ 57) = true := decide_eq_true (by omega)
    have ok : symOk c = true := by simp [symOk]; omega
    have HO := Aside0.mk ok
    clear ok
    go_wp2
    go_roundw
    case rel =>
     have e1 := hsy.out
     rw [HO.out] at e1
     have e2 := e1.2 e1.1.symm
     refine ⟨pos + 1, by rw [← e2]; exact hit2, ⟨by have := hp'.out; omega⟩, hbw2, ⟨?_⟩⟩
     rw [MI.out, hst.out, ← e1.1]
     rfl
    case measure =>
     have e1 := hsy.out
     rw [HO.out] at e1
     have e2 := e1.2 e1.1.symm
     have e3 : W1.iterPos w.heap.size = pos + (Utf8.decode a0 pos).2 := by simp [World.iterPos, hit2]
     have := hp'.out
     have := hpos.out
     omega
   by_cases g5 : c = 45
   ·subst g5
    clear a1
    have k0 : decide ((97 : Int) ≤ 45) = false := decide_eq_false (by omega)
    have k1 : decide ((48 : Int) ≤ 45) = false := decide_eq_false (by omega)
    have ok : symOk 45 = true := by rfl
    have HO := Aside0.mk ok
    clear ok
    go_wp2
    go_roundw
    case rel =>
     have e1 := hsy.out
     rw [HO.out] at e1
     have e2 := e1.2 e1.1.symm
     refine ⟨pos + 1, by rw [← e2]; exact hit2, ⟨by have := hp'.out; omega⟩, hbw2, ⟨?_⟩⟩
     rw [MI.out, hst.out, ← e1.1]
     rfl
    case measure =>
     have e1 := hsy.out
     rw [HO.out] at e1
     have e2 := e1.2 e1.1.symm
     have e3 : W1.iterPos w.heap.size = pos + (Utf8.decode a0 pos).2 := by simp [World.iterPos, hit2]
     have := hp'.out
     have := hpos.out
     omega
   have k5 : (c == 45) = false := beq_eq_false_iff_ne.mpr g5
   have a2 : (decide (48 ≤ c) = true ∧ decide (c ≤ 57) = false) ∨ decide (48 ≤ c) = false := by
    by_cases e1 : 48 ≤ c
    ·exact .inl ⟨decide_eq_true e1, decide_eq_false (by omega)⟩
    ·exact .inr (decide_eq_false e1)
   rcases a1 with ⟨k0, k1⟩ | k0 <;> rcases a2 with ⟨k2, k3⟩ | k2
   all_goals
    have ok : symOk c = false := by simp [symOk]; omega
    have HO := Aside0.mk ok
    clear ok
    go_wp2
    go_ret
    refine ⟨?_, hbw2.out⟩
    have e1 := hsy.out.1
    rw [HO.out] at e1
    rw [MI.out, hst.out, ← e1]
    rfl
  ·have e : pos = a0.size := by have := hle.out; omega
   have hnx : ∀ ty, (Instr.next (.pointer (some ⟨w.heap.size, 0, none⟩)) true ty).run Try.prog wr = _ := fun ty => Lib.run_next_end_at wr w.heap.size a0 pos ty hit hp
   have HE := Aside0.mk e
   clear e hpos0 hp
   go_wp2
   go_ret
   refine ⟨?_, BW.out⟩
   rw [MI.out, HE.out, symFrom_end]
   rfl
end Go.Proofs.Ytoncacdehhmpaaa.P
namespace Go.Proofs.Ytoncacdehhmpaaa.P
open Go.RowKit Go.Proofs.YtoncacdehhmpaaaW.PrintWords Go.Proofs.YtoncacdehhmpaaaW.PrintLast Go.Proofs.YtoncacdehhmpaaaW.PrintMore
attribute [local go_sem] max2_int min2_int max_two min_two max_three min_three max_four min_four
set_option linter.unusedVariables false
set_option linter.unusedSimpArgs false
open Go.Proofs.YtoncacdehhmpaaaX in
def encValue (x : S104) : Value := .agg #[.int .i64 (x).f0, .int .i64 (x).f1, .string (x).f2]
open Go.Proofs.YtoncacdehhmpaaaX in
set_option maxHeartbeats 2000000 in
set_option maxRecDepth 100000 in
theorem idxValue.calls (g : Nat) (lb : Array Value) (eg : ∀ args w, (callFunc g args).run Try.prog w = .ok (.enter g args) w) (p : S104 → Bool) (A : Option Addr) (c : Nat) (xs : List S104) (w : World)
  (hr : Kd.C k104 w A xs.length xs) (hc : xs.length ≤ c) (hm : xs.length ≤ bigN) (hp : PredB Try.prog g lb encValue p xs w) :
  Calls Try.prog 165 #[.slice A xs.length c, .func (.func g) #[] lb] w fun e w' => e = .returned (.int .i64 (idxB p xs)) ∧ Below w.heap.size w w' := by
 have hm := le_of_bigN hm
 have HR0 := Aside0.mk hr
 have HC0 := Aside0.mk hc
 have HP := Aside0.mk hp
 clear hr hc hp
 go_enter Try.func165, Try.ntmps165
 go_wp2
 go_loopg [5, 8] xs.length (fun gg _ s8 wr => ∃ kk : Nat, kk ≤ xs.length ∧ xs.length - kk ≤ gg ∧ s8 = .int .i64 kk ∧ Aside0 (Below w.heap.size w wr) ∧ Aside0 (∀ j, j < kk → p (xs.getD j z104) = false))
 case atStart => exact ⟨0, Nat.zero_le _, by omega, rfl, ⟨Below.refl _ w⟩, ⟨fun j hj => absurd hj (Nat.not_lt_zero _)⟩⟩
 case round =>
  obtain ⟨kk, hkk, hg, rfl, BW, MI⟩ := hrel
  by_cases hlt : kk < xs.length
  ·have hltz : (kk : Int) < (xs.length : Int) := by omega
   obtain ⟨ad, e0, hx0, hx1, hx2⟩ := at_T104 HR0.out (kk : Int) (by omega) hltz
   cases e0
   replace hx0 := (BW.out.cell (World.block_lt_of_cell? w _ hx0)).trans hx0
   replace hx1 := (BW.out.cell (World.block_lt_of_cell? w _ hx1)).trans hx1
   replace hx2 := (BW.out.cell (World.block_lt_of_cell? w _ hx2)).trans hx2
   have hrd : rd_T104 xs (kk : Int) = xs.getD kk z104 := by simp [rd_T104]
   have hcall := HP.out wr (xs.getD kk z104) (getD_mem hlt) BW.out
   rw [hrd] at hx0 hx1 hx2
   simp only [Int.toNat_natCast] at hx0 hx1 hx2
   have HL := Aside0.mk hlt
   clear hrd
   generalize hy : xs.getD kk z104 = y at hx0 hx1 hx2 hcall
   have HY := Aside0.mk hy
   clear hy
   simp only [encValue] at hcall
   cases hq : p y with
   | true =>
    rw [hq] at hcall
    have HQ := Aside0.mk hq
    have HH := Aside0.mk hcall
    clear hq hcall
    go_wp2_with (go_at_fn g; refine HH.out.mono ?_; rintro e w' ⟨rfl, hb'⟩)
    go_ret
    refine ⟨?_, below_then BW.out BW.out.size hb'⟩
    rw [idxB_hit p xs kk z104 HL.out (by rw [HY.out]; exact HQ.out) MI.out]
    rfl
   | false =>
    rw [hq] at hcall
    have HQ := Aside0.mk hq
    have HH := Aside0.mk hcall
    clear hq hcall
    go_wp2_with (go_at_fn g; refine HH.out.mono ?_; rintro e w' ⟨rfl, hb'⟩)
    go_roundg (xs.length - (kk + 1))
    case measure => omega
    case rel =>
     refine ⟨kk + 1, by omega, by omega, by go_num, ⟨below_then BW.out BW.out.size hb'⟩, ⟨fun j hj => ?_⟩⟩
     by_cases e : j = kk
     ·subst e
      rw [HY.out]; exact HQ.out
     ·exact MI.out j (by omega)
  ·have hltz : ¬ (kk : Int) < (xs.length : Int) := by omega
   have hk : kk = xs.length := by omega
   have HK := Aside0.mk hk
   clear hk
   go_wp2
   go_ret
   refine ⟨?_, BW.out⟩
   have hmiss : ∀ x, x ∈ xs → p x = false := by
    intro x hx
    obtain ⟨j, hj, e⟩ := List.getElem_of_mem hx
    have := MI.out j (by have := HK.out; omega)
    rw [List.getD_eq_getElem?_getD, List.getElem?_eq_getElem hj] at this
    rw [← e]; exact this
   rw [idxB_miss p xs hmiss]
   rfl
end Go.Proofs.Ytoncacdehhmpaaa.P
namespace Go.Proofs.Ytoncacdehhmpaaa.P
open Go.RowKit Go.Proofs.YtoncacdehhmpaaaW.PrintWords Go.Proofs.YtoncacdehhmpaaaW.PrintLast Go.Proofs.YtoncacdehhmpaaaW.PrintMore
attribute [local go_sem] max2_int min2_int max_two min_two max_three min_three max_four min_four
set_option linter.unusedVariables false
set_option linter.unusedSimpArgs false
open Go.Proofs.YtoncacdehhmpaaaX in
set_option maxHeartbeats 2000000 in
set_option maxRecDepth 100000 in
theorem containsValue.calls (g : Nat) (lb : Array Value) (eg : ∀ args w, (callFunc g args).run Try.prog w = .ok (.enter g args) w) (p : S104 → Bool) (A : Option Addr) (c : Nat) (xs : List S104) (w : World)
  (hr : Kd.C k104 w A xs.length xs) (hc : xs.length ≤ c) (hm : xs.length ≤ bigN) (hp : PredB Try.prog g lb encValue p xs w) :
  Calls Try.prog 140 #[.slice A xs.length c, .func (.func g) #[] lb] w fun e w' => e = .returned (.bool (xs.any p)) ∧ Below w.heap.size w w' := by
 have hcall := idxValue.calls g lb eg p A c xs w hr hc hm hp
 rw [← idxB_any]
 have HH := Aside0.mk hcall
 clear hcall hr hc hm hp
 go_enter Try.func140, Try.ntmps140
 go_wp2_with (go_at_call 165; refine HH.out.mono ?_; rintro e w' ⟨rfl, hb'⟩)
 go_ret
 exact ⟨rfl, hb'⟩
end Go.Proofs.Ytoncacdehhmpaaa.P
namespace Go.Proofs.Ytoncacdehhmpaaa.P
open Go.RowKit Go.Proofs.YtoncacdehhmpaaaW.PrintWords Go.Proofs.YtoncacdehhmpaaaW.PrintLast Go.Proofs.YtoncacdehhmpaaaW.PrintMore
attribute [local go_sem] max2_int min2_int max_two min_two max_three min_three max_four min_four
set_option linter.unusedVariables false
set_option linter.unusedSimpArgs false
def impl_Value_good.f (a0_0 : Int) (a0_1 : Int) (a0_2 : ByteArray) : Option (Bool) := if a0_0 = 0 then (some (a0_2.toList == ([] : List UInt8))) else (if a0_0 = 1 then (if a0_1 = 0 then ((impl_goodSym.f a0_2).bind fun t267 => (some t267)) else (some false)) else (some false))
set_option maxHeartbeats 8000000 in
set_option maxRecDepth 100000 in
theorem impl_Value_good.calls (a0_0 : Int) (a0_1 : Int) (a0_2 : ByteArray) (r : Bool) (w : World) (h : impl_Value_good.f a0_0 a0_1 a0_2 = some r) :
  Calls Try.prog 142 #[.agg #[.int .i64 a0_0, .int .i64 a0_1, .string a0_2]] w fun e w' => e = .returned (.bool r) ∧ Below w.heap.size w w' := by
 have hu104 := Try.underlying104
 have HB := Aside0.mk (Below.refl w.heap.size w)
 have H : (if a0_0 = 0 then (some (a0_2.toList == ([] : List UInt8))) else (if a0_0 = 1 then (if a0_1 = 0 then ((impl_goodSym.f a0_2).bind fun t267 => (some t267)) else (some false)) else (some false))) = some r := h
 clear h
 by_cases c2 : a0_0 = 0
 ·rw [if_pos c2] at H
  have c2b0 : (a0_0 == 0) = true := beq_iff_eq.mpr c2
  have c2b1 : (a0_0 != 0) = false := bne_eq_false_iff_eq.mpr c2
  clear c2
  obtain rfl := Option.some.inj H
  go_enter Try.func142, Try.ntmps142
  go_wp2_with (first | ((with_reducible refine gate_dst (N := 1) rfl ?_); refine box_event ?hg (N := 1) ?hd (cs := #[.int .i64 a0_0, .int .i64 a0_1, .string a0_2]) (t := 104) ?hr ?_; (case hd => rfl); (case hg => rfl); (case hr => first | (go_simp; done) | (go_simp; rfl)); intro gb266 hg w3 hbox hb; have n0_ := Aside0.mk (below_step (by repeat (first | (with_reducible first | exact HB.out | apply below_alloc | apply pw_below_drewN | apply below_drew1) | exact HB.out)) hb); have n1_ := Aside0.mk (hbox); have n2_ := Aside0.mk ((by rw [hg]; exact (below_size (by repeat (first | (with_reducible first | exact HB.out | apply below_alloc | apply pw_below_drewN | apply below_drew1) | exact HB.out))) : w.heap.size ≤ gb266)); have n3_ := Aside0.mk ((by rw [hg]; exact (below_size (by repeat (first | (with_reducible first | exact HB.out | apply below_alloc | apply pw_below_drewN | apply below_drew1) | exact HB.out))) : w.heap.size ≤ gb266)); clear HB; have HB := n0_; have BK266 := n1_; have GW266 := n2_; have GE266 := n3_; clear n0_ n1_ n2_ n3_; clear hb hbox hg; have hcz4_0 : w3.cell? ⟨gb266, 0, none⟩ = some (.int .i64 a0_0) := (blk_cell BK266.out 0).trans rfl; have hcz4_1 : w3.cell? ⟨gb266, 1, none⟩ = some (.int .i64 a0_1) := (blk_cell BK266.out 1).trans rfl; have hcz4_2 : w3.cell? ⟨gb266, 2, none⟩ = some (.string a0_2) := (blk_cell BK266.out 2).trans rfl; have hfz4_0 := blk_frozen BK266.out 0; have hfz4_1 := blk_frozen BK266.out 1; have hfz4_2 := blk_frozen BK266.out 2))
  go_ret
  exact ⟨by first | rfl | (simp [errW_none, errW_some] <;> rfl) | (simp [*, errW_none, errW_some] <;> rfl), by repeat (first | (with_reducible first | exact HB.out | apply below_alloc | apply pw_below_drewN | apply below_drew1 | refine below_set ?_ GE266.out) | exact HB.out)⟩
 ·rw [if_neg c2] at H
  have c2b0 : (a0_0 == 0) = false := beq_eq_false_iff_ne.mpr c2
  have c2b1 : (a0_0 != 0) = true := bne_iff_ne.mpr c2
  by_cases c5 : a0_0 = 1
  ·rw [if_pos c5] at H
   have c5b0 : (a0_0 == 1) = true := beq_iff_eq.mpr c5
   have c5b1 : (a0_0 != 1) = false := bne_eq_false_iff_eq.mpr c5
   clear c5
   by_cases c6 : a0_1 = 0
   ·rw [if_pos c6] at H
    have c6b0 : (a0_1 == 0) = true := beq_iff_eq.mpr c6
    have c6b1 : (a0_1 != 0) = false := bne_eq_false_iff_eq.mpr c6
    clear c6
    replace H := Option.bind_eq_some_iff.mp H
    obtain ⟨t267, A70, H⟩ := H
    replace H : (some t267) = some r := H
    have A7 := Aside0.mk A70
    clear A70
    obtain rfl := Option.some.inj H
    go_enter Try.func142, Try.ntmps142
    go_wp2_with (first | ((with_reducible refine gate_dst (N := 1) rfl ?_); refine box_event ?hg (N := 1) ?hd (cs := #[.int .i64 a0_0, .int .i64 a0_1, .string a0_2]) (t := 104) ?hr ?_; (case hd => rfl); (case hg => rfl); (case hr => first | (go_simp; done) | (go_simp; rfl)); intro gb266 hg w8 hbox hb; have n0_ := Aside0.mk (below_step (by repeat (first | (with_reducible first | exact HB.out | apply below_alloc | apply pw_below_drewN | apply below_drew1) | exact HB.out)) hb); have n1_ := Aside0.mk (hbox); have n2_ := Aside0.mk ((by rw [hg]; exact (below_size (by repeat (first | (with_reducible first | exact HB.out | apply below_alloc | apply pw_below_drewN | apply below_drew1) | exact HB.out))) : w.heap.size ≤ gb266)); have n3_ := Aside0.mk ((by rw [hg]; exact (below_size (by repeat (first | (with_reducible first | exact HB.out | apply below_alloc | apply pw_below_drewN | apply below_drew1) | exact HB.out))) : w.heap.size ≤ gb266)); clear HB; have HB := n0_; have BK266 := n1_; have GW266 := n2_; have GE266 := n3_; clear n0_ n1_ n2_ n3_; clear hb hbox hg; have hcz9_0 : w8.cell? ⟨gb266, 0, none⟩ = some (.int .i64 a0_0) := (blk_cell BK266.out 0).trans rfl; have hcz9_1 : w8.cell? ⟨gb266, 1, none⟩ = some (.int .i64 a0_1) := (blk_cell BK266.out 1).trans rfl; have hcz9_2 : w8.cell? ⟨gb266, 2, none⟩ = some (.string a0_2) := (blk_cell BK266.out 2).trans rfl; have hfz9_0 := blk_frozen BK266.out 0; have hfz9_1 := blk_frozen BK266.out 1; have hfz9_2 := blk_frozen BK266.out 2) | (go_at_call 109; (with_reducible refine (impl_goodSym.calls a0_2 t267 _ A7.out).mono ?_); rintro e w10 ⟨rfl, hb⟩; have n0_ := Aside0.mk (blk_below (g := gb266) (o := .cells #[.int .i64 a0_0, .int .i64 a0_1, .string a0_2] 104 (0, 0)) (by (with_reducible repeat (first | refine blk_drewN ?_ _ | refine blk_drew ?_ | refine blk_alloc ?_ _)); exact BK266.out) hb); have n1_ := Aside0.mk (below_step (by repeat (first | (with_reducible first | exact HB.out | apply below_alloc | apply pw_below_drewN | apply below_drew1 | refine below_set ?_ GE266.out) | exact HB.out)) hb); clear BK266; clear HB; have BK266 := n0_; have HB := n1_; clear n0_ n1_; (try clear hb); (try clear hb2); (try clear hk); (try clear hi)))
    go_ret
    exact ⟨by first | rfl | (simp [errW_none, errW_some] <;> rfl) | (simp [*, errW_none, errW_some] <;> rfl), by repeat (first | (with_reducible first | exact HB.out | apply below_alloc | apply pw_below_drewN | apply below_drew1 | refine below_set ?_ GE266.out) | exact HB.out)⟩
   ·rw [if_neg c6] at H
    have c6b0 : (a0_1 == 0) = false := beq_eq_false_iff_ne.mpr c6
    have c6b1 : (a0_1 != 0) = true := bne_iff_ne.mpr c6
    obtain rfl := Option.some.inj H
    go_enter Try.func142, Try.ntmps142
    go_wp2_with (first | ((with_reducible refine gate_dst (N := 1) rfl ?_); refine box_event ?hg (N := 1) ?hd (cs := #[.int .i64 a0_0, .int .i64 a0_1, .string a0_2]) (t := 104) ?hr ?_; (case hd => rfl); (case hg => rfl); (case hr => first | (go_simp; done) | (go_simp; rfl)); intro gb266 hg w11 hbox hb; have n0_ := Aside0.mk (below_step (by repeat (first | (with_reducible first | exact HB.out | apply below_alloc | apply pw_below_drewN | apply below_drew1) | exact HB.out)) hb); have n1_ := Aside0.mk (hbox); have n2_ := Aside0.mk ((by rw [hg]; exact (below_size (by repeat (first | (with_reducible first | exact HB.out | apply below_alloc | apply pw_below_drewN | apply below_drew1) | exact HB.out))) : w.heap.size ≤ gb266)); have n3_ := Aside0.mk ((by rw [hg]; exact (below_size (by repeat (first | (with_reducible first | exact HB.out | apply below_alloc | apply pw_below_drewN | apply below_drew1) | exact HB.out))) : w.heap.size ≤ gb266)); clear HB; have HB := n0_; have BK266 := n1_; have GW266 := n2_; have GE266 := n3_; clear n0_ n1_ n2_ n3_; clear hb hbox hg; have hcz12_0 : w11.cell? ⟨gb266, 0, none⟩ = some (.int .i64 a0_0) := (blk_cell BK266.out 0).trans rfl; have hcz12_1 : w11.cell? ⟨gb266, 1, none⟩ = some (.int .i64 a0_1) := (blk_cell BK266.out 1).trans rfl; have hcz12_2 : w11.cell? ⟨gb266, 2, none⟩ = some (.string a0_2) := (blk_cell BK266.out 2).trans rfl; have hfz12_0 := blk_frozen BK266.out 0; have hfz12_1 := blk_frozen BK266.out 1; have hfz12_2 := blk_frozen BK266.out 2))
    go_ret
    exact ⟨by first | rfl | (simp [errW_none, errW_some] <;> rfl) | (simp [*, errW_none, errW_some] <;> rfl), by repeat (first | (with_reducible first | exact HB.out | apply below_alloc | apply pw_below_drewN | apply below_drew1 | refine below_set ?_ GE266.out) | exact HB.out)⟩
  ·rw [if_neg c5] at H
   have c5b0 : (a0_0 == 1) = false := beq_eq_false_iff_ne.mpr c5
   have c5b1 : (a0_0 != 1) = true := bne_iff_ne.mpr c5
   obtain rfl := Option.some.inj H
   go_enter Try.func142, Try.ntmps142
   go_wp2_with (first | ((with_reducible refine gate_dst (N := 1) rfl ?_); refine box_event ?hg (N := 1) ?hd (cs := #[.int .i64 a0_0, .int .i64 a0_1, .string a0_2]) (t := 104) ?hr ?_; (case hd => rfl); (case hg => rfl); (case hr => first | (go_simp; done) | (go_simp; rfl)); intro gb266 hg w13 hbox hb; have n0_ := Aside0.mk (below_step (by repeat (first | (with_reducible first | exact HB.out | apply below_alloc | apply pw_below_drewN | apply below_drew1) | exact HB.out)) hb); have n1_ := Aside0.mk (hbox); have n2_ := Aside0.mk ((by rw [hg]; exact (below_size (by repeat (first | (with_reducible first | exact HB.out | apply below_alloc | apply pw_below_drewN | apply below_drew1) | exact HB.out))) : w.heap.size ≤ gb266)); have n3_ := Aside0.mk ((by rw [hg]; exact (below_size (by repeat (first | (with_reducible first | exact HB.out | apply below_alloc | apply pw_below_drewN | apply below_drew1) | exact HB.out))) : w.heap.size ≤ gb266)); clear HB; have HB := n0_; have BK266 := n1_; have GW266 := n2_; have GE266 := n3_; clear n0_ n1_ n2_ n3_; clear hb hbox hg; have hcz14_0 : w13.cell? ⟨gb266, 0, none⟩ = some (.int .i64 a0_0) := (blk_cell BK266.out 0).trans rfl; have hcz14_1 : w13.cell? ⟨gb266, 1, none⟩ = some (.int .i64 a0_1) := (blk_cell BK266.out 1).trans rfl; have hcz14_2 : w13.cell? ⟨gb266, 2, none⟩ = some (.string a0_2) := (blk_cell BK266.out 2).trans rfl; have hfz14_0 := blk_frozen BK266.out 0; have hfz14_1 := blk_frozen BK266.out 1; have hfz14_2 := blk_frozen BK266.out 2))
   go_ret
   exact ⟨by first | rfl | (simp [errW_none, errW_some] <;> rfl) | (simp [*, errW_none, errW_some] <;> rfl), by repeat (first | (with_reducible first | exact HB.out | apply below_alloc | apply pw_below_drewN | apply below_drew1 | refine below_set ?_ GE266.out) | exact HB.out)⟩
end Go.Proofs.Ytoncacdehhmpaaa.P
namespace Go.Proofs.Ytoncacdehhmpaaa.P
open Go.RowKit Go.Proofs.YtoncacdehhmpaaaW.PrintWords Go.Proofs.YtoncacdehhmpaaaW.PrintLast Go.Proofs.YtoncacdehhmpaaaW.PrintMore
attribute [local go_sem] max2_int min2_int max_two min_two max_three min_three max_four min_four
set_option linter.unusedVariables false
set_option linter.unusedSimpArgs false
def goodValueB (v : S104) : Bool := (impl_Value_good.f v.f0 v.f1 v.f2).getD false
theorem goodValueB_some (v : S104) : impl_Value_good.f v.f0 v.f1 v.f2 = some (goodValueB v) := by
 unfold goodValueB
 have : ∃ r, impl_Value_good.f v.f0 v.f1 v.f2 = some r := by
  unfold impl_Value_good.f
  simp only [impl_goodSym.f, Option.bind_some]
  repeat' split
  all_goals exact ⟨_, rfl⟩
 obtain ⟨r, hr⟩ := this
 rw [hr]; rfl
open Go.Proofs.YtoncacdehhmpaaaX in
set_option maxHeartbeats 2000000 in
set_option maxRecDepth 100000 in
theorem badValue.calls (v : S104) (w : World) :
  Calls Try.prog 141 (#[encValue v] ++ #[]) w fun e w' => e = .returned (.bool (!goodValueB v)) ∧ Below w.heap.size w w' := by
 have hu := Try.underlying104
 have HB := Aside0.mk (Below.refl w.heap.size w)
 have ea : #[encValue v] ++ #[] = #[.agg #[.int .i64 (v).f0, .int .i64 (v).f1, .string (v).f2]] := rfl
 rw [ea]
 clear ea
 have hg := goodValueB_some v
 have HG := Aside0.mk hg
 clear hg
 go_enter Try.func141, Try.ntmps141
 go_wp2_with (go_at_call 142; refine (impl_Value_good.calls _ _ _ _ _ HG.out).mono ?_; rintro e w' ⟨rfl, hd⟩)
 go_ret
 exact ⟨rfl, Below.trans (by repeat (first | exact HB.out | apply below_alloc)) (hd.mono (by simp))⟩
def goodSlotsB (vs : List S104) : Bool := decide (vs.length ≤ 6) && vs.all goodValueB
def impl_goodSlots.f (l0 : List S104) : Option Bool := some (goodSlotsB l0)
open Go.Proofs.YtoncacdehhmpaaaX in
set_option maxHeartbeats 2000000 in
set_option maxRecDepth 100000 in
theorem impl_goodSlots.calls (A0 : Option Addr) (c0 : Nat) (l0 : List S104) (r : Bool) (w : World) (hr0 : Kd.C k104 w A0 l0.length l0) (hc0 : l0.length ≤ c0) (h : impl_goodSlots.f l0 = some r) :
  Calls Try.prog 110 #[.slice A0 l0.length c0] w fun e w' => e = .returned (.bool r) ∧ Below w.heap.size w w' := by
 have h := Option.some.inj h
 subst h
 have HB := Aside0.mk (Below.refl w.heap.size w)
 have HR := Aside0.mk hr0
 have HC := Aside0.mk hc0
 clear hr0 hc0
 by_cases h1 : l0.length ≤ 6
 ·have q1 : decide ((l0.length : Int) ≤ 6) = true := decide_eq_true (by omega)
  have hm : l0.length ≤ bigN := by unfold bigN; omega
  have hv : goodSlotsB l0 = !(l0.any fun v => !goodValueB v) := by
   unfold goodSlotsB
   rw [decide_eq_true h1, Bool.true_and, List.not_any_eq_all_not]
   congr 1
   funext v
   simp
  rw [hv]
  clear h1 hv
  have hcall := containsValue.calls 141 #[] (enters_of Try.func141 (by kernel_rfl) rfl) (fun v => !goodValueB v) A0 c0 l0 w HR.out HC.out hm (fun W x _ _ => badValue.calls x W)
  have HH := Aside0.mk hcall
  clear hcall
  go_enter Try.func110, Try.ntmps110
  go_wp2_with (go_at_call 140; refine HH.out.mono ?_; rintro e w' ⟨rfl, hd⟩)
  go_ret
  exact ⟨rfl, hd⟩
 ·have q1 : decide ((l0.length : Int) ≤ 6) = false := decide_eq_false (by omega)
  have hv : goodSlotsB l0 = false := by unfold goodSlotsB; rw [decide_eq_false h1, Bool.false_and]
  rw [hv]
  clear h1 hv
  go_enter Try.func110, Try.ntmps110
  go_wp2
  go_ret
  exact ⟨rfl, HB.out⟩
end Go.Proofs.Ytoncacdehhmpaaa.P
namespace Go.Proofs.Ytoncacdehhmpaaa.P
open Go.RowKit Go.Proofs.YtoncacdehhmpaaaW.PrintWords Go.Proofs.YtoncacdehhmpaaaW.PrintLast Go.Proofs.YtoncacdehhmpaaaW.PrintMore
attribute [local go_sem] max2_int min2_int max_two min_two max_three min_three max_four min_four
set_option linter.unusedVariables false
set_option linter.unusedSimpArgs false
def impl_goodFacts.l0 : Nat → List (S38) → Int → List (S38) → Int → Int → Option (Bool)
 | 0, _, _, _, _, _ => none
 | k + 1, x0, x3, x6, x7, x8 => if x8 < x7 then (if 0 ≤ x8 then (if x8 < (x6.length : Int) then (if ((rd_T38 x6 x8).f0) ≤ x3 then (some false) else (if ((rd_T38 x6 x8).f0) > 1000000 then (some false) else ((impl_goodSym.f ((rd_T38 x6 x8).f1)).bind fun t270 => (if t270 = true then ((impl_goodSlots.f ((rd_T38 x6 x8).f2)).bind fun t271 => (if t271 = true then (impl_goodFacts.l0 k x0 ((rd_T38 x6 x8).f0) x6 x7 (wrap64 (x8 + 1))) else (some false))) else (some false))))) else (none)) else (none)) else (some (decide ((x0.length : Int) ≤ 40)))
def impl_goodFacts.f (k : Nat) (l0 : List (S38)) : Option (Bool) := impl_goodFacts.l0 k l0 0 l0 (l0.length : Int) 0
theorem impl_goodFacts.mono_l : ∀ k, (∀ y0 y1 y2 y3 y4, LeO (impl_goodFacts.l0 k y0 y1 y2 y3 y4) (impl_goodFacts.l0 (k + 1) y0 y1 y2 y3 y4))
 | 0 => fun _ _ _ _ _ r h => by simp [impl_goodFacts.l0] at h
 | k + 1 => by
  have ih0 := impl_goodFacts.mono_l k
  ·intro y0 y1 y2 y3 y4
   unfold impl_goodFacts.l0
   repeat' first
   | (with_reducible exact ih0 _ _ _ _ _)
   | (with_reducible exact LeO.refl _)
   | (with_reducible exact LeO.none _)
   | (with_reducible refine LeO.ite ?_ ?_)
   | (with_reducible refine LeO.bind ?_ (fun _ => ?_))
   | exact ih0 _ _ _ _ _
   | exact LeO.none _
   | refine LeO.ite ?_ ?_
   | refine LeO.bind ?_ (fun _ => ?_)
theorem impl_goodFacts.mono : ∀ a0 k, LeO (impl_goodFacts.f k a0) (impl_goodFacts.f (k + 1) a0) := by
 intro a0 k
 have ih0 := impl_goodFacts.mono_l k
 unfold impl_goodFacts.f
 repeat' first
   | (with_reducible exact ih0 _ _ _ _ _)
   | (with_reducible exact LeO.refl _)
   | (with_reducible exact LeO.none _)
   | (with_reducible refine LeO.ite ?_ ?_)
   | (with_reducible refine LeO.bind ?_ (fun _ => ?_))
   | exact ih0 _ _ _ _ _
   | exact LeO.none _
   | refine LeO.ite ?_ ?_
   | refine LeO.bind ?_ (fun _ => ?_)
set_option maxHeartbeats 8000000 in
set_option maxRecDepth 100000 in
theorem impl_goodFacts.calls (k : Nat) (A0 : Option Addr) (c0 : Nat) (l0 : List (S38)) (r : Bool) (w : World) (hr0 : Kd.C k38 w A0 l0.length l0) (hc0 : l0.length ≤ c0) (h : impl_goodFacts.f k l0 = some r) :
  Calls Try.prog 68 #[.slice A0 l0.length c0] w fun e w' => e = .returned (.bool r) ∧ Below w.heap.size w w' := by
 have hu38 := Try.underlying38
 have HR0 := Aside0.mk hr0
 have HC0 := Aside0.mk hc0
 clear hr0 hc0
 have HB := Aside0.mk (Below.refl w.heap.size w)
 have H : (impl_goodFacts.l0 k l0 0 l0 (l0.length : Int) 0) = some r := h
 clear h
 have H' := Aside0.mk H
 clear H
 go_enter Try.func68, Try.ntmps68
 go_wp2
 go_loopg [3, 8] k (fun kq v3 v8 w' => ∃ (x3_1 : Int) (x8_1 : Int), v3 = .int .i64 x3_1 ∧ v8 = .int .i64 x8_1 ∧ Aside0 (impl_goodFacts.l0 kq l0 x3_1 l0 (l0.length : Int) x8_1 = some r) ∧ Aside0 (kq ≤ k) ∧ Aside0 (Below w.heap.size w w'))
 case atStart => exact ⟨(0), (0), (by first | rfl | (simp; done) | (simp [*]; done)), (by first | rfl | (simp; done) | (simp [*]; done)), H', ⟨Nat.le_refl _⟩, ⟨by repeat (first | (with_reducible first | exact HB.out | apply below_alloc | apply pw_below_drewN | apply below_drew1) | exact HB.out)⟩⟩
 case round =>
  clear H'
  obtain ⟨x3_1, x8_1, rfl, rfl, HA, HK1, HB⟩ := hrel
  cases gk with
  | zero => exact absurd HA.out (by simp [impl_goodFacts.l0])
  | succ k1 =>
   have H := HA.out
   clear HA
   simp only [impl_goodFacts.l0] at H
   by_cases c2 : x8_1 < (l0.length : Int)
   ·rw [if_pos c2] at H
    have c2b0 : decide (x8_1 < (l0.length : Int)) = true := decide_eq_true c2
    clear c2
    by_cases c3 : 0 ≤ x8_1
    ·rw [if_pos c3] at H
     have c3b0 : decide (0 ≤ x8_1) = true := decide_eq_true c3
     clear c3
     by_cases c4 : x8_1 < (l0.length : Int)
     ·rw [if_pos c4] at H
      have c4b0 : decide (x8_1 < (l0.length : Int)) = true := decide_eq_true c4
      clear c4
      by_cases c5 : ((rd_T38 l0 x8_1).f0) ≤ x3_1
      ·rw [if_pos c5] at H
       have c5b0 : decide (((rd_T38 l0 x8_1).f0) ≤ x3_1) = true := decide_eq_true c5
       clear c5
       obtain rfl := Option.some.inj H
       have p268 : 0 ≤ (x8_1 : Int) := of_decide_eq_true (by first | (with_reducible assumption) | assumption)
       have q268 : x8_1 < (l0.length : Int) := of_decide_eq_true (by first | (with_reducible assumption) | assumption)
       obtain ⟨ad268, A268_2, c268_2, e268, hx268_0, hx268_1, hx268_2, hl268_2, hi268_2⟩ := at_T38 HR0.out x8_1 p268 q268
       cases e268
       replace hx268_0 := (HB.out.cell (World.block_lt_of_cell? w _ hx268_0)).trans hx268_0
       replace hx268_1 := (HB.out.cell (World.block_lt_of_cell? w _ hx268_1)).trans hx268_1
       replace hx268_2 := (HB.out.cell (World.block_lt_of_cell? w _ hx268_2)).trans hx268_2
       have HR268_2 := Aside0.mk hi268_2
       have HC268_2 := Aside0.mk hl268_2
       clear hi268_2 hl268_2
       replace p268 := eq_true p268
       replace q268 := eq_true q268
       go_wp2_with (first | ((with_reducible refine gate_dst (N := 5) rfl ?_); refine box_event ?hg (N := 5) ?hd (cs := #[.int .i64 0, .string (⟨#[]⟩ : ByteArray), .slice none 0 0]) (t := 38) ?hr ?_; (case hd => rfl); (case hg => rfl); (case hr => first | (go_simp; done) | (go_simp; rfl)); intro gb269 hg w6 hbox hb; have n0_ := Aside0.mk (below_step (by repeat (first | (with_reducible first | exact HB.out | apply below_alloc | apply pw_below_drewN | apply below_drew1) | exact HB.out)) hb); have n1_ := Aside0.mk (hbox); have n2_ := Aside0.mk ((by rw [hg]; exact (below_size (by repeat (first | (with_reducible first | exact HB.out | apply below_alloc | apply pw_below_drewN | apply below_drew1) | exact HB.out))) : w.heap.size ≤ gb269)); have n3_ := Aside0.mk ((by rw [hg]; exact (below_size (by repeat (first | (with_reducible first | exact HB.out | apply below_alloc | apply pw_below_drewN | apply below_drew1) | exact HB.out))) : w.heap.size ≤ gb269)); clear HB; have HB := n0_; have BK269 := n1_; have GW269 := n2_; have GE269 := n3_; clear n0_ n1_ n2_ n3_; clear hb hbox hg; have hcz7_0 : w6.cell? ⟨gb269, 0, none⟩ = some (.int .i64 0) := (blk_cell BK269.out 0).trans rfl; have hcz7_1 : w6.cell? ⟨gb269, 1, none⟩ = some (.string (⟨#[]⟩ : ByteArray)) := (blk_cell BK269.out 1).trans rfl; have hcz7_2 : w6.cell? ⟨gb269, 2, none⟩ = some (.slice none 0 0) := (blk_cell BK269.out 2).trans rfl; have hfz7_0 := blk_frozen BK269.out 0; have hfz7_1 := blk_frozen BK269.out 1; have hfz7_2 := blk_frozen BK269.out 2))
       go_ret
       exact ⟨by first | rfl | (simp [errW_none, errW_some] <;> rfl) | (simp [*, errW_none, errW_some] <;> rfl), by repeat (first | (with_reducible first | exact HB.out | apply below_alloc | apply pw_below_drewN | apply below_drew1 | refine below_set ?_ GE269.out) | exact HB.out)⟩
      ·rw [if_neg c5] at H
       have c5b0 : decide (((rd_T38 l0 x8_1).f0) ≤ x3_1) = false := decide_eq_false c5
       clear c5
       by_cases c8 : ((rd_T38 l0 x8_1).f0) > 1000000
       ·rw [if_pos c8] at H
        have c8b0 : decide (1000000 < ((rd_T38 l0 x8_1).f0)) = true := decide_eq_true c8
        clear c8
        obtain rfl := Option.some.inj H
        have p268 : 0 ≤ (x8_1 : Int) := of_decide_eq_true (by first | (with_reducible assumption) | assumption)
        have q268 : x8_1 < (l0.length : Int) := of_decide_eq_true (by first | (with_reducible assumption) | assumption)
        obtain ⟨ad268, A268_2, c268_2, e268, hx268_0, hx268_1, hx268_2, hl268_2, hi268_2⟩ := at_T38 HR0.out x8_1 p268 q268
        cases e268
        replace hx268_0 := (HB.out.cell (World.block_lt_of_cell? w _ hx268_0)).trans hx268_0
        replace hx268_1 := (HB.out.cell (World.block_lt_of_cell? w _ hx268_1)).trans hx268_1
        replace hx268_2 := (HB.out.cell (World.block_lt_of_cell? w _ hx268_2)).trans hx268_2
        have HR268_2 := Aside0.mk hi268_2
        have HC268_2 := Aside0.mk hl268_2
        clear hi268_2 hl268_2
        replace p268 := eq_true p268
        replace q268 := eq_true q268
        go_wp2_with (first | ((with_reducible refine gate_dst (N := 5) rfl ?_); refine box_event ?hg (N := 5) ?hd (cs := #[.int .i64 0, .string (⟨#[]⟩ : ByteArray), .slice none 0 0]) (t := 38) ?hr ?_; (case hd => rfl); (case hg => rfl); (case hr => first | (go_simp; done) | (go_simp; rfl)); intro gb269 hg w9 hbox hb; have n0_ := Aside0.mk (below_step (by repeat (first | (with_reducible first | exact HB.out | apply below_alloc | apply pw_below_drewN | apply below_drew1) | exact HB.out)) hb); have n1_ := Aside0.mk (hbox); have n2_ := Aside0.mk ((by rw [hg]; exact (below_size (by repeat (first | (with_reducible first | exact HB.out | apply below_alloc | apply pw_below_drewN | apply below_drew1) | exact HB.out))) : w.heap.size ≤ gb269)); have n3_ := Aside0.mk ((by rw [hg]; exact (below_size (by repeat (first | (with_reducible first | exact HB.out | apply below_alloc | apply pw_below_drewN | apply below_drew1) | exact HB.out))) : w.heap.size ≤ gb269)); clear HB; have HB := n0_; have BK269 := n1_; have GW269 := n2_; have GE269 := n3_; clear n0_ n1_ n2_ n3_; clear hb hbox hg; have hcz10_0 : w9.cell? ⟨gb269, 0, none⟩ = some (.int .i64 0) := (blk_cell BK269.out 0).trans rfl; have hcz10_1 : w9.cell? ⟨gb269, 1, none⟩ = some (.string (⟨#[]⟩ : ByteArray)) := (blk_cell BK269.out 1).trans rfl; have hcz10_2 : w9.cell? ⟨gb269, 2, none⟩ = some (.slice none 0 0) := (blk_cell BK269.out 2).trans rfl; have hfz10_0 := blk_frozen BK269.out 0; have hfz10_1 := blk_frozen BK269.out 1; have hfz10_2 := blk_frozen BK269.out 2))
        go_ret
        exact ⟨by first | rfl | (simp [errW_none, errW_some] <;> rfl) | (simp [*, errW_none, errW_some] <;> rfl), by repeat (first | (with_reducible first | exact HB.out | apply below_alloc | apply pw_below_drewN | apply below_drew1 | refine below_set ?_ GE269.out) | exact HB.out)⟩
       ·rw [if_neg c8] at H
        have c8b0 : decide (1000000 < ((rd_T38 l0 x8_1).f0)) = false := decide_eq_false c8
        clear c8
        replace H := Option.bind_eq_some_iff.mp H
        obtain ⟨t270, A110, H⟩ := H
        replace H : (if t270 = true then ((impl_goodSlots.f ((rd_T38 l0 x8_1).f2)).bind fun t271 => (if t271 = true then (impl_goodFacts.l0 k1 l0 ((rd_T38 l0 x8_1).f0) l0 (l0.length : Int) (wrap64 (x8_1 + 1))) else (some false))) else (some false)) = some r := H
        have A11 := Aside0.mk A110
        clear A110
        by_cases c12 : t270 = true
        ·subst c12
         have H1 : ((impl_goodSlots.f ((rd_T38 l0 x8_1).f2)).bind fun t271 => (if t271 = true then (impl_goodFacts.l0 k1 l0 ((rd_T38 l0 x8_1).f0) l0 (l0.length : Int) (wrap64 (x8_1 + 1))) else (some false))) = some r := by first | (rw [if_pos rfl] at H; exact H) | rfl
         clear H
         have H := H1
         clear H1
         replace H := Option.bind_eq_some_iff.mp H
         obtain ⟨t271, A130, H⟩ := H
         replace H : (if t271 = true then (impl_goodFacts.l0 k1 l0 ((rd_T38 l0 x8_1).f0) l0 (l0.length : Int) (wrap64 (x8_1 + 1))) else (some false)) = some r := H
         have A13 := Aside0.mk A130
         clear A130
         by_cases c14 : t271 = true
         ·subst c14
          have H1 : (impl_goodFacts.l0 k1 l0 ((rd_T38 l0 x8_1).f0) l0 (l0.length : Int) (wrap64 (x8_1 + 1))) = some r := by first | (rw [if_pos rfl] at H; exact H) | rfl
          clear H
          have H := H1
          clear H1
          have H' := Aside0.mk H
          clear H
          have p268 : 0 ≤ (x8_1 : Int) := of_decide_eq_true (by first | (with_reducible assumption) | assumption)
          have q268 : x8_1 < (l0.length : Int) := of_decide_eq_true (by first | (with_reducible assumption) | assumption)
          obtain ⟨ad268, A268_2, c268_2, e268, hx268_0, hx268_1, hx268_2, hl268_2, hi268_2⟩ := at_T38 HR0.out x8_1 p268 q268
          cases e268
          replace hx268_0 := (HB.out.cell (World.block_lt_of_cell? w _ hx268_0)).trans hx268_0
          replace hx268_1 := (HB.out.cell (World.block_lt_of_cell? w _ hx268_1)).trans hx268_1
          replace hx268_2 := (HB.out.cell (World.block_lt_of_cell? w _ hx268_2)).trans hx268_2
          have HR268_2 := Aside0.mk hi268_2
          have HC268_2 := Aside0.mk hl268_2
          clear hi268_2 hl268_2
          replace p268 := eq_true p268
          replace q268 := eq_true q268
          go_wp2_with (first | ((with_reducible refine gate_dst (N := 5) rfl ?_); refine box_event ?hg (N := 5) ?hd (cs := #[.int .i64 0, .string (⟨#[]⟩ : ByteArray), .slice none 0 0]) (t := 38) ?hr ?_; (case hd => rfl); (case hg => rfl); (case hr => first | (go_simp; done) | (go_simp; rfl)); intro gb269 hg w15 hbox hb; have n0_ := Aside0.mk (below_step (by repeat (first | (with_reducible first | exact HB.out | apply below_alloc | apply pw_below_drewN | apply below_drew1) | exact HB.out)) hb); have n1_ := Aside0.mk (hbox); have n2_ := Aside0.mk ((by rw [hg]; exact (below_size (by repeat (first | (with_reducible first | exact HB.out | apply below_alloc | apply pw_below_drewN | apply below_drew1) | exact HB.out))) : w.heap.size ≤ gb269)); have n3_ := Aside0.mk ((by rw [hg]; exact (below_size (by repeat (first | (with_reducible first | exact HB.out | apply below_alloc | apply pw_below_drewN | apply below_drew1) | exact HB.out))) : w.heap.size ≤ gb269)); clear HB; have HB := n0_; have BK269 := n1_; have GW269 := n2_; have GE269 := n3_; clear n0_ n1_ n2_ n3_; clear hb hbox hg; have hcz16_0 : w15.cell? ⟨gb269, 0, none⟩ = some (.int .i64 0) := (blk_cell BK269.out 0).trans rfl; have hcz16_1 : w15.cell? ⟨gb269, 1, none⟩ = some (.string (⟨#[]⟩ : ByteArray)) := (blk_cell BK269.out 1).trans rfl; have hcz16_2 : w15.cell? ⟨gb269, 2, none⟩ = some (.slice none 0 0) := (blk_cell BK269.out 2).trans rfl; have hfz16_0 := blk_frozen BK269.out 0; have hfz16_1 := blk_frozen BK269.out 1; have hfz16_2 := blk_frozen BK269.out 2) | (go_at_call 109; (with_reducible refine (impl_goodSym.calls ((rd_T38 l0 x8_1).f1) true _ A11.out).mono ?_); rintro e w17 ⟨rfl, hb⟩; have n0_ := Aside0.mk (blk_below (g := gb269) (o := .cells #[.int .i64 ((rd_T38 l0 x8_1).f0), .string ((rd_T38 l0 x8_1).f1), .slice A268_2 ((rd_T38 l0 x8_1).f2).length c268_2] 38 (0, 0)) (by (with_reducible repeat (first | refine blk_drewN ?_ _ | refine blk_drew ?_ | refine blk_alloc ?_ _)); refine blk_put (cs := #[.int .i64 ((rd_T38 l0 x8_1).f0), .string ((rd_T38 l0 x8_1).f1), .slice none 0 0]) ?_ 2 _ rfl; (with_reducible repeat (first | refine blk_drewN ?_ _ | refine blk_drew ?_ | refine blk_alloc ?_ _)); refine blk_put (cs := #[.int .i64 ((rd_T38 l0 x8_1).f0), .string (⟨#[]⟩ : ByteArray), .slice none 0 0]) ?_ 1 _ rfl; (with_reducible repeat (first | refine blk_drewN ?_ _ | refine blk_drew ?_ | refine blk_alloc ?_ _)); refine blk_put (cs := #[.int .i64 0, .string (⟨#[]⟩ : ByteArray), .slice none 0 0]) ?_ 0 _ rfl; (with_reducible repeat (first | refine blk_drewN ?_ _ | refine blk_drew ?_ | refine blk_alloc ?_ _)); exact BK269.out) hb); have n1_ := Aside0.mk (below_step (by repeat (first | (with_reducible first | exact HB.out | apply below_alloc | apply pw_below_drewN | apply below_drew1 | refine below_set ?_ GE269.out) | exact HB.out)) hb); clear BK269; clear HB; have BK269 := n0_; have HB := n1_; clear n0_ n1_; (try clear hb); (try clear hb2); (try clear hk); (try clear hi); have hcz18_0 : w17.cell? ⟨gb269, 0, none⟩ = some (.int .i64 ((rd_T38 l0 x8_1).f0)) := (blk_cell BK269.out 0).trans rfl; have hcz18_1 : w17.cell? ⟨gb269, 1, none⟩ = some (.string ((rd_T38 l0 x8_1).f1)) := (blk_cell BK269.out 1).trans rfl; have hcz18_2 : w17.cell? ⟨gb269, 2, none⟩ = some (.slice A268_2 ((rd_T38 l0 x8_1).f2).length c268_2) := (blk_cell BK269.out 2).trans rfl; have hfz18_0 := blk_frozen BK269.out 0; have hfz18_1 := blk_frozen BK269.out 1; have hfz18_2 := blk_frozen BK269.out 2) | (go_at_call 110; (with_reducible refine (impl_goodSlots.calls _ _ ((rd_T38 l0 x8_1).f2) true _ ?side1 ?side2 A13.out).mono ?_); (case side1 => repeat (first | exact (Kd.C_below HR268_2.out HB.out) | (with_reducible refine Kd.C_alloc ?_ _) | (with_reducible refine Kd.C_drewN ?_ _) | (with_reducible refine Kd.C_drew ?_))); (case side2 => exact HC268_2.out); rintro e w19 ⟨rfl, hb⟩; have n0_ := Aside0.mk (blk_below (g := gb269) (o := .cells #[.int .i64 ((rd_T38 l0 x8_1).f0), .string ((rd_T38 l0 x8_1).f1), .slice A268_2 ((rd_T38 l0 x8_1).f2).length c268_2] 38 (0, 0)) (by (with_reducible repeat (first | refine blk_drewN ?_ _ | refine blk_drew ?_ | refine blk_alloc ?_ _)); exact BK269.out) hb); have n1_ := Aside0.mk (below_step (by repeat (first | (with_reducible first | exact HB.out | apply below_alloc | apply pw_below_drewN | apply below_drew1 | refine below_set ?_ GE269.out) | exact HB.out)) hb); clear BK269; clear HB; have BK269 := n0_; have HB := n1_; clear n0_ n1_; (try clear hb); (try clear hb2); (try clear hk); (try clear hi); have hcz20_0 : w19.cell? ⟨gb269, 0, none⟩ = some (.int .i64 ((rd_T38 l0 x8_1).f0)) := (blk_cell BK269.out 0).trans rfl; have hcz20_1 : w19.cell? ⟨gb269, 1, none⟩ = some (.string ((rd_T38 l0 x8_1).f1)) := (blk_cell BK269.out 1).trans rfl; have hcz20_2 : w19.cell? ⟨gb269, 2, none⟩ = some (.slice A268_2 ((rd_T38 l0 x8_1).f2).length c268_2) := (blk_cell BK269.out 2).trans rfl; have hfz20_0 := blk_frozen BK269.out 0; have hfz20_1 := blk_frozen BK269.out 1; have hfz20_2 := blk_frozen BK269.out 2))
          go_roundg k1
          case measure => have := HK1.out; omega
          case rel => exact ⟨((rd_T38 l0 x8_1).f0), (wrap64 (x8_1 + 1)), (by first | rfl | (simp; done) | (simp [*]; done)), (by first | rfl | (simp; done) | (simp [*]; done)), H', ⟨by have := HK1.out; omega⟩, ⟨by repeat (first | (with_reducible first | exact HB.out | apply below_alloc | apply pw_below_drewN | apply below_drew1 | refine below_set ?_ GE269.out) | exact HB.out)⟩⟩
         ·replace c14 := Bool.eq_false_iff.mpr c14
          subst c14
          have H1 : (some false) = some r := by first | (rw [if_neg (show ¬ (false = true) by decide)] at H; exact H) | rfl
          clear H
          have H := H1
          clear H1
          obtain rfl := Option.some.inj H
          have p268 : 0 ≤ (x8_1 : Int) := of_decide_eq_true (by first | (with_reducible assumption) | assumption)
          have q268 : x8_1 < (l0.length : Int) := of_decide_eq_true (by first | (with_reducible assumption) | assumption)
          obtain ⟨ad268, A268_2, c268_2, e268, hx268_0, hx268_1, hx268_2, hl268_2, hi268_2⟩ := at_T38 HR0.out x8_1 p268 q268
          cases e268
          replace hx268_0 := (HB.out.cell (World.block_lt_of_cell? w _ hx268_0)).trans hx268_0
          replace hx268_1 := (HB.out.cell (World.block_lt_of_cell? w _ hx268_1)).trans hx268_1
          replace hx268_2 := (HB.out.cell (World.block_lt_of_cell? w _ hx268_2)).trans hx268_2
          have HR268_2 := Aside0.mk hi268_2
          have HC268_2 := Aside0.mk hl268_2
          clear hi268_2 hl268_2
          replace p268 := eq_true p268
          replace q268 := eq_true q268
          go_wp2_with (first | ((with_reducible refine gate_dst (N := 5) rfl ?_); refine box_event ?hg (N := 5) ?hd (cs := #[.int .i64 0, .string (⟨#[]⟩ : ByteArray), .slice none 0 0]) (t := 38) ?hr ?_; (case hd => rfl); (case hg => rfl); (case hr => first | (go_simp; done) | (go_simp; rfl)); intro gb269 hg w21 hbox hb; have n0_ := Aside0.mk (below_step (by repeat (first | (with_reducible first | exact HB.out | apply below_alloc | apply pw_below_drewN | apply below_drew1) | exact HB.out)) hb); have n1_ := Aside0.mk (hbox); have n2_ := Aside0.mk ((by rw [hg]; exact (below_size (by repeat (first | (with_reducible first | exact HB.out | apply below_alloc | apply pw_below_drewN | apply below_drew1) | exact HB.out))) : w.heap.size ≤ gb269)); have n3_ := Aside0.mk ((by rw [hg]; exact (below_size (by repeat (first | (with_reducible first | exact HB.out | apply below_alloc | apply pw_below_drewN | apply below_drew1) | exact HB.out))) : w.heap.size ≤ gb269)); clear HB; have HB := n0_; have BK269 := n1_; have GW269 := n2_; have GE269 := n3_; clear n0_ n1_ n2_ n3_; clear hb hbox hg; have hcz22_0 : w21.cell? ⟨gb269, 0, none⟩ = some (.int .i64 0) := (blk_cell BK269.out 0).trans rfl; have hcz22_1 : w21.cell? ⟨gb269, 1, none⟩ = some (.string (⟨#[]⟩ : ByteArray)) := (blk_cell BK269.out 1).trans rfl; have hcz22_2 : w21.cell? ⟨gb269, 2, none⟩ = some (.slice none 0 0) := (blk_cell BK269.out 2).trans rfl; have hfz22_0 := blk_frozen BK269.out 0; have hfz22_1 := blk_frozen BK269.out 1; have hfz22_2 := blk_frozen BK269.out 2) | (go_at_call 109; (with_reducible refine (impl_goodSym.calls ((rd_T38 l0 x8_1).f1) true _ A11.out).mono ?_); rintro e w23 ⟨rfl, hb⟩; have n0_ := Aside0.mk (blk_below (g := gb269) (o := .cells #[.int .i64 ((rd_T38 l0 x8_1).f0), .string ((rd_T38 l0 x8_1).f1), .slice A268_2 ((rd_T38 l0 x8_1).f2).length c268_2] 38 (0, 0)) (by (with_reducible repeat (first | refine blk_drewN ?_ _ | refine blk_drew ?_ | refine blk_alloc ?_ _)); refine blk_put (cs := #[.int .i64 ((rd_T38 l0 x8_1).f0), .string ((rd_T38 l0 x8_1).f1), .slice none 0 0]) ?_ 2 _ rfl; (with_reducible repeat (first | refine blk_drewN ?_ _ | refine blk_drew ?_ | refine blk_alloc ?_ _)); refine blk_put (cs := #[.int .i64 ((rd_T38 l0 x8_1).f0), .string (⟨#[]⟩ : ByteArray), .slice none 0 0]) ?_ 1 _ rfl; (with_reducible repeat (first | refine blk_drewN ?_ _ | refine blk_drew ?_ | refine blk_alloc ?_ _)); refine blk_put (cs := #[.int .i64 0, .string (⟨#[]⟩ : ByteArray), .slice none 0 0]) ?_ 0 _ rfl; (with_reducible repeat (first | refine blk_drewN ?_ _ | refine blk_drew ?_ | refine blk_alloc ?_ _)); exact BK269.out) hb); have n1_ := Aside0.mk (below_step (by repeat (first | (with_reducible first | exact HB.out | apply below_alloc | apply pw_below_drewN | apply below_drew1 | refine below_set ?_ GE269.out) | exact HB.out)) hb); clear BK269; clear HB; have BK269 := n0_; have HB := n1_; clear n0_ n1_; (try clear hb); (try clear hb2); (try clear hk); (try clear hi); have hcz24_0 : w23.cell? ⟨gb269, 0, none⟩ = some (.int .i64 ((rd_T38 l0 x8_1).f0)) := (blk_cell BK269.out 0).trans rfl; have hcz24_1 : w23.cell? ⟨gb269, 1, none⟩ = some (.string ((rd_T38 l0 x8_1).f1)) := (blk_cell BK269.out 1).trans rfl; have hcz24_2 : w23.cell? ⟨gb269, 2, none⟩ = some (.slice A268_2 ((rd_T38 l0 x8_1).f2).length c268_2) := (blk_cell BK269.out 2).trans rfl; have hfz24_0 := blk_frozen BK269.out 0; have hfz24_1 := blk_frozen BK269.out 1; have hfz24_2 := blk_frozen BK269.out 2) | (go_at_call 110; (with_reducible refine (impl_goodSlots.calls _ _ ((rd_T38 l0 x8_1).f2) false _ ?side1 ?side2 A13.out).mono ?_); (case side1 => repeat (first | exact (Kd.C_below HR268_2.out HB.out) | (with_reducible refine Kd.C_alloc ?_ _) | (with_reducible refine Kd.C_drewN ?_ _) | (with_reducible refine Kd.C_drew ?_))); (case side2 => exact HC268_2.out); rintro e w25 ⟨rfl, hb⟩; have n0_ := Aside0.mk (blk_below (g := gb269) (o := .cells #[.int .i64 ((rd_T38 l0 x8_1).f0), .string ((rd_T38 l0 x8_1).f1), .slice A268_2 ((rd_T38 l0 x8_1).f2).length c268_2] 38 (0, 0)) (by (with_reducible repeat (first | refine blk_drewN ?_ _ | refine blk_drew ?_ | refine blk_alloc ?_ _)); exact BK269.out) hb); have n1_ := Aside0.mk (below_step (by repeat (first | (with_reducible first | exact HB.out | apply below_alloc | apply pw_below_drewN | apply below_drew1 | refine below_set ?_ GE269.out) | exact HB.out)) hb); clear BK269; clear HB; have BK269 := n0_; have HB := n1_; clear n0_ n1_; (try clear hb); (try clear hb2); (try clear hk); (try clear hi)))
          go_ret
          exact ⟨by first | rfl | (simp [errW_none, errW_some] <;> rfl) | (simp [*, errW_none, errW_some] <;> rfl), by repeat (first | (with_reducible first | exact HB.out | apply below_alloc | apply pw_below_drewN | apply below_drew1 | refine below_set ?_ GE269.out) | exact HB.out)⟩
        ·replace c12 := Bool.eq_false_iff.mpr c12
         subst c12
         have H1 : (some false) = some r := by first | (rw [if_neg (show ¬ (false = true) by decide)] at H; exact H) | rfl
         clear H
         have H := H1
         clear H1
         obtain rfl := Option.some.inj H
         have p268 : 0 ≤ (x8_1 : Int) := of_decide_eq_true (by first | (with_reducible assumption) | assumption)
         have q268 : x8_1 < (l0.length : Int) := of_decide_eq_true (by first | (with_reducible assumption) | assumption)
         obtain ⟨ad268, A268_2, c268_2, e268, hx268_0, hx268_1, hx268_2, hl268_2, hi268_2⟩ := at_T38 HR0.out x8_1 p268 q268
         cases e268
         replace hx268_0 := (HB.out.cell (World.block_lt_of_cell? w _ hx268_0)).trans hx268_0
         replace hx268_1 := (HB.out.cell (World.block_lt_of_cell? w _ hx268_1)).trans hx268_1
         replace hx268_2 := (HB.out.cell (World.block_lt_of_cell? w _ hx268_2)).trans hx268_2
         have HR268_2 := Aside0.mk hi268_2
         have HC268_2 := Aside0.mk hl268_2
         clear hi268_2 hl268_2
         replace p268 := eq_true p268
         replace q268 := eq_true q268
         go_wp2_with (first | ((with_reducible refine gate_dst (N := 5) rfl ?_); refine box_event ?hg (N := 5) ?hd (cs := #[.int .i64 0, .string (⟨#[]⟩ : ByteArray), .slice none 0 0]) (t := 38) ?hr ?_; (case hd => rfl); (case hg => rfl); (case hr => first | (go_simp; done) | (go_simp; rfl)); intro gb269 hg w26 hbox hb; have n0_ := Aside0.mk (below_step (by repeat (first | (with_reducible first | exact HB.out | apply below_alloc | apply pw_below_drewN | apply below_drew1) | exact HB.out)) hb); have n1_ := Aside0.mk (hbox); have n2_ := Aside0.mk ((by rw [hg]; exact (below_size (by repeat (first | (with_reducible first | exact HB.out | apply below_alloc | apply pw_below_drewN | apply below_drew1) | exact HB.out))) : w.heap.size ≤ gb269)); have n3_ := Aside0.mk ((by rw [hg]; exact (below_size (by repeat (first | (with_reducible first | exact HB.out | apply below_alloc | apply pw_below_drewN | apply below_drew1) | exact HB.out))) : w.heap.size ≤ gb269)); clear HB; have HB := n0_; have BK269 := n1_; have GW269 := n2_; have GE269 := n3_; clear n0_ n1_ n2_ n3_; clear hb hbox hg; have hcz27_0 : w26.cell? ⟨gb269, 0, none⟩ = some (.int .i64 0) := (blk_cell BK269.out 0).trans rfl; have hcz27_1 : w26.cell? ⟨gb269, 1, none⟩ = some (.string (⟨#[]⟩ : ByteArray)) := (blk_cell BK269.out 1).trans rfl; have hcz27_2 : w26.cell? ⟨gb269, 2, none⟩ = some (.slice none 0 0) := (blk_cell BK269.out 2).trans rfl; have hfz27_0 := blk_frozen BK269.out 0; have hfz27_1 := blk_frozen BK269.out 1; have hfz27_2 := blk_frozen BK269.out 2) | (go_at_call 109; (with_reducible refine (impl_goodSym.calls ((rd_T38 l0 x8_1).f1) false _ A11.out).mono ?_); rintro e w28 ⟨rfl, hb⟩; have n0_ := Aside0.mk (blk_below (g := gb269) (o := .cells #[.int .i64 ((rd_T38 l0 x8_1).f0), .string ((rd_T38 l0 x8_1).f1), .slice A268_2 ((rd_T38 l0 x8_1).f2).length c268_2] 38 (0, 0)) (by (with_reducible repeat (first | refine blk_drewN ?_ _ | refine blk_drew ?_ | refine blk_alloc ?_ _)); refine blk_put (cs := #[.int .i64 ((rd_T38 l0 x8_1).f0), .string ((rd_T38 l0 x8_1).f1), .slice none 0 0]) ?_ 2 _ rfl; (with_reducible repeat (first | refine blk_drewN ?_ _ | refine blk_drew ?_ | refine blk_alloc ?_ _)); refine blk_put (cs := #[.int .i64 ((rd_T38 l0 x8_1).f0), .string (⟨#[]⟩ : ByteArray), .slice none 0 0]) ?_ 1 _ rfl; (with_reducible repeat (first | refine blk_drewN ?_ _ | refine blk_drew ?_ | refine blk_alloc ?_ _)); refine blk_put (cs := #[.int .i64 0, .string (⟨#[]⟩ : ByteArray), .slice none 0 0]) ?_ 0 _ rfl; (with_reducible repeat (first | refine blk_drewN ?_ _ | refine blk_drew ?_ | refine blk_alloc ?_ _)); exact BK269.out) hb); have n1_ := Aside0.mk (below_step (by repeat (first | (with_reducible first | exact HB.out | apply below_alloc | apply pw_below_drewN | apply below_drew1 | refine below_set ?_ GE269.out) | exact HB.out)) hb); clear BK269; clear HB; have BK269 := n0_; have HB := n1_; clear n0_ n1_; (try clear hb); (try clear hb2); (try clear hk); (try clear hi)))
         go_ret
         exact ⟨by first | rfl | (simp [errW_none, errW_some] <;> rfl) | (simp [*, errW_none, errW_some] <;> rfl), by repeat (first | (with_reducible first | exact HB.out | apply below_alloc | apply pw_below_drewN | apply below_drew1 | refine below_set ?_ GE269.out) | exact HB.out)⟩
     ·rw [if_neg c4] at H
      exact absurd H (by simp)
    ·rw [if_neg c3] at H
     exact absurd H (by simp)
   ·rw [if_neg c2] at H
    have c2b0 : decide (x8_1 < (l0.length : Int)) = false := decide_eq_false c2
    clear c2
    obtain rfl := Option.some.inj H
    go_wp2
    go_ret
    exact ⟨by first | rfl | (simp [errW_none, errW_some] <;> rfl) | (simp [*, errW_none, errW_some] <;> rfl), by repeat (first | (with_reducible first | exact HB.out | apply below_alloc | apply pw_below_drewN | apply below_drew1) | exact HB.out)⟩
end Go.Proofs.Ytoncacdehhmpaaa.P
namespace Go.Proofs.YtoncacdehhmpaaaX
open Go Go.RowKit Go.Proofs.YtoncacdehhmpaaaW.PrintWords
set_option linter.unusedVariables false
set_option linter.unusedSimpArgs false
theorem run_copy_rows (P : Program) (w : World) (dT sT ty elem : TypeId) (g o dLen dCap : Nat) (a : Addr) (sLen sCap sz n : Nat) (cur : Array Value) (t : TypeId) (cs : List Value)
    (hu : P.underlying dT = some (.slice elem)) (hs : (P.info? elem).map (·.size) = some sz)
    (hg : w.heap[g]? = some (.cells cur t (0, 0))) (hn : n = Nat.min sLen dLen) (hl : cs.length = n * sz)
    (hsrc : ∀ j v, cs[j]? = some v → w.cell? (a.add j) = some v) (hfit : o + cs.length ≤ cur.size) (h1 : ∀ v ∈ cs, v.oneCell' = true) :
    (Builtin.copy_ #[dT, sT] ty #[.slice (some ⟨g, o, none⟩) dLen dCap, .slice (some a) sLen sCap]).run P w =
      .ok (goInt n) (w.setRow g (cur.toList.take o ++ cs ++ cur.toList.drop (o + cs.length)).toArray) := by
  have hll := run_loadCells_list (P := P) w a cs hsrc
  have hst := run_storeCells_at P g o t cs 0 cur w hg (by simpa using hfit) h1
  cases hq : P.info? elem with
  | none => simp [hq] at hs
  | some i =>
    have hi : i.size = sz := by simpa [hq] using hs
    simp [Builtin.copy_, run_underlying hu, Builtin.lenOf, Builtin.firstCells, sizeOf, typeInfo, hq, hi, ← hn, ← hl, hll, hst]
theorem run_copy_none (P : Program) (w : World) (dT sT ty elem : TypeId) (a : Addr) (dLen dCap c : Nat) (hu : P.underlying dT = some (.slice elem)) (hs : ((P.info? elem).map (·.size)).isSome = true) :
    (Builtin.copy_ #[dT, sT] ty #[.slice (some a) dLen dCap, .slice none 0 c]).run P w = .ok (goInt 0) w := by
  cases hq : P.info? elem with
  | none => simp [hq] at hs
  | some i => simp [Builtin.copy_, run_underlying hu, Builtin.lenOf, Builtin.firstCells, sizeOf, typeInfo, hq, storeCells]
theorem wpList_copy_rows {P : Program} {w : World} {ops : Array Oper} {rest : List Oper} {o : Oper} {a : Act} {Q : Exit → Act → World → Prop} (hgd : o.guard = none) (d s : Operand) (dT sT : TypeId)
    (ho : o.op = .call { callee := .builtin .copy, args := #[d, s], argTypes := #[dT, sT] }) (vd vs : Value) (hd : a.eval d = vd) (hs : a.eval s = vs) (n : Nat) (w1 : World)
    (hrun : (Builtin.copy_ #[dT, sT] o.type #[vd, vs]).run P w = .ok (goInt n) w1) (h : wpList P ops Q rest (a.put o.dst (goInt n)) w1) : wpList P ops Q (o :: rest) a w := by
  refine wpList_plain hgd fun K hK => ?_
  unfold Oper.wp execOp
  simp only [ho, resolve, invoke, builtin, Sem.run_bind, Sem.run_pure, Result.andThen_ok, List.map_toArray, List.map_cons, List.map_nil, hd, hs, hrun]
  exact hK _ _ h
theorem wpList_copy_into {P : Program} {w : World} {ops : Array Oper} {rest : List Oper} {o : Oper} {a : Act} {Q : Exit → Act → World → Prop} (hgd : o.guard = none) (d s : Operand) (dT sT elem : TypeId)
    (ho : o.op = .call { callee := .builtin .copy, args := #[d, s], argTypes := #[dT, sT] }) (g off dLen dCap sLen sCap sz n : Nat) (ad : Addr) (cur row : Array Value) (t : TypeId) (cs : List Value)
    (hd : a.eval d = .slice (some ⟨g, off, none⟩) dLen dCap) (hs : a.eval s = .slice (some ad) sLen sCap) (hu : P.underlying dT = some (.slice elem)) (hsz : (P.info? elem).map (·.size) = some sz)
    (hg : w.heap[g]? = some (.cells cur t (0, 0))) (hn : n = Nat.min sLen dLen) (hl : cs.length = n * sz) (hsrc : ∀ j v, cs[j]? = some v → w.cell? (ad.add j) = some v) (hfit : off + cs.length ≤ cur.size) (h1 : ∀ v ∈ cs, v.oneCell' = true)
    (hrow : row = (cur.toList.take off ++ cs ++ cur.toList.drop (off + cs.length)).toArray)
    (h : ∀ w', w'.heap[g]? = some (.cells row t (0, 0)) → w.grownBy w' (some g) → wpList P ops Q rest (a.put o.dst (goInt n)) w') : wpList P ops Q (o :: rest) a w := by
  subst hrow
  refine wpList_copy_rows hgd d s dT sT ho _ _ hd hs n _ (run_copy_rows P w dT sT o.type elem g off dLen dCap ad sLen sCap sz n cur t cs hu hsz hg hn hl hsrc hfit h1) (h _ (setRow_heap w g cur _ t _ hg) ⟨rfl, rfl, rfl, by simp [World.setRow], fun k hk hne => setRow_other w g k _ (fun e => hne (by rw [e]))⟩)
theorem wpList_copy_any {P : Program} {w : World} {ops : Array Oper} {rest : List Oper} {o : Oper} {a : Act} {Q : Exit → Act → World → Prop} (hgd : o.guard = none) (d s : Operand) (dT sT elem : TypeId)
    (ho : o.op = .call { callee := .builtin .copy, args := #[d, s], argTypes := #[dT, sT] }) (g off dLen dCap sLen sCap sz n : Nat) (A : Option Addr) (cur : Array Value) (t : TypeId) (cs : List Value)
    (hd : a.eval d = .slice (some ⟨g, off, none⟩) dLen dCap) (hs : a.eval s = .slice A sLen sCap) (hu : P.underlying dT = some (.slice elem)) (hsz : (P.info? elem).map (·.size) = some sz)
    (hg : w.heap[g]? = some (.cells cur t (0, 0))) (hn : n = sLen) (hnd : sLen ≤ dLen) (hl : cs.length = n * sz) (hsrc : 0 < sLen → ∃ ad, A = some ad ∧ ∀ j v, cs[j]? = some v → w.cell? (ad.add j) = some v) (hfit : off + cs.length ≤ cur.size) (h1 : ∀ v ∈ cs, v.oneCell' = true)
    (h : ∀ w', w'.heap[g]? = some (.cells (cur.toList.take off ++ cs ++ cur.toList.drop (off + cs.length)).toArray t (0, 0)) → w.grownBy w' (some g) → wpList P ops Q rest (a.put o.dst (goInt n)) w') : wpList P ops Q (o :: rest) a w := by
  rcases A with _ | ad
  · have h0 : sLen = 0 := by
      rcases Nat.eq_zero_or_pos sLen with e | e
      · exact e
      · obtain ⟨ad, e2, _⟩ := hsrc e
        cases e2
    subst h0
    subst hn
    have e0 : cs = [] := by
      cases cs with
      | nil => rfl
      | cons x xs => simp at hl
    subst e0
    refine wpList_copy_rows hgd d s dT sT ho _ _ hd hs 0 w (run_copy_none P w dT sT o.type elem _ dLen dCap sCap hu (by rw [hsz]; rfl)) (h w ?_ (World.grownBy.but (World.grownBy.refl w none) _))
    simpa using hg
  · refine wpList_copy_into hgd d s dT sT elem ho g off dLen dCap sLen sCap sz n ad cur _ t cs hd hs hu hsz hg ?_ hl ?_ hfit h1 rfl h
    · rw [hn]; exact (Nat.min_eq_left hnd).symm
    · intro j v hj
      rcases Nat.eq_zero_or_pos sLen with e | e
      · have : cs = [] := by
          cases cs with
          | nil => rfl
          | cons x xs => rw [hn, e] at hl; simp at hl
        rw [this] at hj; cases hj
      · obtain ⟨ad', e2, h2⟩ := hsrc e
        cases e2
        exact h2 j v hj
theorem wpList_store_whole {P : Program} {w : World} {ops : Array Oper} {rest : List Oper} {o : Oper} {a : Act} {Q : Exit → Act → World → Prop} (hN : o.dst = none) (hgd : o.guard = none) (t : TypeId) (p x : Operand) (ho : o.op = .store t p x) (g : Nat) (cur cs : Array Value) (e : TypeId)
    (haddr : a.eval p = .pointer (some ⟨g, 0, none⟩)) (hx : a.eval x = .agg cs) (ht : (P.info? t).map (·.size) = some cs.size) (h1 : ∀ q ∈ cs.toList, q.oneCell' = true) (hg : w.heap[g]? = some (.cells cur e (0, 0))) (hsz : cur.size = cs.size)
    (h : ∀ w', w'.heap[g]? = some (.cells cs e (0, 0)) → w.grownBy w' (some g) → wpList P ops Q rest a w') : wpList P ops Q (o :: rest) a w := by
  have hrun := run_store_run (P := P) (w := w) (g := g) (o := 0) t (.agg cs) cs.toList hg rfl (by rw [ht]; simp) (by simp; omega) h1
  obtain ⟨cur', h2, h3, h4⟩ := setCells_row cs.toList 0 w cur hg (by simp; omega)
  have e1 : cur' = cs := by
    apply Array.toList_inj.1
    rw [h4]
    simp [hsz]
  subst e1
  have hsame := setCells_same g cur'.toList 0 w
  refine wpList_plain hgd fun K hK => ?_
  unfold Oper.wp execOp
  simp only [ho, haddr, hx, Sem.run_bind, Sem.run_pure, Result.andThen_ok, hrun]
  show K (a.put o.dst undef) _
  rw [hN]
  exact hK a _ (h _ h2 ⟨hsame.1, hsame.2.1, hsame.2.2.1, Nat.le_of_eq hsame.2.2.2.symm, fun k hk hne => setCells_far cur'.toList 0 k (fun e => hne (by rw [e]))⟩)
theorem wpList_load_whole {P : Program} {w : World} {ops : Array Oper} {rest : List Oper} {o : Oper} {a : Act} {Q : Exit → Act → World → Prop} (hgd : o.guard = none) (ty : TypeId) (x : Operand) (ho : o.op = .load ty x)
    (g : Nat) (hx : a.eval x = .pointer (some ⟨g, 0, none⟩)) (t : TypeId) (cs : Array Value) (fr : Nat × Nat) (d : TypeDesc) (hg : w.heap[g]? = some (.cells cs t fr))
    (hu : P.underlying ty = some d) (hd : (match d with | .struct _ | .array _ _ => true | _ => false) = true) (hi : (P.info? ty).map (·.size) = some cs.size)
    (h : wpList P ops Q rest (a.put o.dst (.agg cs)) w) : wpList P ops Q (o :: rest) a w :=
  wpList_plain hgd fun K hK => wp_load_row ty x ho g hx t cs fr d hg hu hd hi (hK _ _ h)
theorem blk_new1 (w : World) (o o' : Obj) : ((w.alloc o).alloc o').heap[w.heap.size + 1]? = some o' := by
  have h := blk_new (w.alloc o) o'
  rwa [show (w.alloc o).heap.size = w.heap.size + 1 by simp] at h
end Go.Proofs.YtoncacdehhmpaaaX
namespace Go.Proofs.Ytoncacdehhmpaaa.P
open Go.RowKit Go.Proofs.YtoncacdehhmpaaaW.PrintWords Go.Proofs.YtoncacdehhmpaaaW.PrintLast Go.Proofs.YtoncacdehhmpaaaW.PrintMore
attribute [local go_sem] max2_int min2_int max_two min_two max_three min_three max_four min_four
set_option linter.unusedVariables false
set_option linter.unusedSimpArgs false
open Go.Proofs.YtoncacdehhmpaaaX
def valCells (v : S104) : List Value := [.int .i64 v.f0, .int .i64 v.f1, .string v.f2]
def zeroCells : Nat → List Value
 | 0 => []
 | n + 1 => .int .i64 0 :: .int .i64 0 :: .string ⟨#[]⟩ :: zeroCells n
def shapeCells (cls : ByteArray) (vs : List S104) : List Value := .string cls :: .int .i64 vs.length :: ((vs.map valCells).flatten ++ zeroCells (6 - vs.length))
theorem row_cells {w : World} {A : Option Addr} {n : Nat} {xs : List S104} (h : Kd.C k104 w A n xs) (hp : 0 < xs.length) : ∃ ad, A = some ad ∧ ∀ (j : Nat) (u : Value), ((xs.map valCells).flatten)[j]? = some u → w.cell? (ad.add j) = some u := by
 obtain ⟨hl, hm, hn⟩ := h
 obtain ⟨ad, e, hc⟩ := hn (by omega)
 refine ⟨ad, e, ?_⟩
 intro j u hj
 have key : ∀ (ys : List S104) (i : Nat), (∀ (k : Nat) (p : S104), ys[k]? = some p → ∃ cs, cs.length = 3 ∧ k104.K w p cs ∧ ∀ q v, cs[q]? = some v → w.cell? (ad.add ((i + k) * 3 + q)) = some v) →
   ∀ (j : Nat) (u : Value), ((ys.map valCells).flatten)[j]? = some u → w.cell? (ad.add (i * 3 + j)) = some u := by
  intro ys
  induction ys with
  | nil => intro i _ j u h; cases h
  | cons y ys ih =>
   intro i hy j u h
   rw [List.map_cons, List.flatten_cons] at h
   rcases Nat.lt_or_ge j 3 with g | g
   ·rw [List.getElem?_append_left (by simpa [valCells] using g)] at h
    obtain ⟨cs, h1, h2, h3⟩ := hy 0 y rfl
    have e2 : cs = valCells y := k104_open h2
    have := h3 j u (by rw [e2]; exact h)
    simpa using this
   ·rw [List.getElem?_append_right (by simpa [valCells] using g)] at h
    have := ih (i + 1) (fun k p hk => by
     obtain ⟨cs, h1, h2, h3⟩ := hy (k + 1) p (by simpa using hk)
     exact ⟨cs, h1, h2, fun q v hq => by have := h3 q v hq; rwa [show (i + 1 + k) * 3 + q = (i + (k + 1)) * 3 + q by omega]⟩) (j - 3) u (by simpa [valCells] using h)
    rwa [show (i + 1) * 3 + (j - 3) = i * 3 + j by omega] at this
 have := key xs 0 (fun k p hk => by
  obtain ⟨cs, h1, h2, h3⟩ := hc k p hk
  exact ⟨cs, h1, h2, fun q v hq => by have := h3 q v hq; rw [Nat.zero_add]; exact this⟩) j u hj
 simpa using this
theorem valCells_length (vs : List S104) : ((vs.map valCells).flatten).length = vs.length * 3 := by
 induction vs with
 | nil => rfl
 | cons v vs ih =>
  rw [List.map_cons, List.flatten_cons, List.length_append, ih, List.length_cons]
  show 3 + vs.length * 3 = _
  omega
theorem valCells_one (vs : List S104) : ∀ q, q ∈ (vs.map valCells).flatten → q.oneCell' = true := by
 intro q hq
 obtain ⟨l, hl, hq⟩ := List.mem_flatten.1 hq
 obtain ⟨v, _, rfl⟩ := List.mem_map.1 hl
 simp only [valCells, List.mem_cons, List.not_mem_nil, or_false] at hq
 rcases hq with rfl | rfl | rfl <;> rfl
theorem zeroCells_one : ∀ n, ∀ q, q ∈ zeroCells n → q.oneCell' = true
 | 0, q, h => by cases h
 | n + 1, q, h => by
  simp only [zeroCells, List.mem_cons] at h
  rcases h with rfl | rfl | rfl | h
  ·rfl
  ·rfl
  ·rfl
  ·exact zeroCells_one n q h
theorem zeroCells_length : ∀ n, (zeroCells n).length = n * 3
 | 0 => rfl
 | n + 1 => by
  simp only [zeroCells, List.length_cons, zeroCells_length n]
  omega
theorem zeroCells_drop : ∀ n k, k ≤ n → (zeroCells n).drop (k * 3) = zeroCells (n - k)
 | n, 0, _ => by simp
 | 0, k + 1, h => absurd h (by omega)
 | n + 1, k + 1, h => by
  rw [show (k + 1) * 3 = k * 3 + 1 + 1 + 1 by omega]
  simp only [zeroCells, List.drop_succ_cons]
  rw [zeroCells_drop n k (by omega)]
  congr 1
  omega
theorem shapeCells_length (cls : ByteArray) (vs : List S104) (h : vs.length ≤ 6) : (shapeCells cls vs).length = 20 := by
 unfold shapeCells
 rw [List.length_cons, List.length_cons, List.length_append, valCells_length, zeroCells_length]
 omega
theorem shapeCells_one (cls : ByteArray) (vs : List S104) : ∀ q, q ∈ shapeCells cls vs → q.oneCell' = true := by
 intro q hq
 unfold shapeCells at hq
 simp only [List.mem_cons, List.mem_append] at hq
 rcases hq with rfl | rfl | hq | hq
 ·rfl
 ·rfl
 ·exact valCells_one vs q hq
 ·exact zeroCells_one _ q hq
theorem shape_row (cls : ByteArray) (vs : List S104) (h : vs.length ≤ 6) : ((#[.string cls, .int .i64 (vs.length : Int), .int .i64 0, .int .i64 0, .string ⟨#[]⟩, .int .i64 0, .int .i64 0, .string ⟨#[]⟩, .int .i64 0, .int .i64 0, .string ⟨#[]⟩, .int .i64 0, .int .i64 0, .string ⟨#[]⟩, .int .i64 0, .int .i64 0, .string ⟨#[]⟩, .int .i64 0, .int .i64 0, .string ⟨#[]⟩] : Array Value).toList.take 2 ++ (vs.map valCells).flatten ++ (#[.string cls, .int .i64 (vs.length : Int), .int .i64 0, .int .i64 0, .string ⟨#[]⟩, .int .i64 0, .int .i64 0, .string ⟨#[]⟩, .int .i64 0, .int .i64 0, .string ⟨#[]⟩, .int .i64 0, .int .i64 0, .string ⟨#[]⟩, .int .i64 0, .int .i64 0, .string ⟨#[]⟩, .int .i64 0, .int .i64 0, .string ⟨#[]⟩] : Array Value).toList.drop (2 + ((vs.map valCells).flatten).length)).toArray = (shapeCells cls vs).toArray := by
 have e : (#[.string cls, .int .i64 (vs.length : Int), .int .i64 0, .int .i64 0, .string ⟨#[]⟩, .int .i64 0, .int .i64 0, .string ⟨#[]⟩, .int .i64 0, .int .i64 0, .string ⟨#[]⟩, .int .i64 0, .int .i64 0, .string ⟨#[]⟩, .int .i64 0, .int .i64 0, .string ⟨#[]⟩, .int .i64 0, .int .i64 0, .string ⟨#[]⟩] : Array Value).toList = .string cls :: .int .i64 (vs.length : Int) :: zeroCells 6 := rfl
 rw [e, valCells_length, Nat.add_comm]
 unfold shapeCells
 congr 1
 simp only [List.take_succ_cons, List.take_zero, List.drop_succ_cons, List.cons_append, List.nil_append]
 rw [zeroCells_drop 6 _ h]
set_option maxHeartbeats 4000000 in
set_option maxRecDepth 100000 in
theorem impl_shapeOf.calls (cls : ByteArray) (A : Option Addr) (c : Nat) (vs : List S104) (w : World) (hr : Kd.C k104 w A vs.length vs) (hl : vs.length ≤ 6) :
  Calls Try.prog 111 #[.string cls, .slice A vs.length c] w fun e w' => e = .returned (.agg (shapeCells cls vs).toArray) ∧ Below w.heap.size w w' := by
 have HB := Aside0.mk (Below.refl w.heap.size w)
 have hu := Try.underlying170
 have hu2 := Try.underlying104
 have hu3 := Try.underlying36
 have hu4 := Try.underlying168
 have HR := Aside0.mk hr
 have HL := Aside0.mk hl
 have HU := Aside0.mk hu
 have HI : Aside0 ((Try.prog.info? 170).map (·.size) = some (shapeCells cls vs).toArray.size) := ⟨by rw [show (shapeCells cls vs).toArray.size = 20 from shapeCells_length cls vs hl]; kernel_rfl⟩
 clear hr hl
 go_enter Try.func111, Try.ntmps111
 go_wp2_with (first
  | ((with_reducible refine gate_store (t := 170) (p := 5) rfl ?_); refine wpList_store_whole rfl rfl 170 (.tmp 5) (.tmp 9) rfl (w.heap.size + 1) _ #[.string cls, .int .i64 (vs.length : Int), .int .i64 0, .int .i64 0, .string ⟨#[]⟩, .int .i64 0, .int .i64 0, .string ⟨#[]⟩, .int .i64 0, .int .i64 0, .string ⟨#[]⟩, .int .i64 0, .int .i64 0, .string ⟨#[]⟩, .int .i64 0, .int .i64 0, .string ⟨#[]⟩, .int .i64 0, .int .i64 0, .string ⟨#[]⟩] 170 rfl rfl (by kernel_rfl) ?h1 (blk_new1 _ _ _) rfl ?_; (case h1 => intro q hq; have hq2 : q ∈ Value.string cls :: .int .i64 (vs.length : Int) :: zeroCells 6 := hq; simp only [List.mem_cons] at hq2; rcases hq2 with e_ | e_ | h_; subst e_; rfl; subst e_; rfl; exact zeroCells_one 6 q h_); intro w1 h1 hg1; have B5 := Aside0.mk h1; have B4 := Aside0.mk (blk_grown (blk_alloc (blk_new w _) _) hg1 (by simp)); have HB1 : Aside0 (Below w.heap.size w w1) := ⟨(below_alloc (below_alloc HB.out _) _).grown hg1 (by simp; omega) (by intro k e; injection e with e; omega)⟩; clear h1 hg1)
  | ((with_reducible refine gate_dst (N := 13) rfl ?_); refine wpList_copy_any rfl (.tmp 11) (.tmp 12) 36 36 104 rfl (w.heap.size + 1) 2 6 6 vs.length c 3 vs.length A _ 170 (vs.map valCells).flatten rfl rfl hu3 (by kernel_rfl) B5.out rfl HL.out (valCells_length vs) ?hsrc ?hfit (valCells_one vs) ?_; (case hsrc => intro hp; obtain ⟨ad, e, h_⟩ := row_cells HR.out hp; exact ⟨ad, e, fun j v hj => (HB1.out.cell (World.block_lt_of_cell? w _ (h_ j v hj))).trans (h_ j v hj)⟩); (case hfit => rw [valCells_length]; show 2 + vs.length * 3 ≤ 20; have := HL.out; omega); intro w2 h2 hg2; rw [shape_row cls vs HL.out] at h2; have C5 := Aside0.mk h2; have C4 := Aside0.mk (blk_grown B4.out hg2 (by simp)); have HB2 : Aside0 (Below w.heap.size w w2) := ⟨HB1.out.grown hg2 HB1.out.size (by intro k e; injection e with e; omega)⟩; clear h2 hg2)
  | ((with_reducible refine gate_dst (N := 14) rfl ?_); refine wpList_load_whole rfl 170 (.tmp 5) rfl (w.heap.size + 1) rfl 170 _ (0, 0) _ C5.out HU.out rfl HI.out ?_)
  | ((with_reducible refine gate_store (t := 170) (p := 4) rfl ?_); refine wpList_store_whole rfl rfl 170 (.tmp 4) (.tmp 14) rfl w.heap.size _ (shapeCells cls vs).toArray 170 rfl rfl HI.out (by intro q hq; exact shapeCells_one cls vs q (by simpa using hq)) C4.out ?hsz ?_; (case hsz => show 20 = _; exact (shapeCells_length cls vs HL.out).symm); intro w3 h3 hg3; have D4 := Aside0.mk h3; have HB3 : Aside0 (Below w.heap.size w w3) := ⟨HB2.out.grown hg3 HB2.out.size (by intro k e; injection e with e; omega)⟩; clear h3 hg3))
 refine bodyPost_ret (results_cell_row rfl _ _ w.heap.size 170 _ (0, 0) _ rfl D4.out HU.out rfl HI.out) rfl ?_
 exact ⟨rfl, HB3.out⟩
end Go.Proofs.Ytoncacdehhmpaaa.P
namespace Go.Proofs.YtoncacdehhmpaaaX
open Go.RowKit Go.Proofs.YtoncacdehhmpaaaW.PrintWords
set_option linter.unusedVariables false
set_option linter.unusedSimpArgs false
theorem Ev.ifT {α : Type} {c : Prop} [Decidable c] {f g : Nat → Option α} {r : α} (h : c) (k : Ev f r) : Ev (fun n => if c then f n else g n) r := by
  obtain ⟨K, k⟩ := k
  exact ⟨K, fun n hn => (if_pos h).trans (k n hn)⟩
theorem Ev.ifF {α : Type} {c : Prop} [Decidable c] {f g : Nat → Option α} {r : α} (h : ¬ c) (k : Ev g r) : Ev (fun n => if c then f n else g n) r := by
  obtain ⟨K, k⟩ := k
  exact ⟨K, fun n hn => (if_neg h).trans (k n hn)⟩
theorem Ev.ite {α : Type} {c : Prop} [Decidable c] {f g : Nat → Option α} {r : α} (h1 : c → Ev f r) (h2 : ¬ c → Ev g r) : Ev (fun n => if c then f n else g n) r := by
  by_cases h : c
  · exact Ev.ifT h (h1 h)
  · exact Ev.ifF h (h2 h)
theorem Ev.bindS {α β : Type} {f : Nat → α → Option β} {a : α} {r : β} (k : Ev (fun n => f n a) r) : Ev (fun n => (some a).bind (f n)) r := k
theorem Ev.bindE {α β : Type} {g : Option α} {f : Nat → α → Option β} {a : α} {r : β} (h : g = some a) (k : Ev (fun n => f n a) r) : Ev (fun n => g.bind (f n)) r := by
  subst h
  exact k
theorem Ev.as {α : Type} {g : Nat → Option α} {r r' : α} (h : Ev g r) (e : r = r') : Ev g r' := e ▸ h
end Go.Proofs.YtoncacdehhmpaaaX
namespace Go.Proofs.Ytoncacdehhmpaaa.P
open Go.RowKit Go.Proofs.YtoncacdehhmpaaaW.PrintWords Go.Proofs.YtoncacdehhmpaaaW.PrintLast Go.Proofs.YtoncacdehhmpaaaW.PrintMore
attribute [local go_sem] max2_int min2_int max_two min_two max_three min_three max_four min_four
set_option linter.unusedVariables false
set_option linter.unusedSimpArgs false
open Go.Maps Go.ChangeMaps Go.WideMaps
theorem laid_ : laidOutB Try.prog = true := by kernel_rfl
theorem rowShape : 170 < Try.prog.types.size := of_decide_eq_true (by kernel_rfl)
theorem lawShape : Keyed Try.prog 170 := Keyed.of_law (deep_law_laid laid_ (m := 4) (by omega) rowShape (by kernel_rfl) (by kernel_rfl))
def okVal (v : S104) : Bool := (Lit.int .i64 v.f0).wf && ((Lit.int .i64 v.f1).wf && decide (v.f2.size ≤ maxLen))
theorem mapM_some {α β : Type} (f : α → Option β) : ∀ l : List α, (∀ x, x ∈ l → ∃ y, f x = some y) → ∃ ys, l.mapM f = some ys
 | [], _ => ⟨[], rfl⟩
 | x :: l, h => by
  obtain ⟨y, hy⟩ := h x List.mem_cons_self
  obtain ⟨ys, hys⟩ := mapM_some f l (fun z hz => h z (List.mem_cons_of_mem _ hz))
  exact ⟨y :: ys, by rw [List.mapM_cons, hy, hys]; rfl⟩
theorem cellsV : Try.prog.cellsOf 104 = 3 := by kernel_rfl
theorem cellsA : Try.prog.cellsOf 168 = 18 := by kernel_rfl
theorem cellsS : Try.prog.cellsOf 170 = 20 := by kernel_rfl
theorem cellsI : Try.prog.cellsOf 3 = 1 := by kernel_rfl
theorem cellsJ : Try.prog.cellsOf 2 = 1 := by kernel_rfl
theorem cellsB : Try.prog.cellsOf 9 = 1 := by kernel_rfl
theorem lits_int (d : Nat) (t : TypeId) (hu : Try.prog.underlying t = some (.int .i64)) (x : Int) (h : (Lit.int .i64 x).wf = true) : Try.prog.keyLits (d + 1) t [.int .i64 x] = some [.int .i64 x] := by
 simp only [Program.keyLits, hu]
 rw [if_pos (by first | exact ⟨trivial, h⟩ | exact ⟨rfl, h⟩)]
theorem lits_str (d : Nat) (s : ByteArray) (h : s.size ≤ maxLen) : Try.prog.keyLits (d + 1) 9 [.string s] = some [.string s.data.toList] := by
 simp only [Program.keyLits, Try.underlying9]
 rw [if_pos h]
theorem lits_val (d : Nat) (v : S104) (h : okVal v = true) : ∃ ls, Try.prog.keyLits (d + 2) 104 (valCells v) = some ls := by
 unfold okVal at h
 simp only [Bool.and_eq_true, decide_eq_true_eq] at h
 have e1 := lits_int d 3 Try.underlying3 v.f0 h.1
 have e2 := lits_int d 2 Try.underlying2 v.f1 h.2.1
 have e3 := lits_str d v.f2 h.2.2
 unfold Program.keyLits
 rw [Try.underlying104]
 dsimp only
 rw [if_pos ⟨by rw [cellsV]; rfl, by decide +kernel⟩]
 simp only [List.mapM_cons, List.mapM_nil, cellsI, cellsJ, cellsB, valCells, List.drop_zero, List.drop_succ_cons, List.take_succ_cons, List.take_zero, e1, e2, e3]
 exact ⟨_, rfl⟩
theorem chunk_val : ∀ (ws : List S104) (i : Nat), i < ws.length → ((((ws.map valCells).flatten).drop (i * 3)).take 3) = valCells (ws.getD i z104)
 | [], i, h => absurd h (by simp)
 | w :: ws, 0, h => by simp [valCells]
 | w :: ws, i + 1, h => by
  rw [List.map_cons, List.flatten_cons, show (i + 1) * 3 = i * 3 + 1 + 1 + 1 by omega]
  have := chunk_val ws i (by simpa using h)
  simpa [valCells] using this
theorem lits_arr (d : Nat) (ws : List S104) (hl : ws.length = 6) (h : ∀ v, v ∈ ws → okVal v = true) : ∃ ls, Try.prog.keyLits (d + 3) 168 ((ws.map valCells).flatten) = some ls := by
 unfold Program.keyLits
 rw [Try.underlying168]
 dsimp only
 rw [if_pos (by rw [cellsA, valCells_length, hl]), cellsV]
 obtain ⟨ys, hys⟩ := mapM_some (fun i => Try.prog.keyLits (d + 2) 104 ((((ws.map valCells).flatten).drop (i * 3)).take 3)) (List.range 6) (fun i hi => by
  have hi : i < 6 := by simpa using hi
  rw [chunk_val ws i (by omega)]
  exact lits_val d _ (h _ (by rw [List.getD_eq_getElem?_getD, List.getElem?_eq_getElem (by omega)]; exact List.getElem_mem _)))
 rw [hys]
 exact ⟨_, rfl⟩
theorem zeros_as : ∀ n, zeroCells n = ((List.replicate n z104).map valCells).flatten
 | 0 => rfl
 | n + 1 => by
  rw [List.replicate_succ, List.map_cons, List.flatten_cons, ← zeros_as n]
  rfl
theorem shape_key (cls : ByteArray) (vs : List S104) (hl : vs.length ≤ 6) (hc : cls.size ≤ maxLen) (h : ∀ v, v ∈ vs → okVal v = true) : ∃ kl, keyOf Try.prog 170 (.agg (shapeCells cls vs).toArray) = some kl := by
 obtain ⟨k, hk⟩ : ∃ k, Try.prog.types.size + 1 = k + 4 := ⟨Try.prog.types.size - 3, by have := rowShape; omega⟩
 obtain ⟨ls, hls⟩ := lits_arr k (vs ++ List.replicate (6 - vs.length) z104) (by simp; omega) (by
  intro v hv
  rcases List.mem_append.1 hv with g | g
  ·exact h v g
  ·rw [List.eq_of_mem_replicate g]; rfl)
 have e1 := lits_str (k + 2) cls hc
 have e2 := lits_int (k + 2) 3 Try.underlying3 (vs.length : Int) (by have h9 := wrap64_wf (vs.length : Int); rwa [show wrap64 (vs.length : Int) = vs.length by unfold wrap64; omega] at h9)
 have e3 : ((vs ++ List.replicate (6 - vs.length) z104).map valCells).flatten = (vs.map valCells).flatten ++ zeroCells (6 - vs.length) := by rw [List.map_append, List.flatten_append, zeros_as]
 rw [e3] at hls
 have hkl : ∃ l, Try.prog.keyLits (Try.prog.types.size + 1) 170 (shapeCells cls vs) = some l := by
  rw [hk]
  unfold Program.keyLits
  rw [Try.underlying170]
  dsimp only
  rw [if_pos ⟨by rw [cellsS]; exact shapeCells_length cls vs hl, by decide +kernel⟩]
  simp only [List.mapM_cons, List.mapM_nil, cellsI, cellsA, cellsB, shapeCells, List.drop_zero, List.drop_succ_cons, List.take_succ_cons, List.take_zero]
  rw [List.take_of_length_le (by rw [List.length_append, valCells_length, zeroCells_length]; omega), e1, e2, hls]
  exact ⟨_, rfl⟩
 obtain ⟨l, hl2⟩ := hkl
 refine ⟨.string (keyBytes l), ?_⟩
 unfold keyOf
 rw [Try.underlying170]
 dsimp only
 rw [if_pos, show (Value.agg (shapeCells cls vs).toArray).cells.toList = shapeCells cls vs from rfl, hl2]
 ·rfl
 ·rw [Bool.and_eq_true]
  refine ⟨by kernel_rfl, ?_⟩
  unfold Value.formed
  rw [Try.underlying170]
  simp [cellsS, shapeCells_length cls vs hl]
noncomputable def litOf (f : S38) : Lit := (keyOf Try.prog 170 (.agg (shapeCells f.f1 f.f2).toArray)).getD (.bool false)
def okFact_ (f : S38) : Bool := (Lit.int .i64 f.f0).wf && (decide (f.f1.size ≤ maxLen) && (decide (f.f2.length ≤ 6) && f.f2.all okVal))
theorem litOf_some (f : S38) (h : okFact_ f = true) : keyOf Try.prog 170 (.agg (shapeCells f.f1 f.f2).toArray) = some (litOf f) := by
 unfold okFact_ at h
 simp only [Bool.and_eq_true, decide_eq_true_eq, List.all_eq_true] at h
 obtain ⟨kl, hk⟩ := shape_key f.f1 f.f2 h.2.2.1 h.2.1 h.2.2.2
 unfold litOf
 rw [hk]
 rfl
open Classical in
noncomputable def addLit (ls : List Lit) (l : Lit) : List Lit := if l ∈ ls then ls else ls ++ [l]
noncomputable def litsTo (fs : List S38) : Nat → List Lit
 | 0 => []
 | n + 1 => addLit (litsTo fs n) (litOf (rd_T38 fs (n : Int)))
def MapL (w : World) (b n : Nat) (ls : List Lit) : Prop :=
 ∃ D : DataW Unit, w.ownsMap Try.prog 170 (plainElem Try.prog 3) b n D ∧ IsMap D ∧ Maps.size D = ls.length ∧ ∀ l, has D l = true ↔ l ∈ ls
theorem MapL.made (w : World) : MapL (w.alloc (.map #[] 0)) w.heap.size 0 [] :=
 ⟨.map [], World.ownsMap_made w _ _ _, isMap_empty, rfl, fun l => by simp [has]⟩
theorem MapL.kept {w w' : World} {b n : Nat} {ls : List Lit} {row : Option Nat} (h : MapL w b n ls) (hg : w.grownBy w' row) (hne : some b ≠ row) : MapL w' b n ls := by
 obtain ⟨D, h1, h2, h3⟩ := h
 exact ⟨D, h1.kept hg hne, h2, h3⟩
theorem MapL.lt {w : World} {b n : Nat} {ls : List Lit} (h : MapL w b n ls) : b < w.heap.size := by
 obtain ⟨D, h1, _⟩ := h
 exact h1.lt
theorem MapL.run_put {w : World} {b n : Nat} {ls : List Lit} (h : MapL w b n ls) (hn : n < maxLen) (key : Value) (kl : Lit) (hk : keyOf Try.prog 170 key = some kl) (c : Int) (hc : (Lit.int .i64 c).wf = true) :
  ∃ w', (Instr.mapUpdate 115 (.map (some b)) key (.int .i64 c)).run Try.prog w = .ok () w' ∧ MapL w' b (n + 1) (addLit ls kl) ∧ w.grownBy w' (some b) := by
 obtain ⟨D, h1, h2, h3, h4⟩ := h
 obtain ⟨w', hr, hw, ht⟩ := h1.store lawShape Try.underlying115 hn hk (plainElem_int Try.underlying3 hc)
 have hm2 : IsMap (D.put kl (.lit (.int .i64 c))) := by
  obtain ⟨es, rfl⟩ := h2
  exact ⟨_, rfl⟩
 refine ⟨w', hr, ⟨_, hw, hm2, ?_, fun l => ?_⟩, ht.grown⟩
 ·rw [size_put (h1.tidy lawShape)]
  unfold addLit
  by_cases e : has D kl = true
  ·rw [if_pos e, if_pos ((h4 kl).1 e), h3]
  ·rw [if_neg e, if_neg (fun h => e ((h4 kl).2 h)), h3]
   simp
 ·unfold addLit
  by_cases e : l = kl
  ·subst e
   rw [has_put_same h2 (lawShape.key hk)]
   split
   ·simp [*]
   ·simp
  ·rw [has_put_other e, h4 l]
   split
   ·rfl
   ·simp [e]
theorem MapL.run_len {w : World} {b n : Nat} {ls : List Lit} (h : MapL w b n ls) (ty : TypeId) : (Builtin.len_ #[115] ty #[.map (some b)]).run Try.prog w = .ok (.int .i64 (ls.length : Int)) w := by
 obtain ⟨D, h1, h2, h3, h4⟩ := h
 have := h1.len Try.underlying115 ty
 rwa [h3] at this
open Go.Proofs.YtoncacdehhmpaaaX in
set_option maxHeartbeats 4000000 in
set_option maxRecDepth 100000 in
theorem impl_Store_shapes.calls (A : Option Addr) (c : Nat) (l0 : List S38) (nx cp : Int) (sg : Bool) (w : World) (hr : Kd.C k38 w A l0.length l0) (hm : l0.length ≤ 40) (hok : ∀ f, f ∈ l0 → okFact_ f = true) :
  Calls Try.prog 69 #[.agg #[.slice A l0.length c, .int .i64 nx, .int .i64 cp, .bool sg]] w fun e w' => ∃ b n : Nat, e = .returned (.map (some b)) ∧ MapL w' b n (litsTo l0 l0.length) ∧ Below w.heap.size w w' := by
 have HB := Aside0.mk (Below.refl w.heap.size w)
 have hu := Try.underlying50
 have hu2 := Try.underlying38
 have HR := Aside0.mk hr
 have HOK := Aside0.mk hok
 clear hr hok
 go_enter Try.func69, Try.ntmps69
 have hmm := @run_makeMap Try.prog
 go_wp2
 go_loopg [10] l0.length (fun gg s10 wr => ∃ i : Nat, i ≤ l0.length ∧ l0.length - i ≤ gg ∧ s10 = .int .i64 i ∧ Aside0 (MapL wr (w.heap.size + 1) i (litsTo l0 i)) ∧ Aside0 (Below w.heap.size w wr))
 case atStart =>
  refine ⟨0, Nat.zero_le _, Nat.le_refl _, rfl, ⟨?_⟩, ⟨below_alloc (below_alloc HB.out _) _⟩⟩
  have hm0 := MapL.made (w.alloc (Obj.cells #[.slice A l0.length c, .int .i64 nx, .int .i64 cp, .bool sg] 50))
  rwa [show (w.alloc (Obj.cells #[.slice A l0.length c, .int .i64 nx, .int .i64 cp, .bool sg] 50)).heap.size = w.heap.size + 1 by simp] at hm0
 case round =>
  obtain ⟨i, hi, hgg, rfl, HM, HB1⟩ := hrel
  by_cases hlt : i < l0.length
  ·have hml := HM.out.lt
   obtain ⟨ad, A2, c2, e0, hx0, hx1, hx2, hl2, hC2⟩ := at_T38 HR.out (i : Int) (by omega) (by omega)
   cases e0
   replace hx0 := (HB1.out.cell (World.block_lt_of_cell? w _ hx0)).trans hx0
   replace hx1 := (HB1.out.cell (World.block_lt_of_cell? w _ hx1)).trans hx1
   replace hx2 := (HB1.out.cell (World.block_lt_of_cell? w _ hx2)).trans hx2
   have hz : (i : Int) < (l0.length : Int) := by omega
   have hz0 : (0 : Int) ≤ (i : Int) := by omega
   have hf : okFact_ (rd_T38 l0 (i : Int)) = true := by
    have e : rd_T38 l0 (i : Int) = l0[i] := by
     unfold rd_T38
     simp [hlt]
    rw [e]
    exact HOK.out _ (List.getElem_mem hlt)
   have hk := litOf_some _ hf
   have HC2 := Aside0.mk hC2
   simp only [Int.toNat_natCast] at hx0 hx1 hx2
   have HT : Aside0 (litsTo l0 (i + 1) = addLit (litsTo l0 i) (litOf (rd_T38 l0 (i : Int)))) := ⟨rfl⟩
   generalize rd_T38 l0 (i : Int) = f at *
   unfold okFact_ at hf
   simp only [Bool.and_eq_true, decide_eq_true_eq] at hf
   have HBR := Aside0.mk (Below.refl wr.heap.size wr)
   have HK := Aside0.mk hk
   have HF := Aside0.mk hf
   clear hk hf hC2 hl2
   go_wp2
   go_region_held3 (fun w' => w'.cell? ⟨wr.heap.size, 0, none⟩ = some (.int .i64 f.f0) ∧ w'.cell? ⟨wr.heap.size, 1, none⟩ = some (.string f.f1) ∧ w'.cell? ⟨wr.heap.size, 2, none⟩ = some (.slice A2 f.f2.length c2)) ((first | go_keep | (refine ⟨?_, ?_, ?_⟩ <;> refine HG3.out.cell ?_ (by intro e; injection e with e; simp at e; omega) <;> first | assumption | (go_simp; done)) | (refine ⟨?_, ?_, ?_⟩ <;> refine (hd.cell ?_).trans ?_ <;> first | (go_simp; done) | (go_simp; omega))))
    (first | (go_at_call 111; refine (impl_shapeOf.calls f.f1 A2 c2 f.f2 _ (Kd.C_below HC2.out (by repeat (first | exact HB1.out | apply below_alloc | apply below_drew | apply pw_below_drewN))) HF.out.2.2.1).mono ?_; rintro e w2 ⟨rfl, hd⟩; have hB2 : Below wr.heap.size wr w2 := below_step (by repeat (first | exact HBR.out | apply below_alloc | apply below_drew | apply pw_below_drewN)) hd; have HB2 : Aside0 (Below w.heap.size w w2) := ⟨below_step HB1.out hB2⟩; (obtain ⟨w3, hrun, hM3, hg3⟩ := MapL.run_put (HM.out.kept (grown_of_below hB2 none) (by simp)) (show i < maxLen by unfold maxLen; omega) _ _ HK.out f.f0 HF.out.1); have HM3 := Aside0.mk hM3; have HB3 : Aside0 (Below w.heap.size w w3) := ⟨HB2.out.grown hg3 HB2.out.size (by intro k e; injection e with e; omega)⟩; have HG3 := Aside0.mk hg3; clear hM3 hg3 hB2))
   go_wp2
   go_roundg (l0.length - (i + 1))
   case measure => omega
   case rel => exact ⟨i + 1, by omega, by omega, by go_num, ⟨by rw [HT.out]; exact HM3.out⟩, HB3⟩
  ·have hil : i = l0.length := by omega
   subst hil
   go_wp2
   go_ret
   exact ⟨_, _, rfl, HM.out, HB1.out⟩
def valEq (a b : S104) : Bool := a.f0 == b.f0 && (a.f1 == b.f1 && a.f2.toList == b.f2.toList)
def valsEq : List S104 → List S104 → Bool
 | [], [] => true
 | a :: as_, b :: bs => valEq a b && valsEq as_ bs
 | _, _ => false
def sameShape (f g : S38) : Bool := f.f1.toList == g.f1.toList && valsEq f.f2 g.f2
theorem ba_eq {a b : ByteArray} (h : a.toList = b.toList) : a = b := by
 rw [ByteArray.toList_eq, ByteArray.toList_eq] at h
 cases a with | mk x =>
 cases b with | mk y =>
 exact congrArg ByteArray.mk (Array.toList_inj.1 h)
theorem valEq_iff (a b : S104) : valEq a b = true ↔ a = b := by
 obtain ⟨a0, a1, a2⟩ := a
 obtain ⟨b0, b1, b2⟩ := b
 unfold valEq
 simp only [Bool.and_eq_true, beq_iff_eq]
 constructor
 ·rintro ⟨rfl, rfl, h⟩
  rw [ba_eq h]
 ·intro h
  injection h with h1 h2 h3
  subst h1; subst h2; subst h3
  exact ⟨rfl, rfl, rfl⟩
theorem valsEq_iff : ∀ a b : List S104, valsEq a b = true ↔ a = b
 | [], [] => by simp [valsEq]
 | [], _ :: _ => by simp [valsEq]
 | _ :: _, [] => by simp [valsEq]
 | a :: as_, b :: bs => by
  unfold valsEq
  rw [Bool.and_eq_true, valEq_iff, valsEq_iff as_ bs, List.cons.injEq]
theorem cells_inj : ∀ a b : List S104, a.length = b.length → (a.map valCells).flatten = (b.map valCells).flatten → a = b
 | [], [], _, _ => rfl
 | [], _ :: _, h, _ => absurd h (by simp)
 | _ :: _, [], h, _ => absurd h (by simp)
 | a :: as_, b :: bs, h, e => by
  rw [List.map_cons, List.map_cons, List.flatten_cons, List.flatten_cons] at e
  obtain ⟨e1, e2⟩ := List.append_inj e rfl
  have ih := cells_inj as_ bs (by simpa using h) e2
  obtain ⟨a0, a1, a2⟩ := a
  obtain ⟨b0, b1, b2⟩ := b
  simp only [valCells, List.cons.injEq, Value.int.injEq, Value.string.injEq, true_and, and_true] at e1
  rw [ih, e1.1, e1.2.1, e1.2.2]
theorem shape_inj (f g : S38) (hf : f.f2.length ≤ 6) (hg : g.f2.length ≤ 6) (h : shapeCells f.f1 f.f2 = shapeCells g.f1 g.f2) : f.f1 = g.f1 ∧ f.f2 = g.f2 := by
 unfold shapeCells at h
 injection h with h1 h
 injection h with h2 h
 injection h1 with h1
 injection h2 with _ h2
 have hl : f.f2.length = g.f2.length := by omega
 refine ⟨h1, cells_inj _ _ hl ?_⟩
 exact (List.append_inj h (by rw [valCells_length, valCells_length, hl])).1
theorem same_iff (f g : S38) (hf : okFact_ f = true) (hg : okFact_ g = true) : sameShape f g = true ↔ litOf f = litOf g := by
 have hf1 := litOf_some f hf
 have hg1 := litOf_some g hg
 have hf2 : f.f2.length ≤ 6 := by
  unfold okFact_ at hf
  simp only [Bool.and_eq_true, decide_eq_true_eq] at hf
  exact hf.2.2.1
 have hg2 : g.f2.length ≤ 6 := by
  unfold okFact_ at hg
  simp only [Bool.and_eq_true, decide_eq_true_eq] at hg
  exact hg.2.2.1
 unfold sameShape
 rw [Bool.and_eq_true, beq_iff_eq, valsEq_iff]
 constructor
 ·rintro ⟨h1, h2⟩
  unfold litOf
  rw [ba_eq h1, h2]
 ·intro h
  rw [h] at hf1
  have e := lawShape.inj hf1 hg1
  injection e with e
  have e2 := congrArg Array.toList e
  obtain ⟨e3, e4⟩ := shape_inj f g hf2 hg2 e2
  exact ⟨by rw [e3], e4⟩
theorem mem_litsTo (l : List S38) (x : Lit) : ∀ n, x ∈ litsTo l n ↔ ∃ i, i < n ∧ litOf (rd_T38 l ((i : Nat) : Int)) = x
 | 0 => by simp [litsTo]
 | n + 1 => by
  have ih := mem_litsTo l x n
  unfold litsTo addLit
  constructor
  ·intro h
   split at h
   ·obtain ⟨i, hi, e⟩ := ih.1 h
    exact ⟨i, by omega, e⟩
   ·rcases List.mem_append.1 h with h | h
    ·obtain ⟨i, hi, e⟩ := ih.1 h
     exact ⟨i, by omega, e⟩
    ·exact ⟨n, by omega, (List.mem_singleton.1 h).symm⟩
  ·rintro ⟨i, hi, e⟩
   by_cases c : i < n
   ·have := ih.2 ⟨i, c, e⟩
    split
    ·exact this
    ·exact List.mem_append_left _ this
   ·have : i = n := by omega
    subst this
    split
    ·rename_i h; rw [← e]; exact h
    ·rw [← e]; simp
theorem litsTo_le (l : List S38) : ∀ n, (litsTo l n).length ≤ n
 | 0 => Nat.le_refl _
 | n + 1 => by
  have := litsTo_le l n
  unfold litsTo addLit
  split
  ·omega
  ·rw [List.length_append, List.length_singleton]; omega
def noAlike (l : List S38) (n : Nat) : Bool := (List.range n).all fun j => (List.range j).all fun i => !sameShape (rd_T38 l ((i : Nat) : Int)) (rd_T38 l ((j : Nat) : Int))
theorem litsTo_len (l : List S38) (hok : ∀ f, f ∈ l → okFact_ f = true) : ∀ n, n ≤ l.length → ((litsTo l n).length = n ↔ noAlike l n = true)
 | 0, _ => by simp [litsTo, noAlike]
 | n + 1, hn => by
  have hin : ∀ i : Nat, i < l.length → okFact_ (rd_T38 l ((i : Nat) : Int)) = true := by
   intro i hi
   have e : rd_T38 l (i : Int) = l[i] := by
    unfold rd_T38
    simp [hi]
   rw [e]
   exact hok _ (List.getElem_mem hi)
  have ih := litsTo_len l hok n (by omega)
  have hle := litsTo_le l n
  have hmem := mem_litsTo l (litOf (rd_T38 l ((n : Nat) : Int))) n
  have hna : noAlike l (n + 1) = (noAlike l n && (List.range n).all fun i => !sameShape (rd_T38 l ((i : Nat) : Int)) (rd_T38 l ((n : Nat) : Int))) := by
   unfold noAlike
   rw [List.range_succ, List.all_append]
   simp
  have hal : ((List.range n).all fun i => !sameShape (rd_T38 l ((i : Nat) : Int)) (rd_T38 l ((n : Nat) : Int))) = true ↔ litOf (rd_T38 l ((n : Nat) : Int)) ∉ litsTo l n := by
   rw [hmem, List.all_eq_true]
   constructor
   ·rintro h ⟨i, hi, e⟩
    have := h i (List.mem_range.2 hi)
    rw [Bool.not_eq_true', ← Bool.not_eq_true, same_iff _ _ (hin i (by omega)) (hin n (by omega))] at this
    exact this e
   ·intro h i hi
    have hi := List.mem_range.1 hi
    rw [Bool.not_eq_true', ← Bool.not_eq_true, same_iff _ _ (hin i (by omega)) (hin n (by omega))]
    exact fun e => h ⟨i, hi, e⟩
  rw [hna, Bool.and_eq_true, hal, show litsTo l (n + 1) = addLit (litsTo l n) (litOf (rd_T38 l ((n : Nat) : Int))) from rfl]
  unfold addLit
  by_cases c : litOf (rd_T38 l ((n : Nat) : Int)) ∈ litsTo l n
  ·rw [if_pos c]
   constructor
   ·intro h; omega
   ·rintro ⟨_, h⟩; exact absurd c h
  ·rw [if_neg c, List.length_append, List.length_singleton]
   constructor
   ·intro h; exact ⟨ih.1 (by omega), c⟩
   ·rintro ⟨h, _⟩; have := ih.2 h; omega
end Go.Proofs.Ytoncacdehhmpaaa.P
namespace Go.Proofs.Ytoncacdehhmpaaa.P
open Go.RowKit Go.Proofs.YtoncacdehhmpaaaW.PrintWords Go.Proofs.YtoncacdehhmpaaaW.PrintLast Go.Proofs.YtoncacdehhmpaaaW.PrintMore
attribute [local go_sem] max2_int min2_int max_two min_two max_three min_three max_four min_four
set_option linter.unusedVariables false
set_option linter.unusedSimpArgs false
def impl_StoreValid.f (k : Nat) (l : List S38) (nx cp : Int) (sg : Bool) : Option Bool :=
 if cp < 0 then some false else if 40 < cp then some false else if cp < (l.length : Int) then some false else (impl_goodFacts.f k l).bind fun g =>
  if g = true then (if nx < 1 then some false else if 1000001 < nx then some false else if 0 < l.length ∧ nx ≤ (rd_T38 l ((l.length : Int) - 1)).f0 then some false else
   if sg = true then (if l.length ≤ 40 ∧ l.all okFact_ = true then some (noAlike l l.length) else none) else some true) else some false
theorem impl_StoreValid.mono : ∀ a0 a1 a2 a3 k, LeO (impl_StoreValid.f k a0 a1 a2 a3) (impl_StoreValid.f (k + 1) a0 a1 a2 a3) := by
 intro a0 a1 a2 a3 k
 unfold impl_StoreValid.f
 refine LeO.ite (LeO.refl _) (LeO.ite (LeO.refl _) (LeO.ite (LeO.refl _) (LeO.bind (impl_goodFacts.mono _ _) (fun _ => LeO.refl _))))
theorem alike_eq (l : List S38) (hok : ∀ f, f ∈ l → okFact_ f = true) : (((litsTo l l.length).length : Int) == (l.length : Int)) = noAlike l l.length := by
 rw [Bool.eq_iff_iff, beq_iff_eq, ← litsTo_len l hok _ (Nat.le_refl _)]
 omega
open Go.Proofs.YtoncacdehhmpaaaX in
set_option maxHeartbeats 8000000 in
set_option maxRecDepth 100000 in
theorem impl_StoreValid.calls (k : Nat) (A0_0 : Option Addr) (c0_0 : Nat) (l0_0 : List S38) (a0_1 a0_2 : Int) (a0_3 : Bool) (r : Bool) (w : World) (hr0_0 : Kd.C k38 w A0_0 l0_0.length l0_0) (hc0_0 : l0_0.length ≤ c0_0) (h : impl_StoreValid.f k l0_0 a0_1 a0_2 a0_3 = some r) :
  Calls Try.prog 21 #[.agg #[.slice A0_0 l0_0.length c0_0, .int .i64 a0_1, .int .i64 a0_2, .bool a0_3]] w fun e w' => e = .returned (.bool r) ∧ Below w.heap.size w w' := by
 have hu := Try.underlying50
 have hu2 := Try.underlying38
 have HB := Aside0.mk (Below.refl w.heap.size w)
 have HR := Aside0.mk hr0_0
 have HC := Aside0.mk hc0_0
 clear hr0_0 hc0_0
 unfold impl_StoreValid.f at h
 by_cases c1 : a0_2 < 0
 ·rw [if_pos c1] at h
  cases h
  have q1 : decide (a0_2 < 0) = true := decide_eq_true c1
  clear c1
  go_enter Try.func21, Try.ntmps21
  go_wp2
  go_ret
  exact ⟨rfl, by repeat (first | exact HB.out | apply below_alloc)⟩
 rw [if_neg c1] at h
 have q1 : decide (a0_2 < 0) = false := decide_eq_false c1
 clear c1
 by_cases c2 : 40 < a0_2
 ·rw [if_pos c2] at h
  cases h
  have q2 : decide (40 < a0_2) = true := decide_eq_true c2
  clear c2
  go_enter Try.func21, Try.ntmps21
  go_wp2
  go_ret
  exact ⟨rfl, by repeat (first | exact HB.out | apply below_alloc)⟩
 rw [if_neg c2] at h
 have q2 : decide (40 < a0_2) = false := decide_eq_false c2
 clear c2
 by_cases c3 : a0_2 < (l0_0.length : Int)
 ·rw [if_pos c3] at h
  cases h
  have q3 : decide (a0_2 < (l0_0.length : Int)) = true := decide_eq_true c3
  clear c3
  go_enter Try.func21, Try.ntmps21
  go_wp2
  go_ret
  exact ⟨rfl, by repeat (first | exact HB.out | apply below_alloc)⟩
 rw [if_neg c3] at h
 have q3 : decide (a0_2 < (l0_0.length : Int)) = false := decide_eq_false c3
 clear c3
 obtain ⟨g, hg, h⟩ := Option.bind_eq_some_iff.1 h
 have HG := Aside0.mk hg
 clear hg
 cases g with
 | false =>
  rw [if_neg (by simp)] at h
  cases h
  go_enter Try.func21, Try.ntmps21
  go_wp2_with (go_at_call 68; refine (impl_goodFacts.calls k _ _ l0_0 false _ (Kd.C_below HR.out (by repeat (first | exact HB.out | apply below_alloc))) HC.out HG.out).mono ?_; rintro e w1 ⟨rfl, hd⟩; have HB1 : Aside0 (Below w.heap.size w w1) := ⟨below_step (by repeat (first | exact HB.out | apply below_alloc)) hd⟩; have BN := Aside0.mk (blk_below (blk_new w _) hd); have hs1 : w.heap.size + 1 ≤ w1.heap.size := (by have h_ := hd.size; simpa using h_); have hz0 := (blk_cell BN.out 0).trans rfl; have hz1 := (blk_cell BN.out 1).trans rfl; have hz2 := (blk_cell BN.out 2).trans rfl; have hz3 := (blk_cell BN.out 3).trans rfl; simp only [List.getElem?_toArray, List.getElem?_cons_zero, List.getElem?_cons_succ] at hz0 hz1 hz2 hz3; clear hd)
  go_ret
  exact ⟨rfl, HB1.out⟩
 | true =>
 rw [if_pos rfl] at h
 by_cases c5 : a0_1 < 1
 ·rw [if_pos c5] at h
  cases h
  have q5 : decide (a0_1 < 1) = true := decide_eq_true c5
  clear c5
  go_enter Try.func21, Try.ntmps21
  go_wp2_with (go_at_call 68; refine (impl_goodFacts.calls k _ _ l0_0 true _ (Kd.C_below HR.out (by repeat (first | exact HB.out | apply below_alloc))) HC.out HG.out).mono ?_; rintro e w1 ⟨rfl, hd⟩; have HB1 : Aside0 (Below w.heap.size w w1) := ⟨below_step (by repeat (first | exact HB.out | apply below_alloc)) hd⟩; have BN := Aside0.mk (blk_below (blk_new w _) hd); have hs1 : w.heap.size + 1 ≤ w1.heap.size := (by have h_ := hd.size; simpa using h_); have hz0 := (blk_cell BN.out 0).trans rfl; have hz1 := (blk_cell BN.out 1).trans rfl; have hz2 := (blk_cell BN.out 2).trans rfl; have hz3 := (blk_cell BN.out 3).trans rfl; simp only [List.getElem?_toArray, List.getElem?_cons_zero, List.getElem?_cons_succ] at hz0 hz1 hz2 hz3; clear hd)
  go_ret
  exact ⟨rfl, HB1.out⟩
 rw [if_neg c5] at h
 have q5 : decide (a0_1 < 1) = false := decide_eq_false c5
 clear c5
 by_cases c6 : 1000001 < a0_1
 ·rw [if_pos c6] at h
  cases h
  have q6 : decide (1000001 < a0_1) = true := decide_eq_true c6
  clear c6
  go_enter Try.func21, Try.ntmps21
  go_wp2_with (go_at_call 68; refine (impl_goodFacts.calls k _ _ l0_0 true _ (Kd.C_below HR.out (by repeat (first | exact HB.out | apply below_alloc))) HC.out HG.out).mono ?_; rintro e w1 ⟨rfl, hd⟩; have HB1 : Aside0 (Below w.heap.size w w1) := ⟨below_step (by repeat (first | exact HB.out | apply below_alloc)) hd⟩; have BN := Aside0.mk (blk_below (blk_new w _) hd); have hs1 : w.heap.size + 1 ≤ w1.heap.size := (by have h_ := hd.size; simpa using h_); have hz0 := (blk_cell BN.out 0).trans rfl; have hz1 := (blk_cell BN.out 1).trans rfl; have hz2 := (blk_cell BN.out 2).trans rfl; have hz3 := (blk_cell BN.out 3).trans rfl; simp only [List.getElem?_toArray, List.getElem?_cons_zero, List.getElem?_cons_succ] at hz0 hz1 hz2 hz3; clear hd)
  go_ret
  exact ⟨rfl, HB1.out⟩
 rw [if_neg c6] at h
 have q6 : decide (1000001 < a0_1) = false := decide_eq_false c6
 clear c6
 have HW : Aside0 (l0_0.length ≤ 9223372036854775807) := ⟨HR.out.2.1⟩
 have hsum : IntKind.i64.wrap ((l0_0.length : Int) - 1) = (l0_0.length : Int) - 1 := IntWalk.i64_in _ (by have := HW.out; omega)
 by_cases c7 : 0 < l0_0.length ∧ a0_1 ≤ (rd_T38 l0_0 ((l0_0.length : Int) - 1)).f0
 ·rw [if_pos c7] at h
  cases h
  have q7 : decide ((0 : Int) < (l0_0.length : Int)) = true := decide_eq_true (by omega)
  have q7n : decide (0 < l0_0.length) = true := decide_eq_true c7.1
  have q8 : decide (a0_1 ≤ (rd_T38 l0_0 ((l0_0.length : Int) - 1)).f0) = true := decide_eq_true c7.2
  have hpos := c7.1
  clear c7
  go_enter Try.func21, Try.ntmps21
  go_wp2_with (go_at_call 68; refine (impl_goodFacts.calls k _ _ l0_0 true _ (Kd.C_below HR.out (by repeat (first | exact HB.out | apply below_alloc))) HC.out HG.out).mono ?_; rintro e w1 ⟨rfl, hd⟩; have HB1 : Aside0 (Below w.heap.size w w1) := ⟨below_step (by repeat (first | exact HB.out | apply below_alloc)) hd⟩; have BN := Aside0.mk (blk_below (blk_new w _) hd); have hs1 : w.heap.size + 1 ≤ w1.heap.size := (by have h_ := hd.size; simpa using h_); have hz0 := (blk_cell BN.out 0).trans rfl; have hz1 := (blk_cell BN.out 1).trans rfl; have hz2 := (blk_cell BN.out 2).trans rfl; have hz3 := (blk_cell BN.out 3).trans rfl; simp only [List.getElem?_toArray, List.getElem?_cons_zero, List.getElem?_cons_succ] at hz0 hz1 hz2 hz3; clear hd)
  obtain ⟨ad, A2, c2, e0, hx0, hx1, hx2, hl2, hC2⟩ := at_T38 HR.out ((l0_0.length : Int) - 1) (by omega) (by omega)
  cases e0
  rw [show ((l0_0.length : Int) - 1).toNat = l0_0.length - 1 by omega] at hx0
  replace hx0 := (HB1.out.cell (World.block_lt_of_cell? w _ hx0)).trans hx0
  have hz4 : (0 : Int) ≤ (l0_0.length : Int) - 1 := by omega
  have hz5 : (l0_0.length : Int) - 1 < (l0_0.length : Int) := by omega
  have hz6 : (1 : Int) ≤ (l0_0.length : Int) := by omega
  have hz7 : 1 ≤ l0_0.length := by omega
  have hz8 : 0 < l0_0.length := by omega
  clear hx1 hx2 hl2 hC2
  clear hpos
  go_quiet (fail)
  go_wp2
  go_ret
  exact ⟨rfl, pw_below_drewN HB1.out _⟩
 rw [if_neg c7] at h
 by_cases c8 : 0 < l0_0.length
 ·have q7 : decide ((0 : Int) < (l0_0.length : Int)) = true := decide_eq_true (by omega)
  have q7n : decide (0 < l0_0.length) = true := decide_eq_true c8
  have q8 : decide (a0_1 ≤ (rd_T38 l0_0 ((l0_0.length : Int) - 1)).f0) = false := decide_eq_false (fun hh => c7 ⟨c8, hh⟩)
  have hpos := c8
  clear c7 c8
  cases a0_3 with
  | false =>
   rw [if_neg (by simp)] at h
   cases h
   go_enter Try.func21, Try.ntmps21
   go_wp2_with (go_at_call 68; refine (impl_goodFacts.calls k _ _ l0_0 true _ (Kd.C_below HR.out (by repeat (first | exact HB.out | apply below_alloc))) HC.out HG.out).mono ?_; rintro e w1 ⟨rfl, hd⟩; have HB1 : Aside0 (Below w.heap.size w w1) := ⟨below_step (by repeat (first | exact HB.out | apply below_alloc)) hd⟩; have BN := Aside0.mk (blk_below (blk_new w _) hd); have hs1 : w.heap.size + 1 ≤ w1.heap.size := (by have h_ := hd.size; simpa using h_); have hz0 := (blk_cell BN.out 0).trans rfl; have hz1 := (blk_cell BN.out 1).trans rfl; have hz2 := (blk_cell BN.out 2).trans rfl; have hz3 := (blk_cell BN.out 3).trans rfl; simp only [List.getElem?_toArray, List.getElem?_cons_zero, List.getElem?_cons_succ] at hz0 hz1 hz2 hz3; clear hd)
   obtain ⟨ad, A2, c2, e0, hx0, hx1, hx2, hl2, hC2⟩ := at_T38 HR.out ((l0_0.length : Int) - 1) (by omega) (by omega)
   cases e0
   rw [show ((l0_0.length : Int) - 1).toNat = l0_0.length - 1 by omega] at hx0
   replace hx0 := (HB1.out.cell (World.block_lt_of_cell? w _ hx0)).trans hx0
   have hz4 : (0 : Int) ≤ (l0_0.length : Int) - 1 := by omega
   have hz5 : (l0_0.length : Int) - 1 < (l0_0.length : Int) := by omega
   have hz6 : (1 : Int) ≤ (l0_0.length : Int) := by omega
   have hz7 : 1 ≤ l0_0.length := by omega
   have hz8 : 0 < l0_0.length := by omega
   clear hx1 hx2 hl2 hC2
   clear hpos
   go_quiet (fail)
   generalize hq : w1.drewN nq = w2
   have BN2 := Aside0.mk (blk_at hq BN.out)
   have HB2 := Aside0.mk (below_at hq HB1.out)
   have hs2 : w.heap.size + 1 ≤ w2.heap.size := by subst hq; exact hs1
   clear hq hz0 hz1 hz2 hz3 hs1 BN HB1 HG
   have hy0 := (blk_cell BN2.out 0).trans rfl
   have hy1 := (blk_cell BN2.out 1).trans rfl
   have hy2 := (blk_cell BN2.out 2).trans rfl
   have hy3 := (blk_cell BN2.out 3).trans rfl
   simp only [List.getElem?_toArray, List.getElem?_cons_zero, List.getElem?_cons_succ] at hy0 hy1 hy2 hy3
   go_wp2
   go_quiet (fail)
   go_wp2
   go_ret
   exact ⟨rfl, pw_below_drewN HB2.out _⟩
  | true =>
   rw [if_pos rfl] at h
   split at h
   case isFalse => cases h
   case isTrue hok =>
   cases h
   have HOK := Aside0.mk hok
   clear hok
   go_enter Try.func21, Try.ntmps21
   go_wp2_with (go_at_call 68; refine (impl_goodFacts.calls k _ _ l0_0 true _ (Kd.C_below HR.out (by repeat (first | exact HB.out | apply below_alloc))) HC.out HG.out).mono ?_; rintro e w1 ⟨rfl, hd⟩; have HB1 : Aside0 (Below w.heap.size w w1) := ⟨below_step (by repeat (first | exact HB.out | apply below_alloc)) hd⟩; have BN := Aside0.mk (blk_below (blk_new w _) hd); have hs1 : w.heap.size + 1 ≤ w1.heap.size := (by have h_ := hd.size; simpa using h_); have hz0 := (blk_cell BN.out 0).trans rfl; have hz1 := (blk_cell BN.out 1).trans rfl; have hz2 := (blk_cell BN.out 2).trans rfl; have hz3 := (blk_cell BN.out 3).trans rfl; simp only [List.getElem?_toArray, List.getElem?_cons_zero, List.getElem?_cons_succ] at hz0 hz1 hz2 hz3; clear hd)
   obtain ⟨ad, A2, c2, e0, hx0, hx1, hx2, hl2, hC2⟩ := at_T38 HR.out ((l0_0.length : Int) - 1) (by omega) (by omega)
   cases e0
   rw [show ((l0_0.length : Int) - 1).toNat = l0_0.length - 1 by omega] at hx0
   replace hx0 := (HB1.out.cell (World.block_lt_of_cell? w _ hx0)).trans hx0
   have hz4 : (0 : Int) ≤ (l0_0.length : Int) - 1 := by omega
   have hz5 : (l0_0.length : Int) - 1 < (l0_0.length : Int) := by omega
   have hz6 : (1 : Int) ≤ (l0_0.length : Int) := by omega
   have hz7 : 1 ≤ l0_0.length := by omega
   have hz8 : 0 < l0_0.length := by omega
   clear hx1 hx2 hl2 hC2
   clear hpos
   go_quiet (fail)
   generalize hq : w1.drewN nq = w2
   have BN2 := Aside0.mk (blk_at hq BN.out)
   have HB2 := Aside0.mk (below_at hq HB1.out)
   have hs2 : w.heap.size + 1 ≤ w2.heap.size := by subst hq; exact hs1
   clear hq hz0 hz1 hz2 hz3 hs1 BN HB1 HG
   have hy0 := (blk_cell BN2.out 0).trans rfl
   have hy1 := (blk_cell BN2.out 1).trans rfl
   have hy2 := (blk_cell BN2.out 2).trans rfl
   have hy3 := (blk_cell BN2.out 3).trans rfl
   simp only [List.getElem?_toArray, List.getElem?_cons_zero, List.getElem?_cons_succ] at hy0 hy1 hy2 hy3
   go_wp2
   go_region_with (go_at_call 69; refine (impl_Store_shapes.calls _ _ l0_0 _ _ _ _ (Kd.C_below HR.out (by repeat (first | exact HB2.out | apply below_drew | apply pw_below_drewN))) HOK.out.1 (List.all_eq_true.1 HOK.out.2)).mono ?_; rintro e w3 ⟨b3, n3, rfl, hM, hd⟩; have hlen := fun ty => MapL.run_len hM ty; have HB3 : Aside0 (Below w.heap.size w w3) := ⟨below_step (by repeat (first | exact HB2.out | apply below_drew | apply pw_below_drewN)) hd⟩; have BN3 := blk_below (g := w.heap.size) (by repeat (first | exact BN2.out | refine blk_drewN ?_ _ | refine blk_drew ?_)) hd; have hw0 := (blk_cell BN3 0).trans rfl; simp only [List.getElem?_toArray, List.getElem?_cons_zero, List.getElem?_cons_succ] at hw0; clear hM BN3)
   all_goals go_wp2
   all_goals go_ret
   all_goals refine ⟨congrArg (fun x => Ending.returned (.bool x)) ?_, HB3.out⟩
   all_goals first | exact alike_eq l0_0 (List.all_eq_true.1 HOK.out.2) | (rw [← alike_eq l0_0 (List.all_eq_true.1 HOK.out.2)]; rw [Bool.eq_iff_iff]; simp)
 ·have hnil : l0_0.length = 0 := by omega
  have q7 : decide ((0 : Int) < (l0_0.length : Int)) = false := decide_eq_false (by omega)
  have q7n : decide (0 < l0_0.length) = false := decide_eq_false c8
  have HNIL := Aside0.mk hnil
  clear c7 c8 hnil hsum
  cases a0_3 with
  | false =>
   rw [if_neg (by simp)] at h
   cases h
   go_enter Try.func21, Try.ntmps21
   go_wp2_with (go_at_call 68; refine (impl_goodFacts.calls k _ _ l0_0 true _ (Kd.C_below HR.out (by repeat (first | exact HB.out | apply below_alloc))) HC.out HG.out).mono ?_; rintro e w1 ⟨rfl, hd⟩; have HB1 : Aside0 (Below w.heap.size w w1) := ⟨below_step (by repeat (first | exact HB.out | apply below_alloc)) hd⟩; have BN := Aside0.mk (blk_below (blk_new w _) hd); have hs1 : w.heap.size + 1 ≤ w1.heap.size := (by have h_ := hd.size; simpa using h_); have hz0 := (blk_cell BN.out 0).trans rfl; have hz1 := (blk_cell BN.out 1).trans rfl; have hz2 := (blk_cell BN.out 2).trans rfl; have hz3 := (blk_cell BN.out 3).trans rfl; simp only [List.getElem?_toArray, List.getElem?_cons_zero, List.getElem?_cons_succ] at hz0 hz1 hz2 hz3; clear hd)
   go_quiet (fail)
   generalize hq : w1.drewN nq = w2
   have BN2 := Aside0.mk (blk_at hq BN.out)
   have HB2 := Aside0.mk (below_at hq HB1.out)
   have hs2 : w.heap.size + 1 ≤ w2.heap.size := by subst hq; exact hs1
   clear hq hz0 hz1 hz2 hz3 hs1 BN HB1 HG
   have hy0 := (blk_cell BN2.out 0).trans rfl
   have hy1 := (blk_cell BN2.out 1).trans rfl
   have hy2 := (blk_cell BN2.out 2).trans rfl
   have hy3 := (blk_cell BN2.out 3).trans rfl
   simp only [List.getElem?_toArray, List.getElem?_cons_zero, List.getElem?_cons_succ] at hy0 hy1 hy2 hy3
   go_wp2
   go_quiet (fail)
   go_wp2
   go_ret
   exact ⟨rfl, pw_below_drewN HB2.out _⟩
  | true =>
   rw [if_pos rfl] at h
   split at h
   case isFalse => cases h
   case isTrue hok =>
   cases h
   have HOK := Aside0.mk hok
   clear hok
   go_enter Try.func21, Try.ntmps21
   go_wp2_with (go_at_call 68; refine (impl_goodFacts.calls k _ _ l0_0 true _ (Kd.C_below HR.out (by repeat (first | exact HB.out | apply below_alloc))) HC.out HG.out).mono ?_; rintro e w1 ⟨rfl, hd⟩; have HB1 : Aside0 (Below w.heap.size w w1) := ⟨below_step (by repeat (first | exact HB.out | apply below_alloc)) hd⟩; have BN := Aside0.mk (blk_below (blk_new w _) hd); have hs1 : w.heap.size + 1 ≤ w1.heap.size := (by have h_ := hd.size; simpa using h_); have hz0 := (blk_cell BN.out 0).trans rfl; have hz1 := (blk_cell BN.out 1).trans rfl; have hz2 := (blk_cell BN.out 2).trans rfl; have hz3 := (blk_cell BN.out 3).trans rfl; simp only [List.getElem?_toArray, List.getElem?_cons_zero, List.getElem?_cons_succ] at hz0 hz1 hz2 hz3; clear hd)
   go_quiet (fail)
   generalize hq : w1.drewN nq = w2
   have BN2 := Aside0.mk (blk_at hq BN.out)
   have HB2 := Aside0.mk (below_at hq HB1.out)
   have hs2 : w.heap.size + 1 ≤ w2.heap.size := by subst hq; exact hs1
   clear hq hz0 hz1 hz2 hz3 hs1 BN HB1 HG
   have hy0 := (blk_cell BN2.out 0).trans rfl
   have hy1 := (blk_cell BN2.out 1).trans rfl
   have hy2 := (blk_cell BN2.out 2).trans rfl
   have hy3 := (blk_cell BN2.out 3).trans rfl
   simp only [List.getElem?_toArray, List.getElem?_cons_zero, List.getElem?_cons_succ] at hy0 hy1 hy2 hy3
   go_wp2
   go_region_with (go_at_call 69; refine (impl_Store_shapes.calls _ _ l0_0 _ _ _ _ (Kd.C_below HR.out (by repeat (first | exact HB2.out | apply below_drew | apply pw_below_drewN))) HOK.out.1 (List.all_eq_true.1 HOK.out.2)).mono ?_; rintro e w3 ⟨b3, n3, rfl, hM, hd⟩; have hlen := fun ty => MapL.run_len hM ty; have HB3 : Aside0 (Below w.heap.size w w3) := ⟨below_step (by repeat (first | exact HB2.out | apply below_drew | apply pw_below_drewN)) hd⟩; have BN3 := blk_below (g := w.heap.size) (by repeat (first | exact BN2.out | refine blk_drewN ?_ _ | refine blk_drew ?_)) hd; have hw0 := (blk_cell BN3 0).trans rfl; simp only [List.getElem?_toArray, List.getElem?_cons_zero, List.getElem?_cons_succ] at hw0; clear hM BN3)
   all_goals go_wp2
   all_goals go_ret
   all_goals refine ⟨congrArg (fun x => Ending.returned (.bool x)) ?_, HB3.out⟩
   all_goals first | exact alike_eq l0_0 (List.all_eq_true.1 HOK.out.2) | (rw [← alike_eq l0_0 (List.all_eq_true.1 HOK.out.2)]; rw [Bool.eq_iff_iff]; simp)
end Go.Proofs.Ytoncacdehhmpaaa.P
namespace Go.Proofs.Ytoncacdehhmpaaa.P
open Go.RowKit Go.Proofs.YtoncacdehhmpaaaW.PrintWords Go.Proofs.YtoncacdehhmpaaaW.PrintLast Go.Proofs.YtoncacdehhmpaaaW.PrintMore
attribute [local go_sem] max2_int min2_int max_two min_two max_three min_three max_four min_four
set_option linter.unusedVariables false
set_option linter.unusedSimpArgs false
def laws_eqFactS.l0 : Nat → List (S38) → List (S38) → Int → Option (Bool)
 | 0, _, _, _ => none
 | k + 1, x0, x1, x5 => if x5 < (x0.length : Int) then (if 0 ≤ x5 then (if x5 < (x1.length : Int) then ((laws_eqFact.f k ((rd_T38 x0 x5).f0) ((rd_T38 x0 x5).f1) ((rd_T38 x0 x5).f2) ((rd_T38 x1 x5).f0) ((rd_T38 x1 x5).f1) ((rd_T38 x1 x5).f2)).bind fun t274 => (if t274 = true then (laws_eqFactS.l0 k x0 x1 (wrap64 (x5 + 1))) else (some false))) else (none)) else (none)) else (some true)
def laws_eqFactS.f (k : Nat) (l0 : List (S38)) (l1 : List (S38)) : Option (Bool) := if (l0.length : Int) = (l1.length : Int) then (laws_eqFactS.l0 k l0 l1 0) else (some false)
theorem laws_eqFactS.mono_l : ∀ k, (∀ y0 y1 y2, LeO (laws_eqFactS.l0 k y0 y1 y2) (laws_eqFactS.l0 (k + 1) y0 y1 y2))
 | 0 => fun _ _ _ r h => by simp [laws_eqFactS.l0] at h
 | k + 1 => by
  have ih0 := laws_eqFactS.mono_l k
  ·intro y0 y1 y2
   unfold laws_eqFactS.l0
   repeat' first
   | (with_reducible exact ih0 _ _ _)
   | (with_reducible exact laws_eqFact.mono _ _ _ _ _ _ _)
   | (with_reducible exact LeO.refl _)
   | (with_reducible exact LeO.none _)
   | (with_reducible refine LeO.ite ?_ ?_)
   | (with_reducible refine LeO.bind ?_ (fun _ => ?_))
   | exact ih0 _ _ _
   | exact laws_eqFact.mono _ _ _ _ _ _ _
   | exact LeO.none _
   | refine LeO.ite ?_ ?_
   | refine LeO.bind ?_ (fun _ => ?_)
theorem laws_eqFactS.mono : ∀ a0 a1 k, LeO (laws_eqFactS.f k a0 a1) (laws_eqFactS.f (k + 1) a0 a1) := by
 intro a0 a1 k
 have ih0 := laws_eqFactS.mono_l k
 unfold laws_eqFactS.f
 repeat' first
   | (with_reducible exact ih0 _ _ _)
   | (with_reducible exact laws_eqFact.mono _ _ _ _ _ _ _)
   | (with_reducible exact LeO.refl _)
   | (with_reducible exact LeO.none _)
   | (with_reducible refine LeO.ite ?_ ?_)
   | (with_reducible refine LeO.bind ?_ (fun _ => ?_))
   | exact ih0 _ _ _
   | exact laws_eqFact.mono _ _ _ _ _ _ _
   | exact LeO.none _
   | refine LeO.ite ?_ ?_
   | refine LeO.bind ?_ (fun _ => ?_)
def laws_eqFactS.T6 : Bool × List (List Nat × List Nat) := (true, [([], []), ([], []), ([0, 1], [0, 1]), ([2], [2]), ([], []), ([], []), ([4, 5], [4, 5]), ([6], [6]), ([3, 7], [3, 7]), ([8], [8])])
def laws_eqFactS.B6 : List Nat := [0, 0, 3, 7, 0, 0, 48, 112, 255, 511]
theorem laws_eqFactS.tab6 : rtab .any (opsOf Try.f45 6) = laws_eqFactS.T6 := by kernel_rfl
theorem laws_eqFactS.bits6 : waitsOk laws_eqFactS.T6.2 laws_eqFactS.B6 = true := by kernel_rfl
set_option maxHeartbeats 8000000 in
set_option maxRecDepth 100000 in
theorem laws_eqFactS.calls (k : Nat) (A0 : Option Addr) (c0 : Nat) (l0 : List (S38)) (A1 : Option Addr) (c1 : Nat) (l1 : List (S38)) (r : Bool) (w : World) (hr0 : Kd.C k38 w A0 l0.length l0) (hc0 : l0.length ≤ c0) (hr1 : Kd.C k38 w A1 l1.length l1) (hc1 : l1.length ≤ c1) (h : laws_eqFactS.f k l0 l1 = some r) (hT_ : r = true := by first | rfl | assumption) :
  Calls Try.prog 45 #[.slice A0 l0.length c0, .slice A1 l1.length c1] w fun e w' => e = .returned (.bool r) ∧ Below w.heap.size w w' := by
 subst hT_
 have hu38 := Try.underlying38
 have HR0 := Aside0.mk hr0
 have HC0 := Aside0.mk hc0
 clear hr0 hc0
 have HR1 := Aside0.mk hr1
 have HC1 := Aside0.mk hc1
 clear hr1 hc1
 have HB := Aside0.mk (Below.refl w.heap.size w)
 have H : (if (l0.length : Int) = (l1.length : Int) then (laws_eqFactS.l0 k l0 l1 0) else (some false)) = some true := h
 clear h
 by_cases c3 : (l0.length : Int) = (l1.length : Int)
 ·rw [if_pos c3] at H
  have c3b0 : ((l0.length : Int) == (l1.length : Int)) = true := beq_iff_eq.mpr c3
  have c3b1 : ((l0.length : Int) != (l1.length : Int)) = false := bne_eq_false_iff_eq.mpr c3
  have c3b2 : (l0.length == l1.length) = true := by first | simpa using c3 | (simp at c3 ⊢; omega)
  clear c3
  have H' := Aside0.mk H
  clear H
  go_enter Try.func45, Try.ntmps45
  go_wp2
  go_loopg [5] k (fun kq v5 w' => ∃ (x5_1 : Int), v5 = .int .i64 x5_1 ∧ Aside0 (laws_eqFactS.l0 kq l0 l1 x5_1 = some true) ∧ Aside0 (kq ≤ k) ∧ Aside0 (Below w.heap.size w w'))
  case atStart => exact ⟨(0), (by first | rfl | (simp; done) | (simp [*]; done)), H', ⟨Nat.le_refl _⟩, ⟨by repeat (first | (with_reducible first | exact HB.out | apply below_alloc | apply pw_below_drewN | apply below_drew1) | exact HB.out)⟩⟩
  case round =>
   clear H'
   try clear c1
   try clear p2
   try clear c3
   try clear c3b0
   try clear c3b1
   try clear c3b2
   obtain ⟨x5_1, rfl, HA, HK1, HB⟩ := hrel
   cases gk with
   | zero => exact absurd HA.out (by simp [laws_eqFactS.l0])
   | succ k1 =>
    have H := HA.out
    clear HA
    simp only [laws_eqFactS.l0] at H
    by_cases c4 : x5_1 < (l0.length : Int)
    ·rw [if_pos c4] at H
     have c4b0 : decide (x5_1 < (l0.length : Int)) = true := decide_eq_true c4
     clear c4
     by_cases c5 : 0 ≤ x5_1
     ·rw [if_pos c5] at H
      have c5b0 : decide (0 ≤ x5_1) = true := decide_eq_true c5
      clear c5
      by_cases c6 : x5_1 < (l1.length : Int)
      ·rw [if_pos c6] at H
       have c6b0 : decide (x5_1 < (l1.length : Int)) = true := decide_eq_true c6
       clear c6
       replace H := Option.bind_eq_some_iff.mp H
       obtain ⟨t274, A70, H⟩ := H
       replace H : (if t274 = true then (laws_eqFactS.l0 k1 l0 l1 (wrap64 (x5_1 + 1))) else (some false)) = some true := H
       have A7 := Aside0.mk A70
       clear A70
       by_cases c8 : t274 = true
       ·subst c8
        have H1 : (laws_eqFactS.l0 k1 l0 l1 (wrap64 (x5_1 + 1))) = some true := by first | (rw [if_pos rfl] at H; exact H) | rfl
        clear H
        have H := H1
        clear H1
        have H' := Aside0.mk H
        clear H
        try go_wp2
        have n0_ := Aside0.mk (below_drew1 HB.out)
        clear HB
        have HB := n0_
        clear n0_
        have p272 : 0 ≤ (x5_1 : Int) := of_decide_eq_true (by first | (with_reducible assumption) | assumption)
        have q272 : x5_1 < (l0.length : Int) := of_decide_eq_true (by first | (with_reducible assumption) | assumption)
        obtain ⟨ad272, A272_2, c272_2, e272, hx272_0, hx272_1, hx272_2, hl272_2, hi272_2⟩ := at_T38 HR0.out x5_1 p272 q272
        have hw272_2 := hx272_2
        have hw272_1 := hx272_1
        have hw272_0 := hx272_0
        cases e272
        replace hx272_0 := (HB.out.cell (World.block_lt_of_cell? w _ hx272_0)).trans hx272_0
        replace hx272_1 := (HB.out.cell (World.block_lt_of_cell? w _ hx272_1)).trans hx272_1
        replace hx272_2 := (HB.out.cell (World.block_lt_of_cell? w _ hx272_2)).trans hx272_2
        have HR272_2 := Aside0.mk hi272_2
        have HC272_2 := Aside0.mk hl272_2
        clear hi272_2 hl272_2
        replace p272 := eq_true p272
        replace q272 := eq_true q272
        have p273 : 0 ≤ (x5_1 : Int) := of_decide_eq_true (by first | (with_reducible assumption) | assumption)
        have q273 : x5_1 < (l1.length : Int) := of_decide_eq_true (by first | (with_reducible assumption) | assumption)
        obtain ⟨ad273, A273_2, c273_2, e273, hx273_0, hx273_1, hx273_2, hl273_2, hi273_2⟩ := at_T38 HR1.out x5_1 p273 q273
        have hw273_2 := hx273_2
        have hw273_1 := hx273_1
        have hw273_0 := hx273_0
        cases e273
        replace hx273_0 := (HB.out.cell (World.block_lt_of_cell? w _ hx273_0)).trans hx273_0
        replace hx273_1 := (HB.out.cell (World.block_lt_of_cell? w _ hx273_1)).trans hx273_1
        replace hx273_2 := (HB.out.cell (World.block_lt_of_cell? w _ hx273_2)).trans hx273_2
        have HR273_2 := Aside0.mk hi273_2
        have HC273_2 := Aside0.mk hl273_2
        clear hi273_2 hl273_2
        replace p273 := eq_true p273
        replace q273 := eq_true q273
        refine start_ (n := 10) (S := fun w' => w'.cell? (ad272.add ((x5_1).toNat * 3)) = some (.int .i64 ((rd_T38 l0 x5_1).f0)) ∧ w'.cell? ⟨(ad272.add ((x5_1).toNat * 3)).block, (ad272.add ((x5_1).toNat * 3)).off + 1, none⟩ = some (.string ((rd_T38 l0 x5_1).f1)) ∧ w'.cell? ⟨(ad272.add ((x5_1).toNat * 3)).block, (ad272.add ((x5_1).toNat * 3)).off + 2, none⟩ = some (.slice A272_2 ((rd_T38 l0 x5_1).f2).length c272_2) ∧ w'.cell? (ad273.add ((x5_1).toNat * 3)) = some (.int .i64 ((rd_T38 l1 x5_1).f0)) ∧ w'.cell? ⟨(ad273.add ((x5_1).toNat * 3)).block, (ad273.add ((x5_1).toNat * 3)).off + 1, none⟩ = some (.string ((rd_T38 l1 x5_1).f1)) ∧ w'.cell? ⟨(ad273.add ((x5_1).toNat * 3)).block, (ad273.add ((x5_1).toNat * 3)).off + 2, none⟩ = some (.slice A273_2 ((rd_T38 l1 x5_1).f2).length c273_2)) (ds := []) #[false, false, false, false, false, false, false, false, false, false] (by kernel_rfl) rfl rfl ⟨((HB.out.cell (World.block_lt_of_cell? w _ hw272_0)).trans hw272_0), ((HB.out.cell (World.block_lt_of_cell? w _ hw272_1)).trans hw272_1), ((HB.out.cell (World.block_lt_of_cell? w _ hw272_2)).trans hw272_2), ((HB.out.cell (World.block_lt_of_cell? w _ hw273_0)).trans hw273_0), ((HB.out.cell (World.block_lt_of_cell? w _ hw273_1)).trans hw273_1), ((HB.out.cell (World.block_lt_of_cell? w _ hw273_2)).trans hw273_2)⟩ (fun hHeld => ?_); refine with_tabW laws_eqFactS.tab6 laws_eqFactS.bits6 (fun HT_ HW_ => ?_)
        generalize wr.drew = w9 at HB HR272_2 HR273_2 hx272_0 hx272_1 hx272_2 hx273_0 hx273_1 hx273_2 hHeld ⊢
        refine pure_ (i := 0) (N := some 17) (v := ?_) (a' := ?_) #[true, false, false, false, false, false, false, false, false, false] rfl rfl (any_of HT_.out (by kernel_rfl)) (fun _ _ _ h => h) (Or.inl ⟨by rfl, ?_⟩) ?_ ?_
        rotate_left
        ·intro w'
         go_simp
         with_reducible rfl
        rotate_left
        ·simp only [Act.put, List.setIfInBounds_toArray, List.set_cons_zero, List.set_cons_succ, i64_w, i32_w]
         rfl
        refine pure_ (i := 1) (N := some 18) (v := ?_) (a' := ?_) #[true, true, false, false, false, false, false, false, false, false] rfl rfl (any_of HT_.out (by kernel_rfl)) (fun _ _ _ h => h) (Or.inl ⟨by rfl, ?_⟩) ?_ ?_
        rotate_left
        ·intro w'
         go_simp
         with_reducible rfl
        rotate_left
        ·simp only [Act.put, List.setIfInBounds_toArray, List.set_cons_zero, List.set_cons_succ, i64_w, i32_w]
         rfl
        refine pure_ (i := 2) (N := some 19) (v := ?_) (a' := ?_) #[true, true, true, false, false, false, false, false, false, false] rfl rfl (any_of HT_.out (by kernel_rfl)) (fun _ _ _ h => h) (Or.inl ⟨by rfl, ?_⟩) ?_ ?_
        rotate_left
        ·intro w'
         go_simp
         with_reducible rfl
        rotate_left
        ·simp only [Act.put, List.setIfInBounds_toArray, List.set_cons_zero, List.set_cons_succ, i64_w, i32_w]
         rfl
        refine pure_ (i := 4) (N := some 21) (v := ?_) (a' := ?_) #[true, true, true, false, true, false, false, false, false, false] rfl rfl (any_of HT_.out (by kernel_rfl)) (fun _ _ _ h => h) (Or.inl ⟨by rfl, ?_⟩) ?_ ?_
        rotate_left
        ·intro w'
         go_simp
         with_reducible rfl
        rotate_left
        ·simp only [Act.put, List.setIfInBounds_toArray, List.set_cons_zero, List.set_cons_succ, i64_w, i32_w]
         rfl
        refine pure_ (i := 5) (N := some 22) (v := ?_) (a' := ?_) #[true, true, true, false, true, true, false, false, false, false] rfl rfl (any_of HT_.out (by kernel_rfl)) (fun _ _ _ h => h) (Or.inl ⟨by rfl, ?_⟩) ?_ ?_
        rotate_left
        ·intro w'
         go_simp
         with_reducible rfl
        rotate_left
        ·simp only [Act.put, List.setIfInBounds_toArray, List.set_cons_zero, List.set_cons_succ, i64_w, i32_w]
         rfl
        refine pure_ (i := 6) (N := some 23) (v := ?_) (a' := ?_) #[true, true, true, false, true, true, true, false, false, false] rfl rfl (any_of HT_.out (by kernel_rfl)) (fun _ _ _ h => h) (Or.inl ⟨by rfl, ?_⟩) ?_ ?_
        rotate_left
        ·intro w'
         go_simp
         with_reducible rfl
        rotate_left
        ·simp only [Act.put, List.setIfInBounds_toArray, List.set_cons_zero, List.set_cons_succ, i64_w, i32_w]
         rfl
        refine take_ (i := 3) (N := some 20) (v := ?_) (a' := ?_) #[true, true, true, true, true, true, true, false, false, false] rfl rfl (take_ofW HT_.out HW_.out (by kernel_rfl)) (fun _ _ _ h => h) (Or.inl ⟨by rfl, ?_⟩) hHeld ?_ ?_
        rotate_left
        ·rintro w' ⟨s0, s1, s2, s3, s4, s5⟩
         go_simp
         with_reducible rfl
        rotate_left
        ·simp only [Act.put, List.setIfInBounds_toArray, List.set_cons_zero, List.set_cons_succ, i64_w, i32_w]
         rfl
        refine take_ (i := 7) (N := some 24) (v := ?_) (a' := ?_) #[true, true, true, true, true, true, true, true, false, false] rfl rfl (take_ofW HT_.out HW_.out (by kernel_rfl)) (fun _ _ _ h => h) (Or.inl ⟨by rfl, ?_⟩) hHeld ?_ ?_
        rotate_left
        ·rintro w' ⟨s0, s1, s2, s3, s4, s5⟩
         go_simp
         with_reducible rfl
        rotate_left
        ·simp only [Act.put, List.setIfInBounds_toArray, List.set_cons_zero, List.set_cons_succ, i64_w, i32_w]
         rfl
        refine one_ (i := 8) (N := some 25) #[true, true, true, true, true, true, true, true, true, false] rfl rfl (one_of HT_.out (by kernel_rfl)) (by decide) (fun K hK => ?_)
        refine goes_ Try.func17 (by kernel_rfl) rfl #[.agg #[.int .i64 ((rd_T38 l0 x5_1).f0), .string ((rd_T38 l0 x5_1).f1), .slice A272_2 ((rd_T38 l0 x5_1).f2).length c272_2], .agg #[.int .i64 ((rd_T38 l1 x5_1).f0), .string ((rd_T38 l1 x5_1).f1), .slice A273_2 ((rd_T38 l1 x5_1).f2).length c273_2]] (by rfl) rfl rfl (by (try simp only [List.map_toArray, List.map_cons, List.map_nil]); first | done | rfl | (simp only [List.length_drop, List.length_take]; rfl)) ?_
        with_reducible refine (laws_eqFact.calls k1 ((rd_T38 l0 x5_1).f0) ((rd_T38 l0 x5_1).f1) _ _ ((rd_T38 l0 x5_1).f2) ((rd_T38 l1 x5_1).f0) ((rd_T38 l1 x5_1).f1) _ _ ((rd_T38 l1 x5_1).f2) true _ ?side1 ?side2 ?side3 ?side4 A7.out).mono ?_
        (case side1 => repeat (first | exact (Kd.C_below HR272_2.out HB.out) | (with_reducible refine Kd.C_alloc ?_ _) | (with_reducible refine Kd.C_drewN ?_ _) | (with_reducible refine Kd.C_drew ?_)))
        (case side2 => exact HC272_2.out)
        (case side3 => repeat (first | exact (Kd.C_below HR273_2.out HB.out) | (with_reducible refine Kd.C_alloc ?_ _) | (with_reducible refine Kd.C_drewN ?_ _) | (with_reducible refine Kd.C_drew ?_)))
        (case side4 => exact HC273_2.out)
        rintro e w10 ⟨rfl, hb⟩
        refine ⟨_, rfl, ?_⟩
        have n0_ := Aside0.mk (below_step (by repeat (first | (with_reducible first | exact HB.out | apply below_alloc | apply pw_below_drewN | apply below_drew1) | exact HB.out)) hb)
        clear HB
        have HB := n0_
        clear n0_
        (try clear hb)
        (try clear hb2)
        (try clear hk)
        (try clear hi)
        refine hK.out _ _ ⟨((HB.out.cell (World.block_lt_of_cell? w _ hw272_0)).trans hw272_0), ((HB.out.cell (World.block_lt_of_cell? w _ hw272_1)).trans hw272_1), ((HB.out.cell (World.block_lt_of_cell? w _ hw272_2)).trans hw272_2), ((HB.out.cell (World.block_lt_of_cell? w _ hw273_0)).trans hw273_0), ((HB.out.cell (World.block_lt_of_cell? w _ hw273_1)).trans hw273_1), ((HB.out.cell (World.block_lt_of_cell? w _ hw273_2)).trans hw273_2)⟩ (fun hHeld => ?_)
        clear hK K
        refine norm_ (a' := ?_) ?_ ?_
        rotate_left
        ·show Act.put _ (some 25) _ = _
         simp only [Act.put, List.setIfInBounds_toArray, List.set_cons_zero, List.set_cons_succ, i64_w, i32_w]
         rfl
        refine pure_ (i := 9) (N := some 26) (v := ?_) (a' := ?_) #[true, true, true, true, true, true, true, true, true, true] rfl rfl (any_of HT_.out (by kernel_rfl)) (fun _ _ _ h => h) (Or.inl ⟨by rfl, ?_⟩) ?_ ?_
        rotate_left
        ·intro w'
         go_simp
         with_reducible rfl
        rotate_left
        ·simp only [Act.put, List.setIfInBounds_toArray, List.set_cons_zero, List.set_cons_succ, i64_w, i32_w]
         rfl
        refine done_ (done_of HT_.out (by kernel_rfl)) ?_
        try go_wp2
        go_roundg k1
        case measure => have := HK1.out; omega
        case rel => exact ⟨(wrap64 (x5_1 + 1)), (by first | rfl | (simp; done) | (simp [*]; done)), H', ⟨by have := HK1.out; omega⟩, ⟨by repeat (first | (with_reducible first | exact HB.out | apply below_alloc | apply pw_below_drewN | apply below_drew1) | exact HB.out)⟩⟩
       ·replace c8 := Bool.eq_false_iff.mpr c8
        subst c8
        have H1 : (some false) = some true := by first | (rw [if_neg (show ¬ (false = true) by decide)] at H; exact H) | rfl
        clear H
        have H := H1
        clear H1
        exact absurd (Option.some.inj H) (by decide)
      ·rw [if_neg c6] at H
       exact absurd H (by simp)
     ·rw [if_neg c5] at H
      exact absurd H (by simp)
    ·rw [if_neg c4] at H
     have c4b0 : decide (x5_1 < (l0.length : Int)) = false := decide_eq_false c4
     clear c4
     clear H
     go_wp2
     go_ret
     exact ⟨by first | rfl | (simp [errW_none, errW_some] <;> rfl) | (simp [*, errW_none, errW_some] <;> rfl), by repeat (first | (with_reducible first | exact HB.out | apply below_alloc | apply pw_below_drewN | apply below_drew1) | exact HB.out)⟩
 ·rw [if_neg c3] at H
  have c3b0 : ((l0.length : Int) == (l1.length : Int)) = false := beq_eq_false_iff_ne.mpr c3
  have c3b1 : ((l0.length : Int) != (l1.length : Int)) = true := bne_iff_ne.mpr c3
  have c3b2 : (l0.length == l1.length) = false := by first | simpa using c3 | (simp at c3 ⊢; omega)
  exact absurd (Option.some.inj H) (by decide)
def laws_eqStore.f (k : Nat) (l0_0 : List (S38)) (a0_1 : Int) (a0_2 : Int) (a0_3 : Bool) (l1_0 : List (S38)) (a1_1 : Int) (a1_2 : Int) (a1_3 : Bool) : Option (Bool) := (laws_eqFactS.f k l0_0 l1_0).bind fun t277 => (if t277 = true then (if a0_1 = a1_1 then (if a0_2 = a1_2 then (if (a0_3 != a1_3) = true then (some false) else (some true)) else (some false)) else (some false)) else (some false))
theorem laws_eqStore.mono : ∀ a0 a1 a2 a3 a4 a5 a6 a7 k, LeO (laws_eqStore.f k a0 a1 a2 a3 a4 a5 a6 a7) (laws_eqStore.f (k + 1) a0 a1 a2 a3 a4 a5 a6 a7) := by
 intro a0 a1 a2 a3 a4 a5 a6 a7 k
 unfold laws_eqStore.f
 repeat' first
   | (with_reducible exact laws_eqFactS.mono _ _ _)
   | (with_reducible exact LeO.refl _)
   | (with_reducible exact LeO.none _)
   | (with_reducible refine LeO.ite ?_ ?_)
   | (with_reducible refine LeO.bind ?_ (fun _ => ?_))
   | exact laws_eqFactS.mono _ _ _
   | exact LeO.none _
   | refine LeO.ite ?_ ?_
   | refine LeO.bind ?_ (fun _ => ?_)
set_option maxHeartbeats 8000000 in
set_option maxRecDepth 100000 in
theorem laws_eqStore.calls (k : Nat) (A0_0 : Option Addr) (c0_0 : Nat) (l0_0 : List (S38)) (a0_1 : Int) (a0_2 : Int) (a0_3 : Bool) (A1_0 : Option Addr) (c1_0 : Nat) (l1_0 : List (S38)) (a1_1 : Int) (a1_2 : Int) (a1_3 : Bool) (r : Bool) (w : World) (hr0_0 : Kd.C k38 w A0_0 l0_0.length l0_0) (hc0_0 : l0_0.length ≤ c0_0) (hr1_0 : Kd.C k38 w A1_0 l1_0.length l1_0) (hc1_0 : l1_0.length ≤ c1_0) (h : laws_eqStore.f k l0_0 a0_1 a0_2 a0_3 l1_0 a1_1 a1_2 a1_3 = some r) (hT_ : r = true := by first | rfl | assumption) :
  Calls Try.prog 22 #[.agg #[.slice A0_0 l0_0.length c0_0, .int .i64 a0_1, .int .i64 a0_2, .bool a0_3], .agg #[.slice A1_0 l1_0.length c1_0, .int .i64 a1_1, .int .i64 a1_2, .bool a1_3]] w fun e w' => e = .returned (.bool r) ∧ Below w.heap.size w w' := by
 subst hT_
 have hu50 := Try.underlying50
 have HR0_0 := Aside0.mk hr0_0
 have HC0_0 := Aside0.mk hc0_0
 clear hr0_0 hc0_0
 have HR1_0 := Aside0.mk hr1_0
 have HC1_0 := Aside0.mk hc1_0
 clear hr1_0 hc1_0
 have HB := Aside0.mk (Below.refl w.heap.size w)
 have H : ((laws_eqFactS.f k l0_0 l1_0).bind fun t277 => (if t277 = true then (if a0_1 = a1_1 then (if a0_2 = a1_2 then (if (a0_3 != a1_3) = true then (some false) else (some true)) else (some false)) else (some false)) else (some false))) = some true := h
 clear h
 replace H := Option.bind_eq_some_iff.mp H
 obtain ⟨t277, A30, H⟩ := H
 replace H : (if t277 = true then (if a0_1 = a1_1 then (if a0_2 = a1_2 then (if (a0_3 != a1_3) = true then (some false) else (some true)) else (some false)) else (some false)) else (some false)) = some true := H
 have A3 := Aside0.mk A30
 clear A30
 by_cases c4 : t277 = true
 ·subst c4
  have H1 : (if a0_1 = a1_1 then (if a0_2 = a1_2 then (if (a0_3 != a1_3) = true then (some false) else (some true)) else (some false)) else (some false)) = some true := by first | (rw [if_pos rfl] at H; exact H) | rfl
  clear H
  have H := H1
  clear H1
  by_cases c5 : a0_1 = a1_1
  ·rw [if_pos c5] at H
   have c5b0 : (a0_1 == a1_1) = true := beq_iff_eq.mpr c5
   have c5b1 : (a0_1 != a1_1) = false := bne_eq_false_iff_eq.mpr c5
   clear c5
   by_cases c6 : a0_2 = a1_2
   ·rw [if_pos c6] at H
    have c6b0 : (a0_2 == a1_2) = true := beq_iff_eq.mpr c6
    have c6b1 : (a0_2 != a1_2) = false := bne_eq_false_iff_eq.mpr c6
    clear c6
    by_cases c7 : (a0_3 != a1_3) = true
    ·rw [if_pos c7] at H
     have c7b0 : (a0_3 != a1_3) = true := c7
     (try (have c7b1 : decide (a0_3 = a1_3) = false := by simpa using c7))
     (try (have c7b2 : (a0_3 == a1_3) = false := by simpa using c7))
     (try (have c7b3 : ¬ (a0_3 = a1_3) := by simpa using c7))
     clear c7
     exact absurd (Option.some.inj H) (by decide)
    ·rw [if_neg c7] at H
     have c7b0 : (a0_3 != a1_3) = false := by simpa using c7
     (try (have c7b1 : decide (a0_3 = a1_3) = true := by simpa using c7))
     (try (have c7b2 : (a0_3 == a1_3) = true := by simpa using c7))
     clear c7
     clear H
     go_enter Try.func22, Try.ntmps22
     go_wp2_with (first | ((with_reducible refine gate_dst (N := 2) rfl ?_); refine box_event ?hg (N := 2) ?hd (cs := #[.slice A0_0 l0_0.length c0_0, .int .i64 a0_1, .int .i64 a0_2, .bool a0_3]) (t := 50) ?hr ?_; (case hd => rfl); (case hg => rfl); (case hr => first | (go_simp; done) | (go_simp; rfl)); intro gb275 hg w8 hbox hb; have n0_ := Aside0.mk (below_step (by repeat (first | (with_reducible first | exact HB.out | apply below_alloc | apply pw_below_drewN | apply below_drew1) | exact HB.out)) hb); have n1_ := Aside0.mk (hbox); have n2_ := Aside0.mk ((by rw [hg]; exact (below_size (by repeat (first | (with_reducible first | exact HB.out | apply below_alloc | apply pw_below_drewN | apply below_drew1) | exact HB.out))) : w.heap.size ≤ gb275)); have n3_ := Aside0.mk ((by rw [hg]; exact (below_size (by repeat (first | (with_reducible first | exact HB.out | apply below_alloc | apply pw_below_drewN | apply below_drew1) | exact HB.out))) : w.heap.size ≤ gb275)); clear HB; have HB := n0_; have BK275 := n1_; have GW275 := n2_; have GE275 := n3_; clear n0_ n1_ n2_ n3_; clear hb hbox hg) | ((with_reducible refine gate_dst (N := 3) rfl ?_); refine box_event ?hg (N := 3) ?hd (cs := #[.slice A1_0 l1_0.length c1_0, .int .i64 a1_1, .int .i64 a1_2, .bool a1_3]) (t := 50) ?hr ?_; (case hd => rfl); (case hg => rfl); (case hr => first | (go_simp; done) | (go_simp; rfl)); intro gb276 hg w9 hbox hb; have n0_ := Aside0.mk (blk_below (g := gb275) (o := .cells #[.slice A0_0 l0_0.length c0_0, .int .i64 a0_1, .int .i64 a0_2, .bool a0_3] 50 (0, 0)) (by (with_reducible repeat (first | refine blk_drewN ?_ _ | refine blk_drew ?_ | refine blk_alloc ?_ _)); exact BK275.out) hb); have n1_ := Aside0.mk (below_step (by repeat (first | (with_reducible first | exact HB.out | apply below_alloc | apply pw_below_drewN | apply below_drew1 | refine below_set ?_ GE275.out) | exact HB.out)) hb); have n2_ := Aside0.mk (hbox); have n3_ := Aside0.mk ((by rw [hg]; exact (below_size (by repeat (first | (with_reducible first | exact HB.out | apply below_alloc | apply pw_below_drewN | apply below_drew1 | refine below_set ?_ GE275.out) | exact HB.out))) : w.heap.size ≤ gb276)); have n4_ := Aside0.mk ((by rw [hg]; exact (below_size (by repeat (first | (with_reducible first | exact HB.out | apply below_alloc | apply pw_below_drewN | apply below_drew1 | refine below_set ?_ GE275.out) | exact HB.out))) : w.heap.size ≤ gb276)); have n5_ := Aside0.mk ((by rw [hg]; exact Nat.ne_of_lt (blk_lt (g := gb275) (o := .cells #[.slice A0_0 l0_0.length c0_0, .int .i64 a0_1, .int .i64 a0_2, .bool a0_3] 50 (0, 0)) (by (with_reducible repeat (first | refine blk_drewN ?_ _ | refine blk_drew ?_ | refine blk_alloc ?_ _)); exact BK275.out)) : gb275 ≠ gb276)); have n6_ := Aside0.mk ((by rw [hg]; exact Nat.ne_of_gt (blk_lt (g := gb275) (o := .cells #[.slice A0_0 l0_0.length c0_0, .int .i64 a0_1, .int .i64 a0_2, .bool a0_3] 50 (0, 0)) (by (with_reducible repeat (first | refine blk_drewN ?_ _ | refine blk_drew ?_ | refine blk_alloc ?_ _)); exact BK275.out)) : gb276 ≠ gb275)); clear BK275; clear HB; have BK275 := n0_; have HB := n1_; have BK276 := n2_; have GW276 := n3_; have GE276 := n4_; have NB275_276 := n5_; have NB276_275 := n6_; clear n0_ n1_ n2_ n3_ n4_ n5_ n6_; clear hb hbox hg; have hnb10 := NB275_276.out; have hnc10 := NB276_275.out; have hcz11_0 : w9.cell? ⟨gb275, 0, none⟩ = some (.slice A0_0 l0_0.length c0_0) := (blk_cell BK275.out 0).trans rfl; have hcz11_1 : w9.cell? ⟨gb275, 1, none⟩ = some (.int .i64 a0_1) := (blk_cell BK275.out 1).trans rfl; have hcz11_2 : w9.cell? ⟨gb275, 2, none⟩ = some (.int .i64 a0_2) := (blk_cell BK275.out 2).trans rfl; have hcz11_3 : w9.cell? ⟨gb275, 3, none⟩ = some (.bool a0_3) := (blk_cell BK275.out 3).trans rfl; have hfz11_0 := blk_frozen BK275.out 0; have hfz11_1 := blk_frozen BK275.out 1; have hfz11_2 := blk_frozen BK275.out 2; have hfz11_3 := blk_frozen BK275.out 3; have hcz12_0 : w9.cell? ⟨gb276, 0, none⟩ = some (.slice A1_0 l1_0.length c1_0) := (blk_cell BK276.out 0).trans rfl; have hcz12_1 : w9.cell? ⟨gb276, 1, none⟩ = some (.int .i64 a1_1) := (blk_cell BK276.out 1).trans rfl; have hcz12_2 : w9.cell? ⟨gb276, 2, none⟩ = some (.int .i64 a1_2) := (blk_cell BK276.out 2).trans rfl; have hcz12_3 : w9.cell? ⟨gb276, 3, none⟩ = some (.bool a1_3) := (blk_cell BK276.out 3).trans rfl; have hfz12_0 := blk_frozen BK276.out 0; have hfz12_1 := blk_frozen BK276.out 1; have hfz12_2 := blk_frozen BK276.out 2; have hfz12_3 := blk_frozen BK276.out 3) | ((with_reducible refine gate_callee (f := 45) rfl ?_); refine goesL_ (some 9) rfl rfl Try.func45 (by kernel_rfl) rfl #[.slice A0_0 l0_0.length c0_0, .slice A1_0 l1_0.length c1_0] rfl (by (try simp only [List.map_toArray, List.map_cons, List.map_nil]); first | done | rfl | (simp only [List.length_drop, List.length_take]; rfl)) ?_; (with_reducible refine (laws_eqFactS.calls k _ _ l0_0 _ _ l1_0 true _ ?side1 ?side2 ?side3 ?side4 A3.out).mono ?_); (case side1 => repeat (first | exact (Kd.C_below HR0_0.out HB.out) | (with_reducible refine Kd.C_alloc ?_ _) | (with_reducible refine Kd.C_drewN ?_ _) | (with_reducible refine Kd.C_drew ?_))); (case side2 => exact HC0_0.out); (case side3 => repeat (first | exact (Kd.C_below HR1_0.out HB.out) | (with_reducible refine Kd.C_alloc ?_ _) | (with_reducible refine Kd.C_drewN ?_ _) | (with_reducible refine Kd.C_drew ?_))); (case side4 => exact HC1_0.out); rintro e w13 ⟨rfl, hb⟩; refine ⟨_, rfl, ?_⟩; have n0_ := Aside0.mk (blk_below (g := gb275) (o := .cells #[.slice A0_0 l0_0.length c0_0, .int .i64 a0_1, .int .i64 a0_2, .bool a0_3] 50 (0, 0)) (by (with_reducible repeat (first | refine blk_drewN ?_ _ | refine blk_drew ?_ | refine blk_alloc ?_ _)); exact BK275.out) hb); have n1_ := Aside0.mk (blk_below (g := gb276) (o := .cells #[.slice A1_0 l1_0.length c1_0, .int .i64 a1_1, .int .i64 a1_2, .bool a1_3] 50 (0, 0)) (by (with_reducible repeat (first | refine blk_drewN ?_ _ | refine blk_drew ?_ | refine blk_alloc ?_ _)); exact BK276.out) hb); have n2_ := Aside0.mk (below_step (by repeat (first | (with_reducible first | exact HB.out | apply below_alloc | apply pw_below_drewN | apply below_drew1 | refine below_set ?_ GE275.out | refine below_set ?_ GE276.out) | exact HB.out)) hb); clear BK275; clear BK276; clear HB; have BK275 := n0_; have BK276 := n1_; have HB := n2_; clear n0_ n1_ n2_; (try clear hb); (try clear hb2); (try clear hk); (try clear hi); have hcz14_0 : w13.cell? ⟨gb275, 0, none⟩ = some (.slice A0_0 l0_0.length c0_0) := (blk_cell BK275.out 0).trans rfl; have hcz14_1 : w13.cell? ⟨gb275, 1, none⟩ = some (.int .i64 a0_1) := (blk_cell BK275.out 1).trans rfl; have hcz14_2 : w13.cell? ⟨gb275, 2, none⟩ = some (.int .i64 a0_2) := (blk_cell BK275.out 2).trans rfl; have hcz14_3 : w13.cell? ⟨gb275, 3, none⟩ = some (.bool a0_3) := (blk_cell BK275.out 3).trans rfl; have hfz14_0 := blk_frozen BK275.out 0; have hfz14_1 := blk_frozen BK275.out 1; have hfz14_2 := blk_frozen BK275.out 2; have hfz14_3 := blk_frozen BK275.out 3; have hcz15_0 : w13.cell? ⟨gb276, 0, none⟩ = some (.slice A1_0 l1_0.length c1_0) := (blk_cell BK276.out 0).trans rfl; have hcz15_1 : w13.cell? ⟨gb276, 1, none⟩ = some (.int .i64 a1_1) := (blk_cell BK276.out 1).trans rfl; have hcz15_2 : w13.cell? ⟨gb276, 2, none⟩ = some (.int .i64 a1_2) := (blk_cell BK276.out 2).trans rfl; have hcz15_3 : w13.cell? ⟨gb276, 3, none⟩ = some (.bool a1_3) := (blk_cell BK276.out 3).trans rfl; have hfz15_0 := blk_frozen BK276.out 0; have hfz15_1 := blk_frozen BK276.out 1; have hfz15_2 := blk_frozen BK276.out 2; have hfz15_3 := blk_frozen BK276.out 3))
     go_ret
     exact ⟨by first | rfl | (simp [errW_none, errW_some] <;> rfl) | (simp [*, errW_none, errW_some] <;> rfl), by repeat (first | (with_reducible first | exact HB.out | apply below_alloc | apply pw_below_drewN | apply below_drew1 | refine below_set ?_ GE275.out | refine below_set ?_ GE276.out) | exact HB.out)⟩
   ·rw [if_neg c6] at H
    have c6b0 : (a0_2 == a1_2) = false := beq_eq_false_iff_ne.mpr c6
    have c6b1 : (a0_2 != a1_2) = true := bne_iff_ne.mpr c6
    exact absurd (Option.some.inj H) (by decide)
  ·rw [if_neg c5] at H
   have c5b0 : (a0_1 == a1_1) = false := beq_eq_false_iff_ne.mpr c5
   have c5b1 : (a0_1 != a1_1) = true := bne_iff_ne.mpr c5
   exact absurd (Option.some.inj H) (by decide)
 ·replace c4 := Bool.eq_false_iff.mpr c4
  subst c4
  have H1 : (some false) = some true := by first | (rw [if_neg (show ¬ (false = true) by decide)] at H; exact H) | rfl
  clear H
  have H := H1
  clear H1
  exact absurd (Option.some.inj H) (by decide)
def laws_FnExactStoreValid.f (k : Nat) (l0_0 : List (S28)) (a0_1 : Int) (a0_2 : Int) (a0_3 : Bool) : Option (Bool) := (laws_szStore.f k l0_0 a0_1 a0_2 a0_3 1048576).bind fun t279 => (if t279 < 0 then (some true) else ((laws_toStore.f k l0_0 a0_1 a0_2 a0_3).bind fun bt280 => ((spec_StoreValid.f k bt280.1 bt280.2.1 bt280.2.2.1 bt280.2.2.2).bind fun t286 => ((laws_toStore.f k l0_0 a0_1 a0_2 a0_3).bind fun bt287 => ((impl_StoreValid.f k bt287.1 bt287.2.1 bt287.2.2.1 bt287.2.2.2).bind fun t294 => (if (t294 != t286) = true then (some false) else ((laws_toStore.f k l0_0 a0_1 a0_2 a0_3).bind fun bt295 => ((laws_eqStore.f k bt287.1 bt287.2.1 bt287.2.2.1 bt287.2.2.2 bt295.1 bt295.2.1 bt295.2.2.1 bt295.2.2.2).bind fun t301 => (if t301 = true then (some true) else (some false))))))))))
theorem laws_FnExactStoreValid.mono : ∀ a0 a1 a2 a3 k, LeO (laws_FnExactStoreValid.f k a0 a1 a2 a3) (laws_FnExactStoreValid.f (k + 1) a0 a1 a2 a3) := by
 intro a0 a1 a2 a3 k
 unfold laws_FnExactStoreValid.f
 repeat' first
   | (with_reducible exact impl_StoreValid.mono _ _ _ _ _)
   | (with_reducible exact laws_eqStore.mono _ _ _ _ _ _ _ _ _)
   | (with_reducible exact laws_szStore.mono _ _ _ _ _ _)
   | (with_reducible exact laws_toStore.mono _ _ _ _ _)
   | (with_reducible exact spec_StoreValid.mono _ _ _ _ _)
   | (with_reducible exact LeO.refl _)
   | (with_reducible exact LeO.none _)
   | (with_reducible refine LeO.ite ?_ ?_)
   | (with_reducible refine LeO.bind ?_ (fun _ => ?_))
   | exact impl_StoreValid.mono _ _ _ _ _
   | exact laws_eqStore.mono _ _ _ _ _ _ _ _ _
   | exact laws_szStore.mono _ _ _ _ _ _
   | exact laws_toStore.mono _ _ _ _ _
   | exact spec_StoreValid.mono _ _ _ _ _
   | exact LeO.none _
   | refine LeO.ite ?_ ?_
   | refine LeO.bind ?_ (fun _ => ?_)
set_option maxHeartbeats 8000000 in
set_option maxRecDepth 100000 in
theorem laws_FnExactStoreValid.calls (k : Nat) (A0_0 : Option Addr) (c0_0 : Nat) (l0_0 : List (S28)) (a0_1 : Int) (a0_2 : Int) (a0_3 : Bool) (r : Bool) (w : World) (hr0_0 : Kd.C k28 w A0_0 l0_0.length l0_0) (hc0_0 : l0_0.length ≤ c0_0) (h : laws_FnExactStoreValid.f k l0_0 a0_1 a0_2 a0_3 = some r) (hT_ : r = true := by first | rfl | assumption) :
  Calls Try.prog 5 #[.agg #[.slice A0_0 l0_0.length c0_0, .int .i64 a0_1, .int .i64 a0_2, .bool a0_3]] w fun e w' => e = .returned (.bool r) ∧ Below w.heap.size w w' := by
 subst hT_
 have hu45 := Try.underlying45
 have hu50 := Try.underlying50
 have HR0_0 := Aside0.mk hr0_0
 have HC0_0 := Aside0.mk hc0_0
 clear hr0_0 hc0_0
 have HB := Aside0.mk (Below.refl w.heap.size w)
 have H : ((laws_szStore.f k l0_0 a0_1 a0_2 a0_3 1048576).bind fun t279 => (if t279 < 0 then (some true) else ((laws_toStore.f k l0_0 a0_1 a0_2 a0_3).bind fun bt280 => ((spec_StoreValid.f k bt280.1 bt280.2.1 bt280.2.2.1 bt280.2.2.2).bind fun t286 => ((laws_toStore.f k l0_0 a0_1 a0_2 a0_3).bind fun bt287 => ((impl_StoreValid.f k bt287.1 bt287.2.1 bt287.2.2.1 bt287.2.2.2).bind fun t294 => (if (t294 != t286) = true then (some false) else ((laws_toStore.f k l0_0 a0_1 a0_2 a0_3).bind fun bt295 => ((laws_eqStore.f k bt287.1 bt287.2.1 bt287.2.2.1 bt287.2.2.2 bt295.1 bt295.2.1 bt295.2.2.1 bt295.2.2.2).bind fun t301 => (if t301 = true then (some true) else (some false))))))))))) = some true := h
 clear h
 replace H := Option.bind_eq_some_iff.mp H
 obtain ⟨t279, A20, H⟩ := H
 replace H : (if t279 < 0 then (some true) else ((laws_toStore.f k l0_0 a0_1 a0_2 a0_3).bind fun bt280 => ((spec_StoreValid.f k bt280.1 bt280.2.1 bt280.2.2.1 bt280.2.2.2).bind fun t286 => ((laws_toStore.f k l0_0 a0_1 a0_2 a0_3).bind fun bt287 => ((impl_StoreValid.f k bt287.1 bt287.2.1 bt287.2.2.1 bt287.2.2.2).bind fun t294 => (if (t294 != t286) = true then (some false) else ((laws_toStore.f k l0_0 a0_1 a0_2 a0_3).bind fun bt295 => ((laws_eqStore.f k bt287.1 bt287.2.1 bt287.2.2.1 bt287.2.2.2 bt295.1 bt295.2.1 bt295.2.2.1 bt295.2.2.2).bind fun t301 => (if t301 = true then (some true) else (some false)))))))))) = some true := H
 have A2 := Aside0.mk A20
 clear A20
 by_cases c3 : t279 < 0
 ·rw [if_pos c3] at H
  have c3b0 : decide (t279 < 0) = true := decide_eq_true c3
  clear c3
  clear H
  go_enter Try.func5, Try.ntmps5
  go_wp2_with (first | ((with_reducible refine gate_dst (N := 1) rfl ?_); refine box_event ?hg (N := 1) ?hd (cs := #[.slice A0_0 l0_0.length c0_0, .int .i64 a0_1, .int .i64 a0_2, .bool a0_3]) (t := 45) ?hr ?_; (case hd => rfl); (case hg => rfl); (case hr => first | (go_simp; done) | (go_simp; rfl)); intro gb278 hg w4 hbox hb; have n0_ := Aside0.mk (below_step (by repeat (first | (with_reducible first | exact HB.out | apply below_alloc | apply pw_below_drewN | apply below_drew1) | exact HB.out)) hb); have n1_ := Aside0.mk (hbox); have n2_ := Aside0.mk ((by rw [hg]; exact (below_size (by repeat (first | (with_reducible first | exact HB.out | apply below_alloc | apply pw_below_drewN | apply below_drew1) | exact HB.out))) : w.heap.size ≤ gb278)); have n3_ := Aside0.mk ((by rw [hg]; exact (below_size (by repeat (first | (with_reducible first | exact HB.out | apply below_alloc | apply pw_below_drewN | apply below_drew1) | exact HB.out))) : w.heap.size ≤ gb278)); clear HB; have HB := n0_; have BK278 := n1_; have GW278 := n2_; have GE278 := n3_; clear n0_ n1_ n2_ n3_; clear hb hbox hg; have hcz5_0 : w4.cell? ⟨gb278, 0, none⟩ = some (.slice A0_0 l0_0.length c0_0) := (blk_cell BK278.out 0).trans rfl; have hcz5_1 : w4.cell? ⟨gb278, 1, none⟩ = some (.int .i64 a0_1) := (blk_cell BK278.out 1).trans rfl; have hcz5_2 : w4.cell? ⟨gb278, 2, none⟩ = some (.int .i64 a0_2) := (blk_cell BK278.out 2).trans rfl; have hcz5_3 : w4.cell? ⟨gb278, 3, none⟩ = some (.bool a0_3) := (blk_cell BK278.out 3).trans rfl; have hfz5_0 := blk_frozen BK278.out 0; have hfz5_1 := blk_frozen BK278.out 1; have hfz5_2 := blk_frozen BK278.out 2; have hfz5_3 := blk_frozen BK278.out 3) | ((with_reducible refine gate_callee (f := 18) rfl ?_); refine goesL_ (some 9) rfl rfl Try.func18 (by kernel_rfl) rfl #[.agg #[.slice A0_0 l0_0.length c0_0, .int .i64 a0_1, .int .i64 a0_2, .bool a0_3], .int .i64 1048576] rfl (by (try simp only [List.map_toArray, List.map_cons, List.map_nil]); first | done | rfl | (simp only [List.length_drop, List.length_take]; rfl)) ?_; (with_reducible refine (laws_szStore.calls k _ _ l0_0 a0_1 a0_2 a0_3 1048576 t279 _ ?side1 ?side2 A2.out).mono ?_); (case side1 => repeat (first | exact (Kd.C_below HR0_0.out HB.out) | (with_reducible refine Kd.C_alloc ?_ _) | (with_reducible refine Kd.C_drewN ?_ _) | (with_reducible refine Kd.C_drew ?_))); (case side2 => exact HC0_0.out); rintro e w6 ⟨rfl, hb⟩; refine ⟨_, rfl, ?_⟩; have n0_ := Aside0.mk (blk_below (g := gb278) (o := .cells #[.slice A0_0 l0_0.length c0_0, .int .i64 a0_1, .int .i64 a0_2, .bool a0_3] 45 (0, 0)) (by (with_reducible repeat (first | refine blk_drewN ?_ _ | refine blk_drew ?_ | refine blk_alloc ?_ _)); exact BK278.out) hb); have n1_ := Aside0.mk (below_step (by repeat (first | (with_reducible first | exact HB.out | apply below_alloc | apply pw_below_drewN | apply below_drew1 | refine below_set ?_ GE278.out) | exact HB.out)) hb); clear BK278; clear HB; have BK278 := n0_; have HB := n1_; clear n0_ n1_; (try clear hb); (try clear hb2); (try clear hk); (try clear hi)))
  go_ret
  exact ⟨by first | rfl | (simp [errW_none, errW_some] <;> rfl) | (simp [*, errW_none, errW_some] <;> rfl), by repeat (first | (with_reducible first | exact HB.out | apply below_alloc | apply pw_below_drewN | apply below_drew1 | refine below_set ?_ GE278.out) | exact HB.out)⟩
 ·rw [if_neg c3] at H
  have c3b0 : decide (t279 < 0) = false := decide_eq_false c3
  clear c3
  replace H := Option.bind_eq_some_iff.mp H
  obtain ⟨⟨t280, t283, t284, t285⟩, A70, H⟩ := H
  replace H : ((spec_StoreValid.f k t280 t283 t284 t285).bind fun t286 => ((laws_toStore.f k l0_0 a0_1 a0_2 a0_3).bind fun bt287 => ((impl_StoreValid.f k bt287.1 bt287.2.1 bt287.2.2.1 bt287.2.2.2).bind fun t294 => (if (t294 != t286) = true then (some false) else ((laws_toStore.f k l0_0 a0_1 a0_2 a0_3).bind fun bt295 => ((laws_eqStore.f k bt287.1 bt287.2.1 bt287.2.2.1 bt287.2.2.2 bt295.1 bt295.2.1 bt295.2.2.1 bt295.2.2.2).bind fun t301 => (if t301 = true then (some true) else (some false)))))))) = some true := H
  have A7 := Aside0.mk A70
  clear A70
  replace H := Option.bind_eq_some_iff.mp H
  obtain ⟨t286, A80, H⟩ := H
  replace H : ((laws_toStore.f k l0_0 a0_1 a0_2 a0_3).bind fun bt287 => ((impl_StoreValid.f k bt287.1 bt287.2.1 bt287.2.2.1 bt287.2.2.2).bind fun t294 => (if (t294 != t286) = true then (some false) else ((laws_toStore.f k l0_0 a0_1 a0_2 a0_3).bind fun bt295 => ((laws_eqStore.f k bt287.1 bt287.2.1 bt287.2.2.1 bt287.2.2.2 bt295.1 bt295.2.1 bt295.2.2.1 bt295.2.2.2).bind fun t301 => (if t301 = true then (some true) else (some false))))))) = some true := H
  have A8 := Aside0.mk A80
  clear A80
  replace H := Option.bind_eq_some_iff.mp H
  obtain ⟨⟨t287, t290, t291, t292⟩, A90, H⟩ := H
  replace H : ((impl_StoreValid.f k t287 t290 t291 t292).bind fun t294 => (if (t294 != t286) = true then (some false) else ((laws_toStore.f k l0_0 a0_1 a0_2 a0_3).bind fun bt295 => ((laws_eqStore.f k t287 t290 t291 t292 bt295.1 bt295.2.1 bt295.2.2.1 bt295.2.2.2).bind fun t301 => (if t301 = true then (some true) else (some false)))))) = some true := H
  have A9 := Aside0.mk A90
  clear A90
  replace H := Option.bind_eq_some_iff.mp H
  obtain ⟨t294, A100, H⟩ := H
  replace H : (if (t294 != t286) = true then (some false) else ((laws_toStore.f k l0_0 a0_1 a0_2 a0_3).bind fun bt295 => ((laws_eqStore.f k t287 t290 t291 t292 bt295.1 bt295.2.1 bt295.2.2.1 bt295.2.2.2).bind fun t301 => (if t301 = true then (some true) else (some false))))) = some true := H
  have A10 := Aside0.mk A100
  clear A100
  by_cases c11 : (t294 != t286) = true
  ·rw [if_pos c11] at H
   have c11b0 : (t294 != t286) = true := c11
   (try (have c11b1 : decide (t294 = t286) = false := by simpa using c11))
   (try (have c11b2 : (t294 == t286) = false := by simpa using c11))
   (try (have c11b3 : ¬ (t294 = t286) := by simpa using c11))
   clear c11
   exact absurd (Option.some.inj H) (by decide)
  ·rw [if_neg c11] at H
   have c11b0 : (t294 != t286) = false := by simpa using c11
   (try (have c11b1 : decide (t294 = t286) = true := by simpa using c11))
   (try (have c11b2 : (t294 == t286) = true := by simpa using c11))
   clear c11
   replace H := Option.bind_eq_some_iff.mp H
   obtain ⟨⟨t295, t298, t299, t300⟩, A120, H⟩ := H
   replace H : ((laws_eqStore.f k t287 t290 t291 t292 t295 t298 t299 t300).bind fun t301 => (if t301 = true then (some true) else (some false))) = some true := H
   have A12 := Aside0.mk A120
   clear A120
   replace H := Option.bind_eq_some_iff.mp H
   obtain ⟨t301, A130, H⟩ := H
   replace H : (if t301 = true then (some true) else (some false)) = some true := H
   have A13 := Aside0.mk A130
   clear A130
   by_cases c14 : t301 = true
   ·subst c14
    have H1 : (some true) = some true := by first | (rw [if_pos rfl] at H; exact H) | rfl
    clear H
    have H := H1
    clear H1
    clear H
    go_enter Try.func5, Try.ntmps5
    try go_wp2_with (first | ((with_reducible refine gate_dst (N := 1) rfl ?_); refine box_event ?hg (N := 1) ?hd (cs := #[.slice A0_0 l0_0.length c0_0, .int .i64 a0_1, .int .i64 a0_2, .bool a0_3]) (t := 45) ?hr ?_; (case hd => rfl); (case hg => rfl); (case hr => first | (go_simp; done) | (go_simp; rfl)); intro gb278 hg w15 hbox hb; have n0_ := Aside0.mk (below_step (by repeat (first | (with_reducible first | exact HB.out | apply below_alloc | apply pw_below_drewN | apply below_drew1) | exact HB.out)) hb); have n1_ := Aside0.mk (hbox); have n2_ := Aside0.mk ((by rw [hg]; exact (below_size (by repeat (first | (with_reducible first | exact HB.out | apply below_alloc | apply pw_below_drewN | apply below_drew1) | exact HB.out))) : w.heap.size ≤ gb278)); have n3_ := Aside0.mk ((by rw [hg]; exact (below_size (by repeat (first | (with_reducible first | exact HB.out | apply below_alloc | apply pw_below_drewN | apply below_drew1) | exact HB.out))) : w.heap.size ≤ gb278)); clear HB; have HB := n0_; have BK278 := n1_; have GW278 := n2_; have GE278 := n3_; clear n0_ n1_ n2_ n3_; clear hb hbox hg; have hcz16_0 : w15.cell? ⟨gb278, 0, none⟩ = some (.slice A0_0 l0_0.length c0_0) := (blk_cell BK278.out 0).trans rfl; have hcz16_1 : w15.cell? ⟨gb278, 1, none⟩ = some (.int .i64 a0_1) := (blk_cell BK278.out 1).trans rfl; have hcz16_2 : w15.cell? ⟨gb278, 2, none⟩ = some (.int .i64 a0_2) := (blk_cell BK278.out 2).trans rfl; have hcz16_3 : w15.cell? ⟨gb278, 3, none⟩ = some (.bool a0_3) := (blk_cell BK278.out 3).trans rfl; have hfz16_0 := blk_frozen BK278.out 0; have hfz16_1 := blk_frozen BK278.out 1; have hfz16_2 := blk_frozen BK278.out 2; have hfz16_3 := blk_frozen BK278.out 3) | ((with_reducible refine gate_callee (f := 18) rfl ?_); refine goesL_ (some 9) rfl rfl Try.func18 (by kernel_rfl) rfl #[.agg #[.slice A0_0 l0_0.length c0_0, .int .i64 a0_1, .int .i64 a0_2, .bool a0_3], .int .i64 1048576] rfl (by (try simp only [List.map_toArray, List.map_cons, List.map_nil]); first | done | rfl | (simp only [List.length_drop, List.length_take]; rfl)) ?_; (with_reducible refine (laws_szStore.calls k _ _ l0_0 a0_1 a0_2 a0_3 1048576 t279 _ ?side1 ?side2 A2.out).mono ?_); (case side1 => repeat (first | exact (Kd.C_below HR0_0.out HB.out) | (with_reducible refine Kd.C_alloc ?_ _) | (with_reducible refine Kd.C_drewN ?_ _) | (with_reducible refine Kd.C_drew ?_))); (case side2 => exact HC0_0.out); rintro e w17 ⟨rfl, hb⟩; refine ⟨_, rfl, ?_⟩; have n0_ := Aside0.mk (blk_below (g := gb278) (o := .cells #[.slice A0_0 l0_0.length c0_0, .int .i64 a0_1, .int .i64 a0_2, .bool a0_3] 45 (0, 0)) (by (with_reducible repeat (first | refine blk_drewN ?_ _ | refine blk_drew ?_ | refine blk_alloc ?_ _)); exact BK278.out) hb); have n1_ := Aside0.mk (below_step (by repeat (first | (with_reducible first | exact HB.out | apply below_alloc | apply pw_below_drewN | apply below_drew1 | refine below_set ?_ GE278.out) | exact HB.out)) hb); clear BK278; clear HB; have BK278 := n0_; have HB := n1_; clear n0_ n1_; (try clear hb); (try clear hb2); (try clear hk); (try clear hi); have hcz18_0 : w17.cell? ⟨gb278, 0, none⟩ = some (.slice A0_0 l0_0.length c0_0) := (blk_cell BK278.out 0).trans rfl; have hcz18_1 : w17.cell? ⟨gb278, 1, none⟩ = some (.int .i64 a0_1) := (blk_cell BK278.out 1).trans rfl; have hcz18_2 : w17.cell? ⟨gb278, 2, none⟩ = some (.int .i64 a0_2) := (blk_cell BK278.out 2).trans rfl; have hcz18_3 : w17.cell? ⟨gb278, 3, none⟩ = some (.bool a0_3) := (blk_cell BK278.out 3).trans rfl; have hfz18_0 := blk_frozen BK278.out 0; have hfz18_1 := blk_frozen BK278.out 1; have hfz18_2 := blk_frozen BK278.out 2; have hfz18_3 := blk_frozen BK278.out 3) | ((with_reducible refine gate_callee (f := 20) rfl ?_); refine goesL_ (some 13) rfl rfl Try.func20 (by kernel_rfl) rfl #[.agg #[.slice A0_0 l0_0.length c0_0, .int .i64 a0_1, .int .i64 a0_2, .bool a0_3]] rfl (by (try simp only [List.map_toArray, List.map_cons, List.map_nil]); first | done | rfl | (simp only [List.length_drop, List.length_take]; rfl)) ?_; (with_reducible refine (laws_toStore.calls k _ _ l0_0 a0_1 a0_2 a0_3 t280 t283 t284 t285 _ ?side1 ?side2 A7.out).mono ?_); (case side1 => repeat (first | exact (Kd.C_below HR0_0.out HB.out) | (with_reducible refine Kd.C_alloc ?_ _) | (with_reducible refine Kd.C_drewN ?_ _) | (with_reducible refine Kd.C_drew ?_))); (case side2 => exact HC0_0.out); rintro e w19 ⟨v281, rfl, ho0, hb⟩; refine ⟨_, rfl, ?_⟩; have n0_ := Aside0.mk (Kd.S_lower ho0 (below_size (by repeat (first | (with_reducible first | exact HB.out | apply below_alloc | apply pw_below_drewN | apply below_drew1 | refine below_set ?_ GE278.out) | exact HB.out)))); have n1_ := Aside0.mk (blk_below (g := gb278) (o := .cells #[.slice A0_0 l0_0.length c0_0, .int .i64 a0_1, .int .i64 a0_2, .bool a0_3] 45 (0, 0)) (by (with_reducible repeat (first | refine blk_drewN ?_ _ | refine blk_drew ?_ | refine blk_alloc ?_ _)); exact BK278.out) hb); have n2_ := Aside0.mk (below_step (by repeat (first | (with_reducible first | exact HB.out | apply below_alloc | apply pw_below_drewN | apply below_drew1 | refine below_set ?_ GE278.out) | exact HB.out)) hb); clear BK278; clear HB; have HO282 := n0_; have BK278 := n1_; have HB := n2_; clear n0_ n1_ n2_; (try clear hb); (try clear hb2); (try clear hk); (try clear hi); (try clear ho0); obtain ⟨Ao20, co20, eo20⟩ := Kd.S_slice HO282.out; subst eo20) | ((with_reducible refine gate_callee (f := 19) rfl ?_); refine goesL_ (some 14) rfl rfl Try.func19 (by kernel_rfl) rfl #[.agg #[.slice Ao20 t280.length co20, .int .i64 t283, .int .i64 t284, .bool t285]] rfl (by (try simp only [List.map_toArray, List.map_cons, List.map_nil]); first | done | rfl | (simp only [List.length_drop, List.length_take]; rfl)) ?_; (with_reducible refine (spec_StoreValid.calls k _ _ t280 t283 t284 t285 t286 _ ?side1 ?side2 A8.out).mono ?_); (case side1 => repeat (first | exact (Kd.S_reads' HO282.out).2.2 | (with_reducible refine Kd.C_alloc ?_ _) | (with_reducible refine Kd.C_drewN ?_ _) | (with_reducible refine Kd.C_drew ?_))); (case side2 => exact (Kd.S_reads' HO282.out).2.1); rintro e w21 ⟨rfl, hb⟩; refine ⟨_, rfl, ?_⟩; have n0_ := Aside0.mk (Kd.S_below (by (with_reducible repeat (first | apply Kd.S_alloc | apply Kd.S_drewN | apply Kd.S_drew)); exact HO282.out) hb); have n1_ := Aside0.mk (blk_below (g := gb278) (o := .cells #[.slice A0_0 l0_0.length c0_0, .int .i64 a0_1, .int .i64 a0_2, .bool a0_3] 45 (0, 0)) (by (with_reducible repeat (first | refine blk_drewN ?_ _ | refine blk_drew ?_ | refine blk_alloc ?_ _)); exact BK278.out) hb); have n2_ := Aside0.mk (below_step (by repeat (first | (with_reducible first | exact HB.out | apply below_alloc | apply pw_below_drewN | apply below_drew1 | refine below_set ?_ GE278.out) | exact HB.out)) hb); clear HO282; clear BK278; clear HB; have HO282 := n0_; have BK278 := n1_; have HB := n2_; clear n0_ n1_ n2_; (try clear hb); (try clear hb2); (try clear hk); (try clear hi); have hcz22_0 : w21.cell? ⟨gb278, 0, none⟩ = some (.slice A0_0 l0_0.length c0_0) := (blk_cell BK278.out 0).trans rfl; have hcz22_1 : w21.cell? ⟨gb278, 1, none⟩ = some (.int .i64 a0_1) := (blk_cell BK278.out 1).trans rfl; have hcz22_2 : w21.cell? ⟨gb278, 2, none⟩ = some (.int .i64 a0_2) := (blk_cell BK278.out 2).trans rfl; have hcz22_3 : w21.cell? ⟨gb278, 3, none⟩ = some (.bool a0_3) := (blk_cell BK278.out 3).trans rfl; have hfz22_0 := blk_frozen BK278.out 0; have hfz22_1 := blk_frozen BK278.out 1; have hfz22_2 := blk_frozen BK278.out 2; have hfz22_3 := blk_frozen BK278.out 3) | ((with_reducible refine gate_callee (f := 20) rfl ?_); refine goesL_ (some 16) rfl rfl Try.func20 (by kernel_rfl) rfl #[.agg #[.slice A0_0 l0_0.length c0_0, .int .i64 a0_1, .int .i64 a0_2, .bool a0_3]] rfl (by (try simp only [List.map_toArray, List.map_cons, List.map_nil]); first | done | rfl | (simp only [List.length_drop, List.length_take]; rfl)) ?_; (with_reducible refine (laws_toStore.calls k _ _ l0_0 a0_1 a0_2 a0_3 t287 t290 t291 t292 _ ?side1 ?side2 A9.out).mono ?_); (case side1 => repeat (first | exact (Kd.C_below HR0_0.out HB.out) | (with_reducible refine Kd.C_alloc ?_ _) | (with_reducible refine Kd.C_drewN ?_ _) | (with_reducible refine Kd.C_drew ?_))); (case side2 => exact HC0_0.out); rintro e w23 ⟨v288, rfl, ho0, hb⟩; refine ⟨_, rfl, ?_⟩; have n0_ := Aside0.mk (Kd.S_elder' (by (with_reducible repeat (first | apply Kd.S_alloc | apply Kd.S_drewN | apply Kd.S_drew)); exact HO282.out) (Kd.S_base ho0) hb); have n1_ := Aside0.mk (Kd.S_lower (Kd.S_new' ho0 (Kd.S_lt (by (with_reducible repeat (first | apply Kd.S_alloc | apply Kd.S_drewN | apply Kd.S_drew)); exact HO282.out))) (below_size (by repeat (first | (with_reducible first | exact HB.out | apply below_alloc | apply pw_below_drewN | apply below_drew1 | refine below_set ?_ GE278.out) | exact HB.out)))); have n2_ := Aside0.mk (blk_below (g := gb278) (o := .cells #[.slice A0_0 l0_0.length c0_0, .int .i64 a0_1, .int .i64 a0_2, .bool a0_3] 45 (0, 0)) (by (with_reducible repeat (first | refine blk_drewN ?_ _ | refine blk_drew ?_ | refine blk_alloc ?_ _)); exact BK278.out) hb); have n3_ := Aside0.mk (below_step (by repeat (first | (with_reducible first | exact HB.out | apply below_alloc | apply pw_below_drewN | apply below_drew1 | refine below_set ?_ GE278.out) | exact HB.out)) hb); clear HO282; clear BK278; clear HB; have HO282 := n0_; have HO289 := n1_; have BK278 := n2_; have HB := n3_; clear n0_ n1_ n2_ n3_; (try clear hb); (try clear hb2); (try clear hk); (try clear hi); (try clear ho0)) | ((with_reducible refine gate_dst (N := 5) rfl ?_); refine box_event ?hg (N := 5) ?hd (cs := #[.slice none 0 0, .int .i64 0, .int .i64 0, .bool false]) (t := 50) ?hr ?_; (case hd => rfl); (case hg => rfl); (case hr => first | (go_simp; done) | (go_simp; rfl)); intro gb293 hg w24 hbox hb; have n0_ := Aside0.mk (Kd.S_below (by (with_reducible repeat (first | apply Kd.S_alloc | apply Kd.S_drewN | apply Kd.S_drew)); exact HO282.out) hb); have n1_ := Aside0.mk (Kd.S_below (by (with_reducible repeat (first | apply Kd.S_alloc | apply Kd.S_drewN | apply Kd.S_drew)); exact HO289.out) hb); have n2_ := Aside0.mk (blk_below (g := gb278) (o := .cells #[.slice A0_0 l0_0.length c0_0, .int .i64 a0_1, .int .i64 a0_2, .bool a0_3] 45 (0, 0)) (by (with_reducible repeat (first | refine blk_drewN ?_ _ | refine blk_drew ?_ | refine blk_alloc ?_ _)); exact BK278.out) hb); have n3_ := Aside0.mk (below_step (by repeat (first | (with_reducible first | exact HB.out | apply below_alloc | apply pw_below_drewN | apply below_drew1 | refine below_set ?_ GE278.out) | exact HB.out)) hb); have n4_ := Aside0.mk (hbox); have n5_ := Aside0.mk ((by rw [hg]; exact (below_size (by repeat (first | (with_reducible first | exact HB.out | apply below_alloc | apply pw_below_drewN | apply below_drew1 | refine below_set ?_ GE278.out) | exact HB.out))) : w.heap.size ≤ gb293)); have n6_ := Aside0.mk ((by rw [hg]; exact (below_size (by repeat (first | (with_reducible first | exact HB.out | apply below_alloc | apply pw_below_drewN | apply below_drew1 | refine below_set ?_ GE278.out) | exact HB.out))) : w.heap.size ≤ gb293)); have n7_ := Aside0.mk ((by rw [hg]; exact Nat.ne_of_lt (blk_lt (g := gb278) (o := .cells #[.slice A0_0 l0_0.length c0_0, .int .i64 a0_1, .int .i64 a0_2, .bool a0_3] 45 (0, 0)) (by (with_reducible repeat (first | refine blk_drewN ?_ _ | refine blk_drew ?_ | refine blk_alloc ?_ _)); exact BK278.out)) : gb278 ≠ gb293)); have n8_ := Aside0.mk ((by rw [hg]; exact Nat.ne_of_gt (blk_lt (g := gb278) (o := .cells #[.slice A0_0 l0_0.length c0_0, .int .i64 a0_1, .int .i64 a0_2, .bool a0_3] 45 (0, 0)) (by (with_reducible repeat (first | refine blk_drewN ?_ _ | refine blk_drew ?_ | refine blk_alloc ?_ _)); exact BK278.out)) : gb293 ≠ gb278)); clear HO282; clear HO289; clear BK278; clear HB; have HO282 := n0_; have HO289 := n1_; have BK278 := n2_; have HB := n3_; have BK293 := n4_; have GW293 := n5_; have GE293 := n6_; have NB278_293 := n7_; have NB293_278 := n8_; clear n0_ n1_ n2_ n3_ n4_ n5_ n6_ n7_ n8_; clear hb hbox hg; obtain ⟨Ao25, co25, eo25⟩ := Kd.S_slice HO289.out; subst eo25; have hnb26 := NB293_278.out; have hnc26 := NB278_293.out; have hcz27_0 : w24.cell? ⟨gb293, 0, none⟩ = some (.slice none 0 0) := (blk_cell BK293.out 0).trans rfl; have hcz27_1 : w24.cell? ⟨gb293, 1, none⟩ = some (.int .i64 0) := (blk_cell BK293.out 1).trans rfl; have hcz27_2 : w24.cell? ⟨gb293, 2, none⟩ = some (.int .i64 0) := (blk_cell BK293.out 2).trans rfl; have hcz27_3 : w24.cell? ⟨gb293, 3, none⟩ = some (.bool false) := (blk_cell BK293.out 3).trans rfl; have hfz27_0 := blk_frozen BK293.out 0; have hfz27_1 := blk_frozen BK293.out 1; have hfz27_2 := blk_frozen BK293.out 2; have hfz27_3 := blk_frozen BK293.out 3) | ((with_reducible refine gate_callee (f := 21) rfl ?_); refine goesL_ (some 18) rfl rfl Try.func21 (by kernel_rfl) rfl #[.agg #[.slice Ao25 t287.length co25, .int .i64 t290, .int .i64 t291, .bool t292]] rfl (by (try simp only [List.map_toArray, List.map_cons, List.map_nil]); first | done | rfl | (simp only [List.length_drop, List.length_take]; rfl)) ?_; (with_reducible refine (impl_StoreValid.calls k _ _ t287 t290 t291 t292 t294 _ ?side1 ?side2 A10.out).mono ?_); (case side1 => refine (Kd.S_reads' (e := 38) (base := w.heap.size) (ok := fun k_ => (True ∧ some k_ ≠ (.slice Ao20 t280.length co20 : Value).ownBlock)) (n := t287.length) (c := co25) ?_).2.2; exact (by (with_reducible repeat (first | apply Kd.S_alloc | apply Kd.S_drewN | apply Kd.S_drew)); exact (Kd.S_mono (Kd.S_far (p := ⟨gb293, 3, none⟩) (Kd.S_far (p := ⟨gb293, 2, none⟩) (Kd.S_far (p := ⟨gb293, 1, none⟩) (Kd.S_far (p := ⟨gb293, 0, none⟩) (Kd.S_types HO289.out BK293.out (by decide)) (fun _ hk => hk.2) (.slice Ao25 t287.length co25)) (fun _ hk => hk.2) (.int .i64 t290)) (fun _ hk => hk.2) (.int .i64 t291)) (fun _ hk => hk.2) (.bool t292)) (fun _ h_ => h_.1)))); (case side2 => exact (Kd.S_reads' HO289.out).2.1); rintro e w28 ⟨rfl, hb⟩; refine ⟨_, rfl, ?_⟩; have n0_ := Aside0.mk (Kd.S_below (by (with_reducible repeat (first | apply Kd.S_alloc | apply Kd.S_drewN | apply Kd.S_drew)); exact (Kd.S_mono (Kd.S_far (p := ⟨gb293, 3, none⟩) (Kd.S_far (p := ⟨gb293, 2, none⟩) (Kd.S_far (p := ⟨gb293, 1, none⟩) (Kd.S_far (p := ⟨gb293, 0, none⟩) (Kd.S_types HO282.out BK293.out (by decide)) (fun _ hk => hk.2) (.slice Ao25 t287.length co25)) (fun _ hk => hk.2) (.int .i64 t290)) (fun _ hk => hk.2) (.int .i64 t291)) (fun _ hk => hk.2) (.bool t292)) (fun _ h_ => h_.1))) hb); have n1_ := Aside0.mk (Kd.S_below (by (with_reducible repeat (first | apply Kd.S_alloc | apply Kd.S_drewN | apply Kd.S_drew)); exact (Kd.S_mono (Kd.S_far (p := ⟨gb293, 3, none⟩) (Kd.S_far (p := ⟨gb293, 2, none⟩) (Kd.S_far (p := ⟨gb293, 1, none⟩) (Kd.S_far (p := ⟨gb293, 0, none⟩) (Kd.S_types HO289.out BK293.out (by decide)) (fun _ hk => hk.2) (.slice Ao25 t287.length co25)) (fun _ hk => hk.2) (.int .i64 t290)) (fun _ hk => hk.2) (.int .i64 t291)) (fun _ hk => hk.2) (.bool t292)) (fun _ h_ => h_.1))) hb); have n2_ := Aside0.mk (blk_below (g := gb278) (o := .cells #[.slice A0_0 l0_0.length c0_0, .int .i64 a0_1, .int .i64 a0_2, .bool a0_3] 45 (0, 0)) (by (with_reducible repeat (first | refine blk_drewN ?_ _ | refine blk_drew ?_ | refine blk_alloc ?_ _)); refine blk_far ?_ NB278_293.out _; (with_reducible repeat (first | refine blk_drewN ?_ _ | refine blk_drew ?_ | refine blk_alloc ?_ _)); refine blk_far ?_ NB278_293.out _; (with_reducible repeat (first | refine blk_drewN ?_ _ | refine blk_drew ?_ | refine blk_alloc ?_ _)); refine blk_far ?_ NB278_293.out _; (with_reducible repeat (first | refine blk_drewN ?_ _ | refine blk_drew ?_ | refine blk_alloc ?_ _)); refine blk_far ?_ NB278_293.out _; (with_reducible repeat (first | refine blk_drewN ?_ _ | refine blk_drew ?_ | refine blk_alloc ?_ _)); exact BK278.out) hb); have n3_ := Aside0.mk (blk_below (g := gb293) (o := .cells #[.slice Ao25 t287.length co25, .int .i64 t290, .int .i64 t291, .bool t292] 50 (0, 0)) (by (with_reducible repeat (first | refine blk_drewN ?_ _ | refine blk_drew ?_ | refine blk_alloc ?_ _)); refine blk_put (cs := #[.slice Ao25 t287.length co25, .int .i64 t290, .int .i64 t291, .bool false]) ?_ 3 _ rfl; (with_reducible repeat (first | refine blk_drewN ?_ _ | refine blk_drew ?_ | refine blk_alloc ?_ _)); refine blk_put (cs := #[.slice Ao25 t287.length co25, .int .i64 t290, .int .i64 0, .bool false]) ?_ 2 _ rfl; (with_reducible repeat (first | refine blk_drewN ?_ _ | refine blk_drew ?_ | refine blk_alloc ?_ _)); refine blk_put (cs := #[.slice Ao25 t287.length co25, .int .i64 0, .int .i64 0, .bool false]) ?_ 1 _ rfl; (with_reducible repeat (first | refine blk_drewN ?_ _ | refine blk_drew ?_ | refine blk_alloc ?_ _)); refine blk_put (cs := #[.slice none 0 0, .int .i64 0, .int .i64 0, .bool false]) ?_ 0 _ rfl; (with_reducible repeat (first | refine blk_drewN ?_ _ | refine blk_drew ?_ | refine blk_alloc ?_ _)); exact BK293.out) hb); have n4_ := Aside0.mk (below_step (by repeat (first | (with_reducible first | exact HB.out | apply below_alloc | apply pw_below_drewN | apply below_drew1 | refine below_set ?_ GE278.out | refine below_set ?_ GE293.out) | exact HB.out)) hb); clear HO282; clear HO289; clear BK278; clear BK293; clear HB; have HO282 := n0_; have HO289 := n1_; have BK278 := n2_; have BK293 := n3_; have HB := n4_; clear n0_ n1_ n2_ n3_ n4_; (try clear hb); (try clear hb2); (try clear hk); (try clear hi)))
    have n0_ := Aside0.mk (Kd.S_drew HO282.out)
    have n1_ := Aside0.mk (Kd.S_drew HO289.out)
    have n2_ := Aside0.mk (blk_drew BK278.out)
    have n3_ := Aside0.mk (blk_drew BK293.out)
    have n4_ := Aside0.mk (below_drew1 HB.out)
    clear HO282
    clear HO289
    clear BK278
    clear BK293
    clear HB
    have HO282 := n0_
    have HO289 := n1_
    have BK278 := n2_
    have BK293 := n3_
    have HB := n4_
    clear n0_ n1_ n2_ n3_ n4_
    refine start_ (n := 5) (S := fun w' => w'.cell? ⟨gb293, 0, none⟩ = some (.slice Ao25 t287.length co25) ∧ w'.cell? ⟨gb293, 1, none⟩ = some (.int .i64 t290) ∧ w'.cell? ⟨gb293, 2, none⟩ = some (.int .i64 t291) ∧ w'.cell? ⟨gb293, 3, none⟩ = some (.bool t292) ∧ w'.cell? ⟨gb278, 0, none⟩ = some (.slice A0_0 l0_0.length c0_0) ∧ w'.cell? ⟨gb278, 1, none⟩ = some (.int .i64 a0_1) ∧ w'.cell? ⟨gb278, 2, none⟩ = some (.int .i64 a0_2) ∧ w'.cell? ⟨gb278, 3, none⟩ = some (.bool a0_3)) (ds := []) #[false, false, false, false, false] (by kernel_rfl) rfl rfl ⟨(blk_cell BK293.out 0).trans rfl, (blk_cell BK293.out 1).trans rfl, (blk_cell BK293.out 2).trans rfl, (blk_cell BK293.out 3).trans rfl, (blk_cell BK278.out 0).trans rfl, (blk_cell BK278.out 1).trans rfl, (blk_cell BK278.out 2).trans rfl, (blk_cell BK278.out 3).trans rfl⟩ (fun hHeld => ?_)
    generalize w28.drew = w29 at HO282 HO289 BK278 BK293 HB hHeld ⊢
    refine take_ (i := 0) (N := some 22) (v := ?_) (a' := ?_) #[true, false, false, false, false] rfl rfl (by kernel_rfl) (fun _ _ _ h => h) (Or.inl ⟨by rfl, ?_⟩) hHeld ?_ ?_
    rotate_left
    ·rintro w' ⟨s0, s1, s2, s3, s4, s5, s6, s7⟩
     go_simp
     with_reducible rfl
    rotate_left
    ·simp only [Act.put, List.setIfInBounds_toArray, List.set_cons_zero, List.set_cons_succ, i64_w, i32_w]
     rfl
    refine take_ (i := 1) (N := some 23) (v := ?_) (a' := ?_) #[true, true, false, false, false] rfl rfl (by kernel_rfl) (fun _ _ _ h => h) (Or.inl ⟨by rfl, ?_⟩) hHeld ?_ ?_
    rotate_left
    ·rintro w' ⟨s0, s1, s2, s3, s4, s5, s6, s7⟩
     go_simp
     with_reducible rfl
    rotate_left
    ·simp only [Act.put, List.setIfInBounds_toArray, List.set_cons_zero, List.set_cons_succ, i64_w, i32_w]
     rfl
    refine one_ (i := 2) (N := some 24) #[true, true, true, false, false] rfl rfl (by kernel_rfl) (by decide) (fun K hK => ?_)
    refine goes_ Try.func20 (by kernel_rfl) rfl #[.agg #[.slice A0_0 l0_0.length c0_0, .int .i64 a0_1, .int .i64 a0_2, .bool a0_3]] (by rfl) rfl rfl (by (try simp only [List.map_toArray, List.map_cons, List.map_nil]); first | done | rfl | (simp only [List.length_drop, List.length_take]; rfl)) ?_
    with_reducible refine (laws_toStore.calls k _ _ l0_0 a0_1 a0_2 a0_3 t295 t298 t299 t300 _ ?side1 ?side2 A12.out).mono ?_
    (case side1 => repeat (first | exact (Kd.C_below HR0_0.out HB.out) | (with_reducible refine Kd.C_alloc ?_ _) | (with_reducible refine Kd.C_drewN ?_ _) | (with_reducible refine Kd.C_drew ?_)))
    (case side2 => exact HC0_0.out)
    rintro e w30 ⟨v296, rfl, ho0, hb⟩
    refine ⟨_, rfl, ?_⟩
    have n0_ := Aside0.mk (Kd.S_elder' (by (with_reducible repeat (first | apply Kd.S_alloc | apply Kd.S_drewN | apply Kd.S_drew)); exact HO282.out) (Kd.S_base ho0) hb)
    have n1_ := Aside0.mk (Kd.S_elder' (by (with_reducible repeat (first | apply Kd.S_alloc | apply Kd.S_drewN | apply Kd.S_drew)); exact HO289.out) (Kd.S_base ho0) hb)
    have n2_ := Aside0.mk (Kd.S_lower (Kd.S_new' (Kd.S_new' ho0 (Kd.S_lt (by (with_reducible repeat (first | apply Kd.S_alloc | apply Kd.S_drewN | apply Kd.S_drew)); exact HO282.out))) (Kd.S_lt (by (with_reducible repeat (first | apply Kd.S_alloc | apply Kd.S_drewN | apply Kd.S_drew)); exact HO289.out))) (below_size (by repeat (first | (with_reducible first | exact HB.out | apply below_alloc | apply pw_below_drewN | apply below_drew1 | refine below_set ?_ GE278.out | refine below_set ?_ GE293.out) | exact HB.out))))
    have n3_ := Aside0.mk (blk_below (g := gb278) (o := .cells #[.slice A0_0 l0_0.length c0_0, .int .i64 a0_1, .int .i64 a0_2, .bool a0_3] 45 (0, 0)) (by (with_reducible repeat (first | refine blk_drewN ?_ _ | refine blk_drew ?_ | refine blk_alloc ?_ _)); exact BK278.out) hb)
    have n4_ := Aside0.mk (blk_below (g := gb293) (o := .cells #[.slice Ao25 t287.length co25, .int .i64 t290, .int .i64 t291, .bool t292] 50 (0, 0)) (by (with_reducible repeat (first | refine blk_drewN ?_ _ | refine blk_drew ?_ | refine blk_alloc ?_ _)); exact BK293.out) hb)
    have n5_ := Aside0.mk (below_step (by repeat (first | (with_reducible first | exact HB.out | apply below_alloc | apply pw_below_drewN | apply below_drew1 | refine below_set ?_ GE278.out | refine below_set ?_ GE293.out) | exact HB.out)) hb)
    clear HO282
    clear HO289
    clear BK278
    clear BK293
    clear HB
    have HO282 := n0_
    have HO289 := n1_
    have HO297 := n2_
    have BK278 := n3_
    have BK293 := n4_
    have HB := n5_
    clear n0_ n1_ n2_ n3_ n4_ n5_
    (try clear hb)
    (try clear hb2)
    (try clear hk)
    (try clear hi)
    (try clear ho0)
    obtain ⟨Ao31, co31, eo31⟩ := Kd.S_slice HO297.out
    (first | subst eo31 | (injection eo31 with f1_ f2_ f3_; have f4_ := f1_.symm; have f5_ := f3_.symm; clear f1_ f2_ f3_; subst f4_; subst f5_))
    refine hK.out _ _ ⟨(blk_cell BK293.out 0).trans rfl, (blk_cell BK293.out 1).trans rfl, (blk_cell BK293.out 2).trans rfl, (blk_cell BK293.out 3).trans rfl, (blk_cell BK278.out 0).trans rfl, (blk_cell BK278.out 1).trans rfl, (blk_cell BK278.out 2).trans rfl, (blk_cell BK278.out 3).trans rfl⟩ (fun hHeld => ?_)
    clear hK K
    refine norm_ (a' := ?_) ?_ ?_
    rotate_left
    ·show Act.put _ (some 24) _ = _
     simp only [Act.put, List.setIfInBounds_toArray, List.set_cons_zero, List.set_cons_succ, i64_w, i32_w]
     rfl
    refine one_ (i := 3) (N := some 25) #[true, true, true, true, false] rfl rfl (by kernel_rfl) (by decide) (fun K hK => ?_)
    refine goes_ Try.func22 (by kernel_rfl) rfl #[.agg #[.slice Ao25 t287.length co25, .int .i64 t290, .int .i64 t291, .bool t292], .agg #[.slice Ao31 t295.length co31, .int .i64 t298, .int .i64 t299, .bool t300]] (by rfl) rfl rfl (by (try simp only [List.map_toArray, List.map_cons, List.map_nil]); first | done | rfl | (simp only [List.length_drop, List.length_take]; rfl)) ?_
    with_reducible refine (laws_eqStore.calls k _ _ t287 t290 t291 t292 _ _ t295 t298 t299 t300 true _ ?side1 ?side2 ?side3 ?side4 A13.out).mono ?_
    (case side1 => repeat (first | exact (Kd.S_reads' HO289.out).2.2 | (with_reducible refine Kd.C_alloc ?_ _) | (with_reducible refine Kd.C_drewN ?_ _) | (with_reducible refine Kd.C_drew ?_)))
    (case side2 => exact (Kd.S_reads' HO289.out).2.1)
    (case side3 => repeat (first | exact (Kd.S_reads' HO297.out).2.2 | (with_reducible refine Kd.C_alloc ?_ _) | (with_reducible refine Kd.C_drewN ?_ _) | (with_reducible refine Kd.C_drew ?_)))
    (case side4 => exact (Kd.S_reads' HO297.out).2.1)
    rintro e w32 ⟨rfl, hb⟩
    refine ⟨_, rfl, ?_⟩
    have n0_ := Aside0.mk (Kd.S_below (by (with_reducible repeat (first | apply Kd.S_alloc | apply Kd.S_drewN | apply Kd.S_drew)); exact HO282.out) hb)
    have n1_ := Aside0.mk (Kd.S_below (by (with_reducible repeat (first | apply Kd.S_alloc | apply Kd.S_drewN | apply Kd.S_drew)); exact HO289.out) hb)
    have n2_ := Aside0.mk (Kd.S_below (by (with_reducible repeat (first | apply Kd.S_alloc | apply Kd.S_drewN | apply Kd.S_drew)); exact HO297.out) hb)
    have n3_ := Aside0.mk (blk_below (g := gb278) (o := .cells #[.slice A0_0 l0_0.length c0_0, .int .i64 a0_1, .int .i64 a0_2, .bool a0_3] 45 (0, 0)) (by (with_reducible repeat (first | refine blk_drewN ?_ _ | refine blk_drew ?_ | refine blk_alloc ?_ _)); exact BK278.out) hb)
    have n4_ := Aside0.mk (blk_below (g := gb293) (o := .cells #[.slice Ao25 t287.length co25, .int .i64 t290, .int .i64 t291, .bool t292] 50 (0, 0)) (by (with_reducible repeat (first | refine blk_drewN ?_ _ | refine blk_drew ?_ | refine blk_alloc ?_ _)); exact BK293.out) hb)
    have n5_ := Aside0.mk (below_step (by repeat (first | (with_reducible first | exact HB.out | apply below_alloc | apply pw_below_drewN | apply below_drew1 | refine below_set ?_ GE278.out | refine below_set ?_ GE293.out) | exact HB.out)) hb)
    clear HO282
    clear HO289
    clear HO297
    clear BK278
    clear BK293
    clear HB
    have HO282 := n0_
    have HO289 := n1_
    have HO297 := n2_
    have BK278 := n3_
    have BK293 := n4_
    have HB := n5_
    clear n0_ n1_ n2_ n3_ n4_ n5_
    (try clear hb)
    (try clear hb2)
    (try clear hk)
    (try clear hi)
    refine hK.out _ _ ⟨(blk_cell BK293.out 0).trans rfl, (blk_cell BK293.out 1).trans rfl, (blk_cell BK293.out 2).trans rfl, (blk_cell BK293.out 3).trans rfl, (blk_cell BK278.out 0).trans rfl, (blk_cell BK278.out 1).trans rfl, (blk_cell BK278.out 2).trans rfl, (blk_cell BK278.out 3).trans rfl⟩ (fun hHeld => ?_)
    clear hK K
    refine norm_ (a' := ?_) ?_ ?_
    rotate_left
    ·show Act.put _ (some 25) _ = _
     simp only [Act.put, List.setIfInBounds_toArray, List.set_cons_zero, List.set_cons_succ, i64_w, i32_w]
     rfl
    refine pure_ (i := 4) (N := some 26) (v := ?_) (a' := ?_) #[true, true, true, true, true] rfl rfl (by kernel_rfl) (fun _ _ _ h => h) (Or.inl ⟨by rfl, ?_⟩) ?_ ?_
    rotate_left
    ·intro w'
     go_simp
     with_reducible rfl
    rotate_left
    ·simp only [Act.put, List.setIfInBounds_toArray, List.set_cons_zero, List.set_cons_succ, i64_w, i32_w]
     rfl
    refine done_ (by kernel_rfl) ?_
    try go_wp2
    go_ret
    exact ⟨by first | rfl | (simp [errW_none, errW_some] <;> rfl) | (simp [*, errW_none, errW_some] <;> rfl), by repeat (first | (with_reducible first | exact HB.out | apply below_alloc | apply pw_below_drewN | apply below_drew1 | refine below_set ?_ GE278.out | refine below_set ?_ GE293.out) | exact HB.out)⟩
   ·replace c14 := Bool.eq_false_iff.mpr c14
    subst c14
    have H1 : (some false) = some true := by first | (rw [if_neg (show ¬ (false = true) by decide)] at H; exact H) | rfl
    clear H
    have H := H1
    clear H1
    exact absurd (Option.some.inj H) (by decide)
def laws_szTerm.f (a0_0 : Int) (a0_1 : Int) (a0_2 : ByteArray) (a0_3 : Int) (a0_4 : Int) (a0_5 : ByteArray) (a1 : Int) : Option (Int) := if (wrap64 (a1 - (a0_2.size : Int))) < 0 then (some (-1)) else ((laws_szValue.f a0_3 a0_4 a0_5 (wrap64 (a1 - (a0_2.size : Int)))).bind fun t303 => (if t303 < 0 then (some (-1)) else (some t303)))
end Go.Proofs.Ytoncacdehhmpaaa.P
namespace Go.Proofs.Ytoncacdehhmpaaa.P
open Go.RowKit Go.Proofs.YtoncacdehhmpaaaW.PrintWords Go.Proofs.YtoncacdehhmpaaaW.PrintLast Go.Proofs.YtoncacdehhmpaaaW.PrintMore
attribute [local go_sem] max2_int min2_int max_two min_two max_three min_three max_four min_four
set_option linter.unusedVariables false
set_option linter.unusedSimpArgs false
attribute [local go_sem high] eqA104
def laws_szTermS.l0 : Nat → List (S174) → Int → Int → Option (Int)
 | 0, _, _, _ => none
 | k + 1, x0, x1, x5 => if x5 < (x0.length : Int) then (if 0 ≤ x5 then ((laws_szTerm.f ((rd_T174 x0 x5).f0) ((rd_T174 x0 x5).f1) ((rd_T174 x0 x5).f2) ((rd_T174 x0 x5).f3.f0) ((rd_T174 x0 x5).f3.f1) ((rd_T174 x0 x5).f3.f2) x1).bind fun t305 => (if t305 < 0 then (some (-1)) else (laws_szTermS.l0 k x0 t305 (wrap64 (x5 + 1))))) else (none)) else (some x1)
def laws_szTermS.f (k : Nat) (l0 : List (S174)) (a1 : Int) : Option (Int) := if (wrap64 (a1 - (l0.length : Int))) < 0 then (some (-1)) else (laws_szTermS.l0 k l0 (wrap64 (a1 - (l0.length : Int))) 0)
theorem laws_szTermS.mono_l : ∀ k, (∀ y0 y1 y2, LeO (laws_szTermS.l0 k y0 y1 y2) (laws_szTermS.l0 (k + 1) y0 y1 y2))
 | 0 => fun _ _ _ r h => by simp [laws_szTermS.l0] at h
 | k + 1 => by
  have ih0 := laws_szTermS.mono_l k
  ·intro y0 y1 y2
   unfold laws_szTermS.l0
   repeat' first
   | (with_reducible exact ih0 _ _ _)
   | (with_reducible exact LeO.refl _)
   | (with_reducible exact LeO.none _)
   | (with_reducible refine LeO.ite ?_ ?_)
   | (with_reducible refine LeO.bind ?_ (fun _ => ?_))
   | exact ih0 _ _ _
   | exact LeO.none _
   | refine LeO.ite ?_ ?_
   | refine LeO.bind ?_ (fun _ => ?_)
theorem laws_szTermS.mono : ∀ a0 a1 k, LeO (laws_szTermS.f k a0 a1) (laws_szTermS.f (k + 1) a0 a1) := by
 intro a0 a1 k
 have ih0 := laws_szTermS.mono_l k
 unfold laws_szTermS.f
 repeat' first
   | (with_reducible exact ih0 _ _ _)
   | (with_reducible exact LeO.refl _)
   | (with_reducible exact LeO.none _)
   | (with_reducible refine LeO.ite ?_ ?_)
   | (with_reducible refine LeO.bind ?_ (fun _ => ?_))
   | exact ih0 _ _ _
   | exact LeO.none _
   | refine LeO.ite ?_ ?_
   | refine LeO.bind ?_ (fun _ => ?_)
def laws_szPattern.f (k : Nat) (a0_0 : Bool) (a0_1 : ByteArray) (l0_2 : List (S174)) (a1 : Int) : Option (Int) := if (wrap64 (a1 - (a0_1.size : Int))) < 0 then (some (-1)) else ((laws_szTermS.f k l0_2 (wrap64 (a1 - (a0_1.size : Int)))).bind fun t307 => (if t307 < 0 then (some (-1)) else (some t307)))
theorem laws_szPattern.mono : ∀ a0 a1 a2 a3 k, LeO (laws_szPattern.f k a0 a1 a2 a3) (laws_szPattern.f (k + 1) a0 a1 a2 a3) := by
 intro a0 a1 a2 a3 k
 unfold laws_szPattern.f
 repeat' first
   | (with_reducible exact laws_szTermS.mono _ _ _)
   | (with_reducible exact LeO.refl _)
   | (with_reducible exact LeO.none _)
   | (with_reducible refine LeO.ite ?_ ?_)
   | (with_reducible refine LeO.bind ?_ (fun _ => ?_))
   | exact laws_szTermS.mono _ _ _
   | exact LeO.none _
   | refine LeO.ite ?_ ?_
   | refine LeO.bind ?_ (fun _ => ?_)
def spec_l2GoodCls.f (k : Nat) (a0 : ByteArray) : Option (Bool) := (spec_l1GoodSym.f k a0).bind fun t308 => (if t308 = true then (some (a0.toList != ([110, 111, 116] : List UInt8))) else (some false))
theorem spec_l2GoodCls.mono : ∀ a0 k, LeO (spec_l2GoodCls.f k a0) (spec_l2GoodCls.f (k + 1) a0) := by
 intro a0 k
 unfold spec_l2GoodCls.f
 repeat' first
   | (with_reducible exact spec_l1GoodSym.mono _ _)
   | (with_reducible exact LeO.refl _)
   | (with_reducible exact LeO.none _)
   | (with_reducible refine LeO.ite ?_ ?_)
   | (with_reducible refine LeO.bind ?_ (fun _ => ?_))
   | exact spec_l1GoodSym.mono _ _
   | exact LeO.none _
   | refine LeO.ite ?_ ?_
   | refine LeO.bind ?_ (fun _ => ?_)
def spec_l2Zero.f (a0_0 : Int) (a0_1 : Int) (a0_2 : ByteArray) : Option (Bool) := some (a0_0 == 0 && (a0_1 == 0 && (a0_2.toList == ([] : List UInt8))))
def spec_l2GoodTerm.f (k : Nat) (a0_0 : Int) (a0_1 : Int) (a0_2 : ByteArray) (a0_3 : Int) (a0_4 : Int) (a0_5 : ByteArray) : Option (Bool) := if a0_0 = 0 then (if a0_1 = 0 then (if a0_2.toList = ([] : List UInt8) then ((spec_l2Zero.f a0_3 a0_4 a0_5).bind fun t311 => (some t311)) else (some false)) else (some false)) else (if a0_0 = 1 then (if a0_1 = 0 then (if a0_2.toList = ([] : List UInt8) then ((spec_l1GoodVal.f k a0_3 a0_4 a0_5).bind fun t312 => (some t312)) else (some false)) else (some false)) else (if a0_0 = 2 then (if a0_1 = 0 then ((spec_l1GoodSym.f k a0_2).bind fun t313 => (if t313 = true then ((spec_l2Zero.f a0_3 a0_4 a0_5).bind fun t314 => (some t314)) else (some false))) else (some false)) else (if a0_0 = 3 then (if a0_1 ≥ 1 then (if a0_1 ≤ 6 then (if a0_2.toList = ([] : List UInt8) then ((spec_l1GoodVal.f k a0_3 a0_4 a0_5).bind fun t315 => (if t315 = true then (some true) else ((spec_l1GoodSym.f k a0_2).bind fun t316 => (if t316 = true then ((spec_l2Zero.f a0_3 a0_4 a0_5).bind fun t317 => (some t317)) else (some false))))) else ((spec_l1GoodSym.f k a0_2).bind fun t318 => (if t318 = true then ((spec_l2Zero.f a0_3 a0_4 a0_5).bind fun t319 => (some t319)) else (some false)))) else (some false)) else (some false)) else (some false))))
theorem spec_l2GoodTerm.mono : ∀ a0 a1 a2 a3 a4 a5 k, LeO (spec_l2GoodTerm.f k a0 a1 a2 a3 a4 a5) (spec_l2GoodTerm.f (k + 1) a0 a1 a2 a3 a4 a5) := by
 intro a0 a1 a2 a3 a4 a5 k
 unfold spec_l2GoodTerm.f
 repeat' first
   | (with_reducible exact spec_l1GoodSym.mono _ _)
   | (with_reducible exact spec_l1GoodVal.mono _ _ _ _)
   | (with_reducible exact LeO.refl _)
   | (with_reducible exact LeO.none _)
   | (with_reducible refine LeO.ite ?_ ?_)
   | (with_reducible refine LeO.bind ?_ (fun _ => ?_))
   | exact spec_l1GoodSym.mono _ _
   | exact spec_l1GoodVal.mono _ _ _ _
   | exact LeO.none _
   | refine LeO.ite ?_ ?_
   | refine LeO.bind ?_ (fun _ => ?_)
end Go.Proofs.Ytoncacdehhmpaaa.P
namespace Go.Proofs.Ytoncacdehhmpaaa.P
open Go.RowKit Go.Proofs.YtoncacdehhmpaaaW.PrintWords Go.Proofs.YtoncacdehhmpaaaW.PrintLast Go.Proofs.YtoncacdehhmpaaaW.PrintMore
attribute [local go_sem] max2_int min2_int max_two min_two max_three min_three max_four min_four
set_option linter.unusedVariables false
set_option linter.unusedSimpArgs false
mutual
def spec_l2GoodPat.j0 : Nat → Bool → Bool → ByteArray → List (S120) → Option (Bool)
 | 0, _, _, _, _ => none
 | k + 1, x14, x321000, x321001, x321002 => if x14 = true then (some false) else (spec_l2GoodPat.l0 k x321002 (x321002.length : Int) 0)
def spec_l2GoodPat.l0 : Nat → List (S120) → Int → Int → Option (Bool)
 | 0, _, _, _ => none
 | k + 1, x16, x17, x18 => if x18 < x17 then (if 0 ≤ x18 then (if x18 < (x16.length : Int) then ((spec_l2GoodTerm.f k ((rd_T120 x16 x18).f0) ((rd_T120 x16 x18).f1) ((rd_T120 x16 x18).f2) ((rd_T120 x16 x18).f3.f0) ((rd_T120 x16 x18).f3.f1) ((rd_T120 x16 x18).f3.f2)).bind fun t324 => (if t324 = true then (spec_l2GoodPat.l0 k x16 x17 (wrap64 (x18 + 1))) else (some false))) else (none)) else (none)) else (some true)
end
def spec_l2GoodPat.f (k : Nat) (a0_0 : Bool) (a0_1 : ByteArray) (l0_2 : List (S120)) : Option (Bool) := (spec_l2GoodCls.f k a0_1).bind fun t321 => (if t321 = true then (spec_l2GoodPat.j0 k (decide ((l0_2.length : Int) > 6)) a0_0 a0_1 l0_2) else (spec_l2GoodPat.j0 k true a0_0 a0_1 l0_2))
theorem spec_l2GoodPat.mono_l : ∀ k, (∀ y0 y1 y2 y3, LeO (spec_l2GoodPat.j0 k y0 y1 y2 y3) (spec_l2GoodPat.j0 (k + 1) y0 y1 y2 y3)) ∧ (∀ y0 y1 y2, LeO (spec_l2GoodPat.l0 k y0 y1 y2) (spec_l2GoodPat.l0 (k + 1) y0 y1 y2))
 | 0 => ⟨fun _ _ _ _ r h => by simp [spec_l2GoodPat.j0] at h, fun _ _ _ r h => by simp [spec_l2GoodPat.l0] at h⟩
 | k + 1 => by
  obtain ⟨ih0, ih1⟩ := spec_l2GoodPat.mono_l k
  refine ⟨?_, ?_⟩
  ·intro y0 y1 y2 y3
   unfold spec_l2GoodPat.j0
   repeat' first
   | (with_reducible exact ih0 _ _ _ _)
   | (with_reducible exact ih1 _ _ _)
   | (with_reducible exact spec_l2GoodCls.mono _ _)
   | (with_reducible exact spec_l2GoodTerm.mono _ _ _ _ _ _ _)
   | (with_reducible exact LeO.refl _)
   | (with_reducible exact LeO.none _)
   | (with_reducible refine LeO.ite ?_ ?_)
   | (with_reducible refine LeO.bind ?_ (fun _ => ?_))
   | exact ih0 _ _ _ _
   | exact ih1 _ _ _
   | exact spec_l2GoodCls.mono _ _
   | exact spec_l2GoodTerm.mono _ _ _ _ _ _ _
   | exact LeO.none _
   | refine LeO.ite ?_ ?_
   | refine LeO.bind ?_ (fun _ => ?_)
  ·intro y0 y1 y2
   unfold spec_l2GoodPat.l0
   repeat' first
   | (with_reducible exact ih0 _ _ _ _)
   | (with_reducible exact ih1 _ _ _)
   | (with_reducible exact spec_l2GoodCls.mono _ _)
   | (with_reducible exact spec_l2GoodTerm.mono _ _ _ _ _ _ _)
   | (with_reducible exact LeO.refl _)
   | (with_reducible exact LeO.none _)
   | (with_reducible refine LeO.ite ?_ ?_)
   | (with_reducible refine LeO.bind ?_ (fun _ => ?_))
   | exact ih0 _ _ _ _
   | exact ih1 _ _ _
   | exact spec_l2GoodCls.mono _ _
   | exact spec_l2GoodTerm.mono _ _ _ _ _ _ _
   | exact LeO.none _
   | refine LeO.ite ?_ ?_
   | refine LeO.bind ?_ (fun _ => ?_)
theorem spec_l2GoodPat.mono : ∀ a0 a1 a2 k, LeO (spec_l2GoodPat.f k a0 a1 a2) (spec_l2GoodPat.f (k + 1) a0 a1 a2) := by
 intro a0 a1 a2 k
 obtain ⟨ih0, ih1⟩ := spec_l2GoodPat.mono_l k
 unfold spec_l2GoodPat.f
 repeat' first
   | (with_reducible exact ih0 _ _ _ _)
   | (with_reducible exact ih1 _ _ _)
   | (with_reducible exact spec_l2GoodCls.mono _ _)
   | (with_reducible exact spec_l2GoodTerm.mono _ _ _ _ _ _ _)
   | (with_reducible exact LeO.refl _)
   | (with_reducible exact LeO.none _)
   | (with_reducible refine LeO.ite ?_ ?_)
   | (with_reducible refine LeO.bind ?_ (fun _ => ?_))
   | exact ih0 _ _ _ _
   | exact ih1 _ _ _
   | exact spec_l2GoodCls.mono _ _
   | exact spec_l2GoodTerm.mono _ _ _ _ _ _ _
   | exact LeO.none _
   | refine LeO.ite ?_ ?_
   | refine LeO.bind ?_ (fun _ => ?_)
def spec_l3Earlier.l0 : Nat → Int → ByteArray → Int → Bool → ByteArray → List (S120) → Option (Int)
 | 0, _, _, _, _, _, _ => none
 | k + 1, x1, x2, x7, x326000, x326001, x326002 => if x7 < x1 then (if 0 ≤ x7 then (if x7 < (x326002.length : Int) then (if ((rd_T120 x326002 x7).f0) = 2 then (if ((rd_T120 x326002 x7).f2).toList = x2.toList then (some x7) else (spec_l3Earlier.l0 k x1 x2 (wrap64 (x7 + 1)) x326000 x326001 x326002)) else (spec_l3Earlier.l0 k x1 x2 (wrap64 (x7 + 1)) x326000 x326001 x326002)) else (none)) else (none)) else (some (-1))
def spec_l3Earlier.f (k : Nat) (a0_0 : Bool) (a0_1 : ByteArray) (l0_2 : List (S120)) (a1 : Int) (a2 : ByteArray) : Option (Int) := spec_l3Earlier.l0 k a1 a2 0 a0_0 a0_1 l0_2
theorem spec_l3Earlier.mono_l : ∀ k, (∀ y0 y1 y2 y3 y4 y5, LeO (spec_l3Earlier.l0 k y0 y1 y2 y3 y4 y5) (spec_l3Earlier.l0 (k + 1) y0 y1 y2 y3 y4 y5))
 | 0 => fun _ _ _ _ _ _ r h => by simp [spec_l3Earlier.l0] at h
 | k + 1 => by
  have ih0 := spec_l3Earlier.mono_l k
  ·intro y0 y1 y2 y3 y4 y5
   unfold spec_l3Earlier.l0
   repeat' first
   | (with_reducible exact ih0 _ _ _ _ _ _)
   | (with_reducible exact LeO.refl _)
   | (with_reducible exact LeO.none _)
   | (with_reducible refine LeO.ite ?_ ?_)
   | (with_reducible refine LeO.bind ?_ (fun _ => ?_))
   | exact ih0 _ _ _ _ _ _
   | exact LeO.none _
   | refine LeO.ite ?_ ?_
   | refine LeO.bind ?_ (fun _ => ?_)
theorem spec_l3Earlier.mono : ∀ a0 a1 a2 a3 a4 k, LeO (spec_l3Earlier.f k a0 a1 a2 a3 a4) (spec_l3Earlier.f (k + 1) a0 a1 a2 a3 a4) := by
 intro a0 a1 a2 a3 a4 k
 have ih0 := spec_l3Earlier.mono_l k
 unfold spec_l3Earlier.f
 repeat' first
   | (with_reducible exact ih0 _ _ _ _ _ _)
   | (with_reducible exact LeO.refl _)
   | (with_reducible exact LeO.none _)
   | (with_reducible refine LeO.ite ?_ ?_)
   | (with_reducible refine LeO.bind ?_ (fun _ => ?_))
   | exact ih0 _ _ _ _ _ _
   | exact LeO.none _
   | refine LeO.ite ?_ ?_
   | refine LeO.bind ?_ (fun _ => ?_)
end Go.Proofs.Ytoncacdehhmpaaa.P
namespace Go.Proofs.Ytoncacdehhmpaaa.P
open Go.RowKit Go.Proofs.YtoncacdehhmpaaaW.PrintWords Go.Proofs.YtoncacdehhmpaaaW.PrintLast Go.Proofs.YtoncacdehhmpaaaW.PrintMore
attribute [local go_sem] max2_int min2_int max_two min_two max_three min_three max_four min_four
set_option linter.unusedVariables false
set_option linter.unusedSimpArgs false
open Go.Proofs.YtoncacdehhmpaaaX
def zeroValB (v : S104) : Bool := v.f0 == 0 && (v.f1 == 0 && v.f2.toList.isEmpty)
def goodTermB (t : S120) : Bool :=
 if t.f0 = 0 then t.f1 == 0 && (t.f2.toList.isEmpty && zeroValB t.f3)
 else if t.f0 = 1 then (t.f1 == 0 && t.f2.toList.isEmpty) && goodValueB t.f3
 else if t.f0 = 2 then (t.f1 == 0 && zeroValB t.f3) && goodSymB t.f2
 else if t.f0 = 3 then if t.f1 < 1 then false else if 6 < t.f1 then false else if t.f2.toList.isEmpty then goodValueB t.f3 else goodSymB t.f2 && zeroValB t.f3
 else false
def impl_Term_good.f (a0_0 a0_1 : Int) (a0_2 : ByteArray) (a0_3 a0_4 : Int) (a0_5 : ByteArray) : Option Bool := some (goodTermB ⟨a0_0, a0_1, a0_2, ⟨a0_3, a0_4, a0_5⟩⟩)
end Go.Proofs.Ytoncacdehhmpaaa.P
