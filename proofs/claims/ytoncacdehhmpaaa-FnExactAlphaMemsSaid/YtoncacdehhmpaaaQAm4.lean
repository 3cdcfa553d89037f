/- The row of the law FnExactAlphaMems: for every input the call returns true, and each argument reads behind it as it read before; no condition of ours. -/
import Derived.Test.YtoncacdehhmpaaaQAm3
namespace Go.Proofs.Ytoncacdehhmpaaa.P
open Go.RowKit Go.Proofs.YtoncacdehhmpaaaW.PrintWords Go.Proofs.YtoncacdehhmpaaaW.PrintLast Go.Proofs.YtoncacdehhmpaaaW.PrintMore
attribute [local go_sem] max2_int min2_int max_two min_two max_three min_three max_four min_four
set_option linter.unusedVariables false
set_option linter.unusedSimpArgs false
mutual
def spec_AlphaPass.j0 : Nat → Bool → ByteArray → Int → List (S106) → Int → ByteArray → List (S104) → Option (Bool)
 | 0, _, _, _, _, _, _, _ => none
 | k + 1, x20, x115000, x115001, x115002, x116000, x116001, x116002 => if x20 = true then (some false) else (spec_AlphaPass.l0 k x115002 (x115002.length : Int) 0 x116000 x116001 x116002)
def spec_AlphaPass.l0 : Nat → List (S106) → Int → Int → Int → ByteArray → List (S104) → Option (Bool)
 | 0, _, _, _, _, _, _ => none
 | k + 1, x22, x23, x24, x116000, x116001, x116002 => if x24 < x23 then (if 0 ≤ x24 then (if x24 < (x22.length : Int) then (if ((rd_T106 x22 x24).f0) < 0 then (spec_AlphaPass.j2 k x22 x23 x24 true x116000 x116001 x116002 ((rd_T106 x22 x24).f0) ((rd_T106 x22 x24).f1) ((rd_T106 x22 x24).f2) ((rd_T106 x22 x24).f3.f0) ((rd_T106 x22 x24).f3.f1) ((rd_T106 x22 x24).f3.f2)) else (if ((rd_T106 x22 x24).f0) ≥ (x116002.length : Int) then (spec_AlphaPass.j2 k x22 x23 x24 true x116000 x116001 x116002 ((rd_T106 x22 x24).f0) ((rd_T106 x22 x24).f1) ((rd_T106 x22 x24).f2) ((rd_T106 x22 x24).f3.f0) ((rd_T106 x22 x24).f3.f1) ((rd_T106 x22 x24).f3.f2)) else (if ((rd_T106 x22 x24).f2) < (-1) then (spec_AlphaPass.j2 k x22 x23 x24 true x116000 x116001 x116002 ((rd_T106 x22 x24).f0) ((rd_T106 x22 x24).f1) ((rd_T106 x22 x24).f2) ((rd_T106 x22 x24).f3.f0) ((rd_T106 x22 x24).f3.f1) ((rd_T106 x22 x24).f3.f2)) else (spec_AlphaPass.j2 k x22 x23 x24 (decide (((rd_T106 x22 x24).f2) ≥ (x116002.length : Int))) x116000 x116001 x116002 ((rd_T106 x22 x24).f0) ((rd_T106 x22 x24).f1) ((rd_T106 x22 x24).f2) ((rd_T106 x22 x24).f3.f0) ((rd_T106 x22 x24).f3.f1) ((rd_T106 x22 x24).f3.f2))))) else (none)) else (none)) else (some true)
def spec_AlphaPass.j2 : Nat → List (S106) → Int → Int → Bool → Int → ByteArray → List (S104) → Int → Int → Int → Int → Int → ByteArray → Option (Bool)
 | 0, _, _, _, _, _, _, _, _, _, _, _, _, _ => none
 | k + 1, x22, x23, x24, x51, x116000, x116001, x116002, x118000, x118001, x118002, x118003, x118004, x118005 => if x51 = true then (some false) else (if x118002 ≥ 0 then (if 0 ≤ x118002 then (if x118002 < (x116002.length : Int) then (if 0 ≤ x118000 then (if x118000 < (x116002.length : Int) then ((spec_l3Holds.f k x118001 ((rd_T104 x116002 x118000).f0) ((rd_T104 x116002 x118000).f1) ((rd_T104 x116002 x118000).f2) ((rd_T104 x116002 x118002).f0) ((rd_T104 x116002 x118002).f1) ((rd_T104 x116002 x118002).f2)).bind fun t121 => (if t121 = true then (spec_AlphaPass.l0 k x22 x23 (wrap64 (x24 + 1)) x116000 x116001 x116002) else (some false))) else (none)) else (none)) else (none)) else (none)) else (if 0 ≤ x118000 then (if x118000 < (x116002.length : Int) then ((spec_l3Holds.f k x118001 ((rd_T104 x116002 x118000).f0) ((rd_T104 x116002 x118000).f1) ((rd_T104 x116002 x118000).f2) x118003 x118004 x118005).bind fun t123 => (if t123 = true then (spec_AlphaPass.l0 k x22 x23 (wrap64 (x24 + 1)) x116000 x116001 x116002) else (some false))) else (none)) else (none)))
end
def spec_AlphaPass.f (k : Nat) (a0_0 : ByteArray) (a0_1 : Int) (l0_2 : List (S106)) (a1_0 : Int) (a1_1 : ByteArray) (l1_2 : List (S104)) : Option (Bool) := if a1_1.toList = a0_0.toList then (spec_AlphaPass.j0 k ((l1_2.length : Int) != a0_1) a0_0 a0_1 l0_2 a1_0 a1_1 l1_2) else (spec_AlphaPass.j0 k true a0_0 a0_1 l0_2 a1_0 a1_1 l1_2)
theorem spec_AlphaPass.mono_l : ∀ k, (∀ y0 y1 y2 y3 y4 y5 y6, LeO (spec_AlphaPass.j0 k y0 y1 y2 y3 y4 y5 y6) (spec_AlphaPass.j0 (k + 1) y0 y1 y2 y3 y4 y5 y6)) ∧ (∀ y0 y1 y2 y3 y4 y5, LeO (spec_AlphaPass.l0 k y0 y1 y2 y3 y4 y5) (spec_AlphaPass.l0 (k + 1) y0 y1 y2 y3 y4 y5)) ∧ (∀ y0 y1 y2 y3 y4 y5 y6 y7 y8 y9 y10 y11 y12, LeO (spec_AlphaPass.j2 k y0 y1 y2 y3 y4 y5 y6 y7 y8 y9 y10 y11 y12) (spec_AlphaPass.j2 (k + 1) y0 y1 y2 y3 y4 y5 y6 y7 y8 y9 y10 y11 y12))
 | 0 => ⟨fun _ _ _ _ _ _ _ r h => by simp [spec_AlphaPass.j0] at h, fun _ _ _ _ _ _ r h => by simp [spec_AlphaPass.l0] at h, fun _ _ _ _ _ _ _ _ _ _ _ _ _ r h => by simp [spec_AlphaPass.j2] at h⟩
 | k + 1 => by
  obtain ⟨ih0, ih1, ih2⟩ := spec_AlphaPass.mono_l k
  refine ⟨?_, ?_, ?_⟩
  ·intro y0 y1 y2 y3 y4 y5 y6
   unfold spec_AlphaPass.j0
   repeat' first
   | (with_reducible exact ih0 _ _ _ _ _ _ _)
   | (with_reducible exact ih1 _ _ _ _ _ _)
   | (with_reducible exact ih2 _ _ _ _ _ _ _ _ _ _ _ _ _)
   | (with_reducible exact spec_l3Holds.mono _ _ _ _ _ _ _ _)
   | (with_reducible exact LeO.refl _)
   | (with_reducible exact LeO.none _)
   | (with_reducible refine LeO.ite ?_ ?_)
   | (with_reducible refine LeO.bind ?_ (fun _ => ?_))
   | exact ih0 _ _ _ _ _ _ _
   | exact ih1 _ _ _ _ _ _
   | exact ih2 _ _ _ _ _ _ _ _ _ _ _ _ _
   | exact spec_l3Holds.mono _ _ _ _ _ _ _ _
   | exact LeO.none _
   | refine LeO.ite ?_ ?_
   | refine LeO.bind ?_ (fun _ => ?_)
  ·intro y0 y1 y2 y3 y4 y5
   unfold spec_AlphaPass.l0
   repeat' first
   | (with_reducible exact ih0 _ _ _ _ _ _ _)
   | (with_reducible exact ih1 _ _ _ _ _ _)
   | (with_reducible exact ih2 _ _ _ _ _ _ _ _ _ _ _ _ _)
   | (with_reducible exact spec_l3Holds.mono _ _ _ _ _ _ _ _)
   | (with_reducible exact LeO.refl _)
   | (with_reducible exact LeO.none _)
   | (with_reducible refine LeO.ite ?_ ?_)
   | (with_reducible refine LeO.bind ?_ (fun _ => ?_))
   | exact ih0 _ _ _ _ _ _ _
   | exact ih1 _ _ _ _ _ _
   | exact ih2 _ _ _ _ _ _ _ _ _ _ _ _ _
   | exact spec_l3Holds.mono _ _ _ _ _ _ _ _
   | exact LeO.none _
   | refine LeO.ite ?_ ?_
   | refine LeO.bind ?_ (fun _ => ?_)
  ·intro y0 y1 y2 y3 y4 y5 y6 y7 y8 y9 y10 y11 y12
   unfold spec_AlphaPass.j2
   repeat' first
   | (with_reducible exact ih0 _ _ _ _ _ _ _)
   | (with_reducible exact ih1 _ _ _ _ _ _)
   | (with_reducible exact ih2 _ _ _ _ _ _ _ _ _ _ _ _ _)
   | (with_reducible exact spec_l3Holds.mono _ _ _ _ _ _ _ _)
   | (with_reducible exact LeO.refl _)
   | (with_reducible exact LeO.none _)
   | (with_reducible refine LeO.ite ?_ ?_)
   | (with_reducible refine LeO.bind ?_ (fun _ => ?_))
   | exact ih0 _ _ _ _ _ _ _
   | exact ih1 _ _ _ _ _ _
   | exact ih2 _ _ _ _ _ _ _ _ _ _ _ _ _
   | exact spec_l3Holds.mono _ _ _ _ _ _ _ _
   | exact LeO.none _
   | refine LeO.ite ?_ ?_
   | refine LeO.bind ?_ (fun _ => ?_)
theorem spec_AlphaPass.mono : ∀ a0 a1 a2 a3 a4 a5 k, LeO (spec_AlphaPass.f k a0 a1 a2 a3 a4 a5) (spec_AlphaPass.f (k + 1) a0 a1 a2 a3 a4 a5) := by
 intro a0 a1 a2 a3 a4 a5 k
 obtain ⟨ih0, ih1, ih2⟩ := spec_AlphaPass.mono_l k
 unfold spec_AlphaPass.f
 repeat' first
   | (with_reducible exact ih0 _ _ _ _ _ _ _)
   | (with_reducible exact ih1 _ _ _ _ _ _)
   | (with_reducible exact ih2 _ _ _ _ _ _ _ _ _ _ _ _ _)
   | (with_reducible exact spec_l3Holds.mono _ _ _ _ _ _ _ _)
   | (with_reducible exact LeO.refl _)
   | (with_reducible exact LeO.none _)
   | (with_reducible refine LeO.ite ?_ ?_)
   | (with_reducible refine LeO.bind ?_ (fun _ => ?_))
   | exact ih0 _ _ _ _ _ _ _
   | exact ih1 _ _ _ _ _ _
   | exact ih2 _ _ _ _ _ _ _ _ _ _ _ _ _
   | exact spec_l3Holds.mono _ _ _ _ _ _ _ _
   | exact LeO.none _
   | refine LeO.ite ?_ ?_
   | refine LeO.bind ?_ (fun _ => ?_)
def spec_AlphaPass.T11 : Bool × List (List Nat × List Nat) := (true, [([], []), ([0], [0]), ([], []), ([2], [2]), ([], []), ([4], [4]), ([3, 5], [3, 5]), ([6], [6]), ([], []), ([1, 7, 8], [1, 7, 8]), ([9], [9])])
def spec_AlphaPass.B11 : List Nat := [0, 1, 0, 4, 0, 16, 60, 124, 0, 511, 1023]
theorem spec_AlphaPass.tab11 : rtab .any (opsOf Try.f12 11) = spec_AlphaPass.T11 := by kernel_rfl
theorem spec_AlphaPass.bits11 : waitsOk spec_AlphaPass.T11.2 spec_AlphaPass.B11 = true := by kernel_rfl
set_option maxHeartbeats 8000000 in
set_option maxRecDepth 100000 in
theorem spec_AlphaPass.calls (k : Nat) (a0_0 : ByteArray) (a0_1 : Int) (A0_2 : Option Addr) (c0_2 : Nat) (l0_2 : List (S106)) (a1_0 : Int) (a1_1 : ByteArray) (A1_2 : Option Addr) (c1_2 : Nat) (l1_2 : List (S104)) (r : Bool) (w : World) (hr0_2 : Kd.C k106 w A0_2 l0_2.length l0_2) (hc0_2 : l0_2.length ≤ c0_2) (hr1_2 : Kd.C k104 w A1_2 l1_2.length l1_2) (hc1_2 : l1_2.length ≤ c1_2) (h : spec_AlphaPass.f k a0_0 a0_1 l0_2 a1_0 a1_1 l1_2 = some r) :
  Calls Try.prog 12 #[.agg #[.string a0_0, .int .i64 a0_1, .slice A0_2 l0_2.length c0_2], .agg #[.int .i64 a1_0, .string a1_1, .slice A1_2 l1_2.length c1_2]] w fun e w' => e = .returned (.bool r) ∧ Below w.heap.size w w' := by
 have hu34 := Try.underlying34
 have hu38 := Try.underlying38
 have hu106 := Try.underlying106
 have hu104 := Try.underlying104
 have HR0_2 := Aside0.mk hr0_2
 have HC0_2 := Aside0.mk hc0_2
 clear hr0_2 hc0_2
 have HR1_2 := Aside0.mk hr1_2
 have HC1_2 := Aside0.mk hc1_2
 clear hr1_2 hc1_2
 have HB := Aside0.mk (Below.refl w.heap.size w)
 have H : (if a1_1.toList = a0_0.toList then (spec_AlphaPass.j0 k ((l1_2.length : Int) != a0_1) a0_0 a0_1 l0_2 a1_0 a1_1 l1_2) else (spec_AlphaPass.j0 k true a0_0 a0_1 l0_2 a1_0 a1_1 l1_2)) = some r := h
 clear h
 have HC3 := Aside0.mk H
 clear H
 go_enter Try.func12, Try.ntmps12
 go_upto_region 1 with (first | ((with_reducible refine gate_dst (N := 2) rfl ?_); (try (refine gate_guard (by rfl) ?_; dsimp only)); refine box_event ?hg (N := 2) ?hd (cs := #[.string a0_0, .int .i64 a0_1, .slice A0_2 l0_2.length c0_2]) (t := 34) ?hr ?_; (case hd => rfl); (case hg => rfl); (case hr => first | (go_simp; done) | (go_simp; rfl)); intro gb114 hg w4 hbox hb; have n0_ := Aside0.mk (below_step (by repeat (first | (with_reducible first | exact HB.out | apply below_alloc | apply pw_below_drewN | apply below_drew1) | exact HB.out)) hb); have n1_ := Aside0.mk (hbox); have n2_ := Aside0.mk ((by rw [hg]; exact (below_size (by repeat (first | (with_reducible first | exact HB.out | apply below_alloc | apply pw_below_drewN | apply below_drew1) | exact HB.out))) : w.heap.size ≤ gb114)); have n3_ := Aside0.mk ((by rw [hg]; exact (below_size (by repeat (first | (with_reducible first | exact HB.out | apply below_alloc | apply pw_below_drewN | apply below_drew1) | exact HB.out))) : w.heap.size ≤ gb114)); clear HB; have HB := n0_; have BK114 := n1_; have GW114 := n2_; have GE114 := n3_; clear n0_ n1_ n2_ n3_; clear hb hbox hg) | ((with_reducible refine gate_dst (N := 3) rfl ?_); (try (refine gate_guard (by rfl) ?_; dsimp only)); refine box_event ?hg (N := 3) ?hd (cs := #[.int .i64 a1_0, .string a1_1, .slice A1_2 l1_2.length c1_2]) (t := 38) ?hr ?_; (case hd => rfl); (case hg => rfl); (case hr => first | (go_simp; done) | (go_simp; rfl)); intro gb115 hg w5 hbox hb; have n0_ := Aside0.mk (blk_below (g := gb114) (o := .cells #[.string a0_0, .int .i64 a0_1, .slice A0_2 l0_2.length c0_2] 34 (0, 0)) (by (with_reducible repeat (first | refine blk_drewN ?_ _ | refine blk_drew ?_ | refine blk_alloc ?_ _)); exact BK114.out) hb); have n1_ := Aside0.mk (below_step (by repeat (first | (with_reducible first | exact HB.out | apply below_alloc | apply pw_below_drewN | apply below_drew1 | refine below_set ?_ GE114.out) | exact HB.out)) hb); have n2_ := Aside0.mk (hbox); have n3_ := Aside0.mk ((by rw [hg]; exact (below_size (by repeat (first | (with_reducible first | exact HB.out | apply below_alloc | apply pw_below_drewN | apply below_drew1 | refine below_set ?_ GE114.out) | exact HB.out))) : w.heap.size ≤ gb115)); have n4_ := Aside0.mk ((by rw [hg]; exact (below_size (by repeat (first | (with_reducible first | exact HB.out | apply below_alloc | apply pw_below_drewN | apply below_drew1 | refine below_set ?_ GE114.out) | exact HB.out))) : w.heap.size ≤ gb115)); have n5_ := Aside0.mk ((by rw [hg]; exact Nat.ne_of_lt (blk_lt (g := gb114) (o := .cells #[.string a0_0, .int .i64 a0_1, .slice A0_2 l0_2.length c0_2] 34 (0, 0)) (by (with_reducible repeat (first | refine blk_drewN ?_ _ | refine blk_drew ?_ | refine blk_alloc ?_ _)); exact BK114.out)) : gb114 ≠ gb115)); have n6_ := Aside0.mk ((by rw [hg]; exact Nat.ne_of_gt (blk_lt (g := gb114) (o := .cells #[.string a0_0, .int .i64 a0_1, .slice A0_2 l0_2.length c0_2] 34 (0, 0)) (by (with_reducible repeat (first | refine blk_drewN ?_ _ | refine blk_drew ?_ | refine blk_alloc ?_ _)); exact BK114.out)) : gb115 ≠ gb114)); clear BK114; clear HB; have BK114 := n0_; have HB := n1_; have BK115 := n2_; have GW115 := n3_; have GE115 := n4_; have NB114_115 := n5_; have NB115_114 := n6_; clear n0_ n1_ n2_ n3_ n4_ n5_ n6_; clear hb hbox hg))
 (try simp only [Act.put, List.setIfInBounds_toArray, List.set_cons_zero, List.set_cons_succ])
 go_cut [20] (fun v20 wc => ∃ (kq : Nat) (x20_2 : Bool), v20 = .bool x20_2 ∧ Aside0 (spec_AlphaPass.j0 kq x20_2 a0_0 a0_1 l0_2 a1_0 a1_1 l1_2 = some r) ∧ Aside0 (kq ≤ k) ∧ Aside0 (wc.heap[gb114]? = some (.cells #[.string a0_0, .int .i64 a0_1, (.slice A0_2 l0_2.length c0_2)] 34 (0, 0))) ∧ Aside0 (wc.heap[gb115]? = some (.cells #[.int .i64 a1_0, .string a1_1, (.slice A1_2 l1_2.length c1_2)] 38 (0, 0))) ∧ Aside0 (Below w.heap.size w wc))
 case first =>
  have H := HC3.out
  clear HC3
  by_cases c6 : a1_1.toList = a0_0.toList
  ·rw [if_pos c6] at H
   have c6b0 : (a1_1.toList == a0_0.toList) = true := beq_iff_eq.mpr c6
   have c6b1 : (a1_1.toList != a0_0.toList) = false := bne_eq_false_iff_eq.mpr c6
   clear c6
   (first | rw [c6b0] | (simp only [i64_w, i32_w]; rw [c6b0]) | skip)
   have H' := Aside0.mk H
   clear H
   have hnb7 := NB115_114.out
   have hnc7 := NB114_115.out
   have hcz8_0 : w5.cell? ⟨gb115, 0, none⟩ = some (.int .i64 a1_0) := (blk_cell BK115.out 0).trans rfl
   have hcz8_1 : w5.cell? ⟨gb115, 1, none⟩ = some (.string a1_1) := (blk_cell BK115.out 1).trans rfl
   have hcz8_2 : w5.cell? ⟨gb115, 2, none⟩ = some (.slice A1_2 l1_2.length c1_2) := (blk_cell BK115.out 2).trans rfl
   have hfz8_0 := blk_frozen BK115.out 0
   have hfz8_1 := blk_frozen BK115.out 1
   have hfz8_2 := blk_frozen BK115.out 2
   have hcz9_0 : w5.cell? ⟨gb114, 0, none⟩ = some (.string a0_0) := (blk_cell BK114.out 0).trans rfl
   have hcz9_1 : w5.cell? ⟨gb114, 1, none⟩ = some (.int .i64 a0_1) := (blk_cell BK114.out 1).trans rfl
   have hcz9_2 : w5.cell? ⟨gb114, 2, none⟩ = some (.slice A0_2 l0_2.length c0_2) := (blk_cell BK114.out 2).trans rfl
   have hfz9_0 := blk_frozen BK114.out 0
   have hfz9_1 := blk_frozen BK114.out 1
   have hfz9_2 := blk_frozen BK114.out 2
   go_wp2
   go_meet
   case rel => exact ⟨_, (((l1_2.length : Int) != a0_1)), (by first | rfl | (simp; done) | (simp [*]; done)), H', ⟨by first | omega | exact Nat.le_refl _⟩, ⟨by (with_reducible repeat (first | refine blk_drewN ?_ _ | refine blk_drew ?_ | refine blk_alloc ?_ _)); exact BK114.out⟩, ⟨by (with_reducible repeat (first | refine blk_drewN ?_ _ | refine blk_drew ?_ | refine blk_alloc ?_ _)); exact BK115.out⟩, ⟨by repeat (first | (with_reducible first | exact HB.out | apply below_alloc | apply pw_below_drewN | apply below_drew1 | refine below_set ?_ GE114.out | refine below_set ?_ GE115.out) | exact HB.out)⟩⟩
  ·rw [if_neg c6] at H
   have c6b0 : (a1_1.toList == a0_0.toList) = false := beq_eq_false_iff_ne.mpr c6
   have c6b1 : (a1_1.toList != a0_0.toList) = true := bne_iff_ne.mpr c6
   (first | rw [c6b0] | (simp only [i64_w, i32_w]; rw [c6b0]) | skip)
   have H' := Aside0.mk H
   clear H
   have hnb10 := NB115_114.out
   have hnc10 := NB114_115.out
   have hcz11_0 : w5.cell? ⟨gb115, 0, none⟩ = some (.int .i64 a1_0) := (blk_cell BK115.out 0).trans rfl
   have hcz11_1 : w5.cell? ⟨gb115, 1, none⟩ = some (.string a1_1) := (blk_cell BK115.out 1).trans rfl
   have hcz11_2 : w5.cell? ⟨gb115, 2, none⟩ = some (.slice A1_2 l1_2.length c1_2) := (blk_cell BK115.out 2).trans rfl
   have hfz11_0 := blk_frozen BK115.out 0
   have hfz11_1 := blk_frozen BK115.out 1
   have hfz11_2 := blk_frozen BK115.out 2
   have hcz12_0 : w5.cell? ⟨gb114, 0, none⟩ = some (.string a0_0) := (blk_cell BK114.out 0).trans rfl
   have hcz12_1 : w5.cell? ⟨gb114, 1, none⟩ = some (.int .i64 a0_1) := (blk_cell BK114.out 1).trans rfl
   have hcz12_2 : w5.cell? ⟨gb114, 2, none⟩ = some (.slice A0_2 l0_2.length c0_2) := (blk_cell BK114.out 2).trans rfl
   have hfz12_0 := blk_frozen BK114.out 0
   have hfz12_1 := blk_frozen BK114.out 1
   have hfz12_2 := blk_frozen BK114.out 2
   go_wp2
   go_meet
   case rel => exact ⟨_, (true), (by first | rfl | (simp; done) | (simp [*]; done)), H', ⟨by first | omega | exact Nat.le_refl _⟩, ⟨by (with_reducible repeat (first | refine blk_drewN ?_ _ | refine blk_drew ?_ | refine blk_alloc ?_ _)); exact BK114.out⟩, ⟨by (with_reducible repeat (first | refine blk_drewN ?_ _ | refine blk_drew ?_ | refine blk_alloc ?_ _)); exact BK115.out⟩, ⟨by repeat (first | (with_reducible first | exact HB.out | apply below_alloc | apply pw_below_drewN | apply below_drew1 | refine below_set ?_ GE114.out | refine below_set ?_ GE115.out) | exact HB.out)⟩⟩
 case rest =>
  clear HC3
  try clear c1
  try clear p2
  try clear c6
  try clear c6b0
  try clear c6b1
  try clear c7
  try clear c10
  try clear c12
  try clear hcz11_0
  try clear hcz11_1
  try clear hcz11_2
  try clear hcz12_0
  try clear hcz12_1
  try clear hcz12_2
  try clear hcz8_0
  try clear hcz8_1
  try clear hcz8_2
  try clear hcz9_0
  try clear hcz9_1
  try clear hcz9_2
  try clear hfz11_0
  try clear hfz11_1
  try clear hfz11_2
  try clear hfz12_0
  try clear hfz12_1
  try clear hfz12_2
  try clear hfz8_0
  try clear hfz8_1
  try clear hfz8_2
  try clear hfz9_0
  try clear hfz9_1
  try clear hfz9_2
  obtain ⟨kq, x20_2, rfl, HA, HJ2, BK114, BK115, HB⟩ := hcut
  cases kq with
  | zero => exact absurd HA.out (by simp [spec_AlphaPass.j0])
  | succ kj2 =>
   have H := HA.out
   clear HA
   simp only [spec_AlphaPass.j0] at H
   by_cases c13 : x20_2 = true
   ·subst c13
    have H1 : (some false) = some r := by first | (rw [if_pos rfl] at H; exact H) | rfl
    clear H
    have H := H1
    clear H1
    obtain rfl := Option.some.inj H
    go_wp2
    go_ret
    exact ⟨by first | rfl | (simp [errW_none, errW_some] <;> rfl) | (simp [*, errW_none, errW_some] <;> rfl), by repeat (first | (with_reducible first | exact HB.out | apply below_alloc | apply pw_below_drewN | apply below_drew1 | refine below_set ?_ GE114.out | refine below_set ?_ GE115.out) | exact HB.out)⟩
   ·replace c13 := Bool.eq_false_iff.mpr c13
    subst c13
    have H1 : (spec_AlphaPass.l0 kj2 l0_2 (l0_2.length : Int) 0 a1_0 a1_1 l1_2) = some r := by first | (rw [if_neg (show ¬ (false = true) by decide)] at H; exact H) | rfl
    clear H
    have H := H1
    clear H1
    have H' := Aside0.mk H
    clear H
    have hnb14 := NB114_115.out
    have hnc14 := NB115_114.out
    have hcz15_0 : wc.cell? ⟨gb114, 0, none⟩ = some (.string a0_0) := (blk_cell BK114.out 0).trans rfl
    have hcz15_1 : wc.cell? ⟨gb114, 1, none⟩ = some (.int .i64 a0_1) := (blk_cell BK114.out 1).trans rfl
    have hcz15_2 : wc.cell? ⟨gb114, 2, none⟩ = some (.slice A0_2 l0_2.length c0_2) := (blk_cell BK114.out 2).trans rfl
    have hfz15_0 := blk_frozen BK114.out 0
    have hfz15_1 := blk_frozen BK114.out 1
    have hfz15_2 := blk_frozen BK114.out 2
    go_wp2
    go_loopg [24] kj2 (fun kq v24 w' => ∃ (x24_2 : Int), v24 = .int .i64 x24_2 ∧ Aside0 (spec_AlphaPass.l0 kq l0_2 (l0_2.length : Int) x24_2 a1_0 a1_1 l1_2 = some r) ∧ Aside0 (kq ≤ kj2) ∧ Aside0 (w'.heap[gb114]? = some (.cells #[.string a0_0, .int .i64 a0_1, (.slice A0_2 l0_2.length c0_2)] 34 (0, 0))) ∧ Aside0 (w'.heap[gb115]? = some (.cells #[.int .i64 a1_0, .string a1_1, (.slice A1_2 l1_2.length c1_2)] 38 (0, 0))) ∧ Aside0 (Below w.heap.size w w'))
    case atStart => exact ⟨(0), (by first | rfl | (simp; done) | (simp [*]; done)), H', ⟨Nat.le_refl _⟩, ⟨by (with_reducible repeat (first | refine blk_drewN ?_ _ | refine blk_drew ?_ | refine blk_alloc ?_ _)); exact BK114.out⟩, ⟨by (with_reducible repeat (first | refine blk_drewN ?_ _ | refine blk_drew ?_ | refine blk_alloc ?_ _)); exact BK115.out⟩, ⟨by repeat (first | (with_reducible first | exact HB.out | apply below_alloc | apply pw_below_drewN | apply below_drew1 | refine below_set ?_ GE114.out | refine below_set ?_ GE115.out) | exact HB.out)⟩⟩
    case round =>
     clear H'
     try clear c1
     try clear p2
     try clear c6
     try clear c6b0
     try clear c6b1
     try clear c7
     try clear c10
     try clear c12
     try clear c13
     try clear c14
     try clear hcz11_0
     try clear hcz11_1
     try clear hcz11_2
     try clear hcz12_0
     try clear hcz12_1
     try clear hcz12_2
     try clear hcz15_0
     try clear hcz15_1
     try clear hcz15_2
     try clear hcz8_0
     try clear hcz8_1
     try clear hcz8_2
     try clear hcz9_0
     try clear hcz9_1
     try clear hcz9_2
     try clear hfz11_0
     try clear hfz11_1
     try clear hfz11_2
     try clear hfz12_0
     try clear hfz12_1
     try clear hfz12_2
     try clear hfz15_0
     try clear hfz15_1
     try clear hfz15_2
     try clear hfz8_0
     try clear hfz8_1
     try clear hfz8_2
     try clear hfz9_0
     try clear hfz9_1
     try clear hfz9_2
     try clear p2
     obtain ⟨x24_2, rfl, HA, HK2, BK114, BK115, HB⟩ := hrel
     cases gk with
     | zero => exact absurd HA.out (by simp [spec_AlphaPass.l0])
     | succ k2 =>
      have H := HA.out
      clear HA
      simp only [spec_AlphaPass.l0] at H
      by_cases c16 : x24_2 < (l0_2.length : Int)
      ·rw [if_pos c16] at H
       have c16b0 : decide (x24_2 < (l0_2.length : Int)) = true := decide_eq_true c16
       clear c16
       by_cases c17 : 0 ≤ x24_2
       ·rw [if_pos c17] at H
        have c17b0 : decide (0 ≤ x24_2) = true := decide_eq_true c17
        clear c17
        by_cases c18 : x24_2 < (l0_2.length : Int)
        ·rw [if_pos c18] at H
         have c18b0 : decide (x24_2 < (l0_2.length : Int)) = true := decide_eq_true c18
         clear c18
         have HC19 := Aside0.mk H
         clear H
         have p116 : 0 ≤ (x24_2 : Int) := of_decide_eq_true (by first | (with_reducible assumption) | assumption)
         have q116 : x24_2 < (l0_2.length : Int) := of_decide_eq_true (by first | (with_reducible assumption) | assumption)
         obtain ⟨ad116, e116, hx116_0, hx116_1, hx116_2, hx116_3, hx116_4, hx116_5⟩ := at_T106 HR0_2.out x24_2 p116 q116
         cases e116
         replace hx116_0 := (HB.out.cell (World.block_lt_of_cell? w _ hx116_0)).trans hx116_0
         replace hx116_1 := (HB.out.cell (World.block_lt_of_cell? w _ hx116_1)).trans hx116_1
         replace hx116_2 := (HB.out.cell (World.block_lt_of_cell? w _ hx116_2)).trans hx116_2
         replace hx116_3 := (HB.out.cell (World.block_lt_of_cell? w _ hx116_3)).trans hx116_3
         replace hx116_4 := (HB.out.cell (World.block_lt_of_cell? w _ hx116_4)).trans hx116_4
         replace hx116_5 := (HB.out.cell (World.block_lt_of_cell? w _ hx116_5)).trans hx116_5
         replace p116 := eq_true p116
         replace q116 := eq_true q116
         go_upto_region 6 with (first | ((with_reducible refine gate_dst (N := 6) rfl ?_); (try (refine gate_guard (by rfl) ?_; dsimp only)); refine box_event ?hg (N := 6) ?hd (cs := #[.int .i64 0, .int .i64 0, .int .i64 0, .int .i64 0, .int .i64 0, .string (⟨#[]⟩ : ByteArray)]) (t := 106) ?hr ?_; (case hd => rfl); (case hg => rfl); (case hr => first | (go_simp; done) | (go_simp; rfl)); intro gb117 hg w20 hbox hb; have n0_ := Aside0.mk (blk_below (g := gb114) (o := .cells #[.string a0_0, .int .i64 a0_1, .slice (some ad116) l0_2.length c0_2] 34 (0, 0)) (by (with_reducible repeat (first | refine blk_drewN ?_ _ | refine blk_drew ?_ | refine blk_alloc ?_ _)); exact BK114.out) hb); have n1_ := Aside0.mk (blk_below (g := gb115) (o := .cells #[.int .i64 a1_0, .string a1_1, .slice A1_2 l1_2.length c1_2] 38 (0, 0)) (by (with_reducible repeat (first | refine blk_drewN ?_ _ | refine blk_drew ?_ | refine blk_alloc ?_ _)); exact BK115.out) hb); have n2_ := Aside0.mk (below_step (by repeat (first | (with_reducible first | exact HB.out | apply below_alloc | apply pw_below_drewN | apply below_drew1 | refine below_set ?_ GE114.out | refine below_set ?_ GE115.out) | exact HB.out)) hb); have n3_ := Aside0.mk (hbox); have n4_ := Aside0.mk ((by rw [hg]; exact (below_size (by repeat (first | (with_reducible first | exact HB.out | apply below_alloc | apply pw_below_drewN | apply below_drew1 | refine below_set ?_ GE114.out | refine below_set ?_ GE115.out) | exact HB.out))) : w.heap.size ≤ gb117)); have n5_ := Aside0.mk ((by rw [hg]; exact (below_size (by repeat (first | (with_reducible first | exact HB.out | apply below_alloc | apply pw_below_drewN | apply below_drew1 | refine below_set ?_ GE114.out | refine below_set ?_ GE115.out) | exact HB.out))) : w.heap.size ≤ gb117)); have n6_ := Aside0.mk ((by rw [hg]; exact Nat.ne_of_lt (blk_lt (g := gb114) (o := .cells #[.string a0_0, .int .i64 a0_1, .slice (some ad116) l0_2.length c0_2] 34 (0, 0)) (by (with_reducible repeat (first | refine blk_drewN ?_ _ | refine blk_drew ?_ | refine blk_alloc ?_ _)); exact BK114.out)) : gb114 ≠ gb117)); have n7_ := Aside0.mk ((by rw [hg]; exact Nat.ne_of_gt (blk_lt (g := gb114) (o := .cells #[.string a0_0, .int .i64 a0_1, .slice (some ad116) l0_2.length c0_2] 34 (0, 0)) (by (with_reducible repeat (first | refine blk_drewN ?_ _ | refine blk_drew ?_ | refine blk_alloc ?_ _)); exact BK114.out)) : gb117 ≠ gb114)); have n8_ := Aside0.mk ((by rw [hg]; exact Nat.ne_of_lt (blk_lt (g := gb115) (o := .cells #[.int .i64 a1_0, .string a1_1, .slice A1_2 l1_2.length c1_2] 38 (0, 0)) (by (with_reducible repeat (first | refine blk_drewN ?_ _ | refine blk_drew ?_ | refine blk_alloc ?_ _)); exact BK115.out)) : gb115 ≠ gb117)); have n9_ := Aside0.mk ((by rw [hg]; exact Nat.ne_of_gt (blk_lt (g := gb115) (o := .cells #[.int .i64 a1_0, .string a1_1, .slice A1_2 l1_2.length c1_2] 38 (0, 0)) (by (with_reducible repeat (first | refine blk_drewN ?_ _ | refine blk_drew ?_ | refine blk_alloc ?_ _)); exact BK115.out)) : gb117 ≠ gb115)); clear BK114; clear BK115; clear HB; have BK114 := n0_; have BK115 := n1_; have HB := n2_; have BK117 := n3_; have GW117 := n4_; have GE117 := n5_; have NB114_117 := n6_; have NB117_114 := n7_; have NB115_117 := n8_; have NB117_115 := n9_; clear n0_ n1_ n2_ n3_ n4_ n5_ n6_ n7_ n8_ n9_; clear hb hbox hg; have hnb21 := NB117_114.out; have hnc21 := NB114_117.out; have hnb22 := NB117_115.out; have hnc22 := NB115_117.out; have hcz23_0 : w20.cell? ⟨gb117, 0, none⟩ = some (.int .i64 0) := (blk_cell BK117.out 0).trans rfl; have hcz23_1 : w20.cell? ⟨gb117, 1, none⟩ = some (.int .i64 0) := (blk_cell BK117.out 1).trans rfl; have hcz23_2 : w20.cell? ⟨gb117, 2, none⟩ = some (.int .i64 0) := (blk_cell BK117.out 2).trans rfl; have hcz23_3 : w20.cell? ⟨gb117, 3, none⟩ = some (.int .i64 0) := (blk_cell BK117.out 3).trans rfl; have hcz23_4 : w20.cell? ⟨gb117, 4, none⟩ = some (.int .i64 0) := (blk_cell BK117.out 4).trans rfl; have hcz23_5 : w20.cell? ⟨gb117, 5, none⟩ = some (.string (⟨#[]⟩ : ByteArray)) := (blk_cell BK117.out 5).trans rfl; have hfz23_0 := blk_frozen BK117.out 0; have hfz23_1 := blk_frozen BK117.out 1; have hfz23_2 := blk_frozen BK117.out 2; have hfz23_3 := blk_frozen BK117.out 3; have hfz23_4 := blk_frozen BK117.out 4; have hfz23_5 := blk_frozen BK117.out 5))
         (try simp only [Act.put, List.setIfInBounds_toArray, List.set_cons_zero, List.set_cons_succ])
         go_cut [51] (fun v51 wc => ∃ (kq : Nat) (x51_18 : Bool), v51 = .bool x51_18 ∧ Aside0 (spec_AlphaPass.j2 kq l0_2 (l0_2.length : Int) x24_2 x51_18 a1_0 a1_1 l1_2 ((rd_T106 l0_2 x24_2).f0) ((rd_T106 l0_2 x24_2).f1) ((rd_T106 l0_2 x24_2).f2) ((rd_T106 l0_2 x24_2).f3.f0) ((rd_T106 l0_2 x24_2).f3.f1) ((rd_T106 l0_2 x24_2).f3.f2) = some r) ∧ Aside0 (kq ≤ k2) ∧ Aside0 (wc.heap[gb114]? = some (.cells #[.string a0_0, .int .i64 a0_1, (.slice (some ad116) l0_2.length c0_2)] 34 (0, 0))) ∧ Aside0 (wc.heap[gb115]? = some (.cells #[.int .i64 a1_0, .string a1_1, (.slice A1_2 l1_2.length c1_2)] 38 (0, 0))) ∧ Aside0 (wc.heap[gb117]? = some (.cells #[.int .i64 ((rd_T106 l0_2 x24_2).f0), .int .i64 ((rd_T106 l0_2 x24_2).f1), .int .i64 ((rd_T106 l0_2 x24_2).f2), .int .i64 ((rd_T106 l0_2 x24_2).f3.f0), .int .i64 ((rd_T106 l0_2 x24_2).f3.f1), .string ((rd_T106 l0_2 x24_2).f3.f2)] 106 (0, 0))) ∧ Aside0 (Below w.heap.size w wc))
         case first =>
          have H := HC19.out
          clear HC19
          by_cases c24 : ((rd_T106 l0_2 x24_2).f0) < 0
          ·rw [if_pos c24] at H
           have c24b0 : decide (((rd_T106 l0_2 x24_2).f0) < 0) = true := decide_eq_true c24
           clear c24
           (first | rw [c24b0] | (simp only [i64_w, i32_w]; rw [c24b0]) | skip)
           have H' := Aside0.mk H
           clear H
           have hnb25 := NB117_114.out
           have hnc25 := NB114_117.out
           have hnb26 := NB117_115.out
           have hnc26 := NB115_117.out
           have hcz27_0 : w20.cell? ⟨gb117, 0, none⟩ = some (.int .i64 0) := (blk_cell BK117.out 0).trans rfl
           have hcz27_1 : w20.cell? ⟨gb117, 1, none⟩ = some (.int .i64 0) := (blk_cell BK117.out 1).trans rfl
           have hcz27_2 : w20.cell? ⟨gb117, 2, none⟩ = some (.int .i64 0) := (blk_cell BK117.out 2).trans rfl
           have hcz27_3 : w20.cell? ⟨gb117, 3, none⟩ = some (.int .i64 0) := (blk_cell BK117.out 3).trans rfl
           have hcz27_4 : w20.cell? ⟨gb117, 4, none⟩ = some (.int .i64 0) := (blk_cell BK117.out 4).trans rfl
           have hcz27_5 : w20.cell? ⟨gb117, 5, none⟩ = some (.string (⟨#[]⟩ : ByteArray)) := (blk_cell BK117.out 5).trans rfl
           have hfz27_0 := blk_frozen BK117.out 0
           have hfz27_1 := blk_frozen BK117.out 1
           have hfz27_2 := blk_frozen BK117.out 2
           have hfz27_3 := blk_frozen BK117.out 3
           have hfz27_4 := blk_frozen BK117.out 4
           have hfz27_5 := blk_frozen BK117.out 5
           go_wp2
           go_meet
           case rel => exact ⟨_, (true), (by first | rfl | (simp; done) | (simp [*]; done)), H', ⟨by have := HJ2.out; have := HK2.out; first | omega | exact Nat.le_refl _⟩, ⟨by (with_reducible repeat (first | refine blk_drewN ?_ _ | refine blk_drew ?_ | refine blk_alloc ?_ _)); refine blk_far ?_ NB114_117.out _; (with_reducible repeat (first | refine blk_drewN ?_ _ | refine blk_drew ?_ | refine blk_alloc ?_ _)); refine blk_far ?_ NB114_117.out _; (with_reducible repeat (first | refine blk_drewN ?_ _ | refine blk_drew ?_ | refine blk_alloc ?_ _)); refine blk_far ?_ NB114_117.out _; (with_reducible repeat (first | refine blk_drewN ?_ _ | refine blk_drew ?_ | refine blk_alloc ?_ _)); refine blk_far ?_ NB114_117.out _; (with_reducible repeat (first | refine blk_drewN ?_ _ | refine blk_drew ?_ | refine blk_alloc ?_ _)); refine blk_far ?_ NB114_117.out _; (with_reducible repeat (first | refine blk_drewN ?_ _ | refine blk_drew ?_ | refine blk_alloc ?_ _)); refine blk_far ?_ NB114_117.out _; (with_reducible repeat (first | refine blk_drewN ?_ _ | refine blk_drew ?_ | refine blk_alloc ?_ _)); exact BK114.out⟩, ⟨by (with_reducible repeat (first | refine blk_drewN ?_ _ | refine blk_drew ?_ | refine blk_alloc ?_ _)); refine blk_far ?_ NB115_117.out _; (with_reducible repeat (first | refine blk_drewN ?_ _ | refine blk_drew ?_ | refine blk_alloc ?_ _)); refine blk_far ?_ NB115_117.out _; (with_reducible repeat (first | refine blk_drewN ?_ _ | refine blk_drew ?_ | refine blk_alloc ?_ _)); refine blk_far ?_ NB115_117.out _; (with_reducible repeat (first | refine blk_drewN ?_ _ | refine blk_drew ?_ | refine blk_alloc ?_ _)); refine blk_far ?_ NB115_117.out _; (with_reducible repeat (first | refine blk_drewN ?_ _ | refine blk_drew ?_ | refine blk_alloc ?_ _)); refine blk_far ?_ NB115_117.out _; (with_reducible repeat (first | refine blk_drewN ?_ _ | refine blk_drew ?_ | refine blk_alloc ?_ _)); refine blk_far ?_ NB115_117.out _; (with_reducible repeat (first | refine blk_drewN ?_ _ | refine blk_drew ?_ | refine blk_alloc ?_ _)); exact BK115.out⟩, ⟨by (with_reducible repeat (first | refine blk_drewN ?_ _ | refine blk_drew ?_ | refine blk_alloc ?_ _)); refine blk_put (cs := #[.int .i64 ((rd_T106 l0_2 x24_2).f0), .int .i64 ((rd_T106 l0_2 x24_2).f1), .int .i64 ((rd_T106 l0_2 x24_2).f2), .int .i64 ((rd_T106 l0_2 x24_2).f3.f0), .int .i64 ((rd_T106 l0_2 x24_2).f3.f1), .string (⟨#[]⟩ : ByteArray)]) ?_ 5 _ rfl; (with_reducible repeat (first | refine blk_drewN ?_ _ | refine blk_drew ?_ | refine blk_alloc ?_ _)); refine blk_put (cs := #[.int .i64 ((rd_T106 l0_2 x24_2).f0), .int .i64 ((rd_T106 l0_2 x24_2).f1), .int .i64 ((rd_T106 l0_2 x24_2).f2), .int .i64 ((rd_T106 l0_2 x24_2).f3.f0), .int .i64 0, .string (⟨#[]⟩ : ByteArray)]) ?_ 4 _ rfl; (with_reducible repeat (first | refine blk_drewN ?_ _ | refine blk_drew ?_ | refine blk_alloc ?_ _)); refine blk_put (cs := #[.int .i64 ((rd_T106 l0_2 x24_2).f0), .int .i64 ((rd_T106 l0_2 x24_2).f1), .int .i64 ((rd_T106 l0_2 x24_2).f2), .int .i64 0, .int .i64 0, .string (⟨#[]⟩ : ByteArray)]) ?_ 3 _ rfl; (with_reducible repeat (first | refine blk_drewN ?_ _ | refine blk_drew ?_ | refine blk_alloc ?_ _)); refine blk_put (cs := #[.int .i64 ((rd_T106 l0_2 x24_2).f0), .int .i64 ((rd_T106 l0_2 x24_2).f1), .int .i64 0, .int .i64 0, .int .i64 0, .string (⟨#[]⟩ : ByteArray)]) ?_ 2 _ rfl; (with_reducible repeat (first | refine blk_drewN ?_ _ | refine blk_drew ?_ | refine blk_alloc ?_ _)); refine blk_put (cs := #[.int .i64 ((rd_T106 l0_2 x24_2).f0), .int .i64 0, .int .i64 0, .int .i64 0, .int .i64 0, .string (⟨#[]⟩ : ByteArray)]) ?_ 1 _ rfl; (with_reducible repeat (first | refine blk_drewN ?_ _ | refine blk_drew ?_ | refine blk_alloc ?_ _)); refine blk_put (cs := #[.int .i64 0, .int .i64 0, .int .i64 0, .int .i64 0, .int .i64 0, .string (⟨#[]⟩ : ByteArray)]) ?_ 0 _ rfl; (with_reducible repeat (first | refine blk_drewN ?_ _ | refine blk_drew ?_ | refine blk_alloc ?_ _)); exact BK117.out⟩, ⟨by repeat (first | (with_reducible first | exact HB.out | apply below_alloc | apply pw_below_drewN | apply below_drew1 | refine below_set ?_ GE114.out | refine below_set ?_ GE115.out | refine below_set ?_ GE117.out) | exact HB.out)⟩⟩
          ·rw [if_neg c24] at H
           have c24b0 : decide (((rd_T106 l0_2 x24_2).f0) < 0) = false := decide_eq_false c24
           clear c24
           (first | rw [c24b0] | (simp only [i64_w, i32_w]; rw [c24b0]) | skip)
           by_cases c28 : ((rd_T106 l0_2 x24_2).f0) ≥ (l1_2.length : Int)
           ·rw [if_pos c28] at H
            have c28b0 : decide ((l1_2.length : Int) ≤ ((rd_T106 l0_2 x24_2).f0)) = true := decide_eq_true c28
            clear c28
            have H' := Aside0.mk H
            clear H
            have hnb29 := NB117_114.out
            have hnc29 := NB114_117.out
            have hnb30 := NB117_115.out
            have hnc30 := NB115_117.out
            have hcz31_0 : w20.cell? ⟨gb117, 0, none⟩ = some (.int .i64 0) := (blk_cell BK117.out 0).trans rfl
            have hcz31_1 : w20.cell? ⟨gb117, 1, none⟩ = some (.int .i64 0) := (blk_cell BK117.out 1).trans rfl
            have hcz31_2 : w20.cell? ⟨gb117, 2, none⟩ = some (.int .i64 0) := (blk_cell BK117.out 2).trans rfl
            have hcz31_3 : w20.cell? ⟨gb117, 3, none⟩ = some (.int .i64 0) := (blk_cell BK117.out 3).trans rfl
            have hcz31_4 : w20.cell? ⟨gb117, 4, none⟩ = some (.int .i64 0) := (blk_cell BK117.out 4).trans rfl
            have hcz31_5 : w20.cell? ⟨gb117, 5, none⟩ = some (.string (⟨#[]⟩ : ByteArray)) := (blk_cell BK117.out 5).trans rfl
            have hfz31_0 := blk_frozen BK117.out 0
            have hfz31_1 := blk_frozen BK117.out 1
            have hfz31_2 := blk_frozen BK117.out 2
            have hfz31_3 := blk_frozen BK117.out 3
            have hfz31_4 := blk_frozen BK117.out 4
            have hfz31_5 := blk_frozen BK117.out 5
            have hnb32 := NB115_114.out
            have hnc32 := NB114_115.out
            have hcz33_0 : w20.cell? ⟨gb115, 0, none⟩ = some (.int .i64 a1_0) := (blk_cell BK115.out 0).trans rfl
            have hcz33_1 : w20.cell? ⟨gb115, 1, none⟩ = some (.string a1_1) := (blk_cell BK115.out 1).trans rfl
            have hcz33_2 : w20.cell? ⟨gb115, 2, none⟩ = some (.slice A1_2 l1_2.length c1_2) := (blk_cell BK115.out 2).trans rfl
            have hfz33_0 := blk_frozen BK115.out 0
            have hfz33_1 := blk_frozen BK115.out 1
            have hfz33_2 := blk_frozen BK115.out 2
            go_wp2
            go_meet
            case rel => exact ⟨_, (true), (by first | rfl | (simp; done) | (simp [*]; done)), H', ⟨by have := HJ2.out; have := HK2.out; first | omega | exact Nat.le_refl _⟩, ⟨by (with_reducible repeat (first | refine blk_drewN ?_ _ | refine blk_drew ?_ | refine blk_alloc ?_ _)); refine blk_far ?_ NB114_117.out _; (with_reducible repeat (first | refine blk_drewN ?_ _ | refine blk_drew ?_ | refine blk_alloc ?_ _)); refine blk_far ?_ NB114_117.out _; (with_reducible repeat (first | refine blk_drewN ?_ _ | refine blk_drew ?_ | refine blk_alloc ?_ _)); refine blk_far ?_ NB114_117.out _; (with_reducible repeat (first | refine blk_drewN ?_ _ | refine blk_drew ?_ | refine blk_alloc ?_ _)); refine blk_far ?_ NB114_117.out _; (with_reducible repeat (first | refine blk_drewN ?_ _ | refine blk_drew ?_ | refine blk_alloc ?_ _)); refine blk_far ?_ NB114_117.out _; (with_reducible repeat (first | refine blk_drewN ?_ _ | refine blk_drew ?_ | refine blk_alloc ?_ _)); refine blk_far ?_ NB114_117.out _; (with_reducible repeat (first | refine blk_drewN ?_ _ | refine blk_drew ?_ | refine blk_alloc ?_ _)); exact BK114.out⟩, ⟨by (with_reducible repeat (first | refine blk_drewN ?_ _ | refine blk_drew ?_ | refine blk_alloc ?_ _)); refine blk_far ?_ NB115_117.out _; (with_reducible repeat (first | refine blk_drewN ?_ _ | refine blk_drew ?_ | refine blk_alloc ?_ _)); refine blk_far ?_ NB115_117.out _; (with_reducible repeat (first | refine blk_drewN ?_ _ | refine blk_drew ?_ | refine blk_alloc ?_ _)); refine blk_far ?_ NB115_117.out _; (with_reducible repeat (first | refine blk_drewN ?_ _ | refine blk_drew ?_ | refine blk_alloc ?_ _)); refine blk_far ?_ NB115_117.out _; (with_reducible repeat (first | refine blk_drewN ?_ _ | refine blk_drew ?_ | refine blk_alloc ?_ _)); refine blk_far ?_ NB115_117.out _; (with_reducible repeat (first | refine blk_drewN ?_ _ | refine blk_drew ?_ | refine blk_alloc ?_ _)); refine blk_far ?_ NB115_117.out _; (with_reducible repeat (first | refine blk_drewN ?_ _ | refine blk_drew ?_ | refine blk_alloc ?_ _)); exact BK115.out⟩, ⟨by (with_reducible repeat (first | refine blk_drewN ?_ _ | refine blk_drew ?_ | refine blk_alloc ?_ _)); refine blk_put (cs := #[.int .i64 ((rd_T106 l0_2 x24_2).f0), .int .i64 ((rd_T106 l0_2 x24_2).f1), .int .i64 ((rd_T106 l0_2 x24_2).f2), .int .i64 ((rd_T106 l0_2 x24_2).f3.f0), .int .i64 ((rd_T106 l0_2 x24_2).f3.f1), .string (⟨#[]⟩ : ByteArray)]) ?_ 5 _ rfl; (with_reducible repeat (first | refine blk_drewN ?_ _ | refine blk_drew ?_ | refine blk_alloc ?_ _)); refine blk_put (cs := #[.int .i64 ((rd_T106 l0_2 x24_2).f0), .int .i64 ((rd_T106 l0_2 x24_2).f1), .int .i64 ((rd_T106 l0_2 x24_2).f2), .int .i64 ((rd_T106 l0_2 x24_2).f3.f0), .int .i64 0, .string (⟨#[]⟩ : ByteArray)]) ?_ 4 _ rfl; (with_reducible repeat (first | refine blk_drewN ?_ _ | refine blk_drew ?_ | refine blk_alloc ?_ _)); refine blk_put (cs := #[.int .i64 ((rd_T106 l0_2 x24_2).f0), .int .i64 ((rd_T106 l0_2 x24_2).f1), .int .i64 ((rd_T106 l0_2 x24_2).f2), .int .i64 0, .int .i64 0, .string (⟨#[]⟩ : ByteArray)]) ?_ 3 _ rfl; (with_reducible repeat (first | refine blk_drewN ?_ _ | refine blk_drew ?_ | refine blk_alloc ?_ _)); refine blk_put (cs := #[.int .i64 ((rd_T106 l0_2 x24_2).f0), .int .i64 ((rd_T106 l0_2 x24_2).f1), .int .i64 0, .int .i64 0, .int .i64 0, .string (⟨#[]⟩ : ByteArray)]) ?_ 2 _ rfl; (with_reducible repeat (first | refine blk_drewN ?_ _ | refine blk_drew ?_ | refine blk_alloc ?_ _)); refine blk_put (cs := #[.int .i64 ((rd_T106 l0_2 x24_2).f0), .int .i64 0, .int .i64 0, .int .i64 0, .int .i64 0, .string (⟨#[]⟩ : ByteArray)]) ?_ 1 _ rfl; (with_reducible repeat (first | refine blk_drewN ?_ _ | refine blk_drew ?_ | refine blk_alloc ?_ _)); refine blk_put (cs := #[.int .i64 0, .int .i64 0, .int .i64 0, .int .i64 0, .int .i64 0, .string (⟨#[]⟩ : ByteArray)]) ?_ 0 _ rfl; (with_reducible repeat (first | refine blk_drewN ?_ _ | refine blk_drew ?_ | refine blk_alloc ?_ _)); exact BK117.out⟩, ⟨by repeat (first | (with_reducible first | exact HB.out | apply below_alloc | apply pw_below_drewN | apply below_drew1 | refine below_set ?_ GE114.out | refine below_set ?_ GE115.out | refine below_set ?_ GE117.out) | exact HB.out)⟩⟩
           ·rw [if_neg c28] at H
            have c28b0 : decide ((l1_2.length : Int) ≤ ((rd_T106 l0_2 x24_2).f0)) = false := decide_eq_false c28
            clear c28
            by_cases c34 : ((rd_T106 l0_2 x24_2).f2) < (-1)
            ·rw [if_pos c34] at H
             have c34b0 : decide (((rd_T106 l0_2 x24_2).f2) < (-1)) = true := decide_eq_true c34
             clear c34
             have H' := Aside0.mk H
             clear H
             have hnb35 := NB117_114.out
             have hnc35 := NB114_117.out
             have hnb36 := NB117_115.out
             have hnc36 := NB115_117.out
             have hcz37_0 : w20.cell? ⟨gb117, 0, none⟩ = some (.int .i64 0) := (blk_cell BK117.out 0).trans rfl
             have hcz37_1 : w20.cell? ⟨gb117, 1, none⟩ = some (.int .i64 0) := (blk_cell BK117.out 1).trans rfl
             have hcz37_2 : w20.cell? ⟨gb117, 2, none⟩ = some (.int .i64 0) := (blk_cell BK117.out 2).trans rfl
             have hcz37_3 : w20.cell? ⟨gb117, 3, none⟩ = some (.int .i64 0) := (blk_cell BK117.out 3).trans rfl
             have hcz37_4 : w20.cell? ⟨gb117, 4, none⟩ = some (.int .i64 0) := (blk_cell BK117.out 4).trans rfl
             have hcz37_5 : w20.cell? ⟨gb117, 5, none⟩ = some (.string (⟨#[]⟩ : ByteArray)) := (blk_cell BK117.out 5).trans rfl
             have hfz37_0 := blk_frozen BK117.out 0
             have hfz37_1 := blk_frozen BK117.out 1
             have hfz37_2 := blk_frozen BK117.out 2
             have hfz37_3 := blk_frozen BK117.out 3
             have hfz37_4 := blk_frozen BK117.out 4
             have hfz37_5 := blk_frozen BK117.out 5
             have hnb38 := NB115_114.out
             have hnc38 := NB114_115.out
             have hcz39_0 : w20.cell? ⟨gb115, 0, none⟩ = some (.int .i64 a1_0) := (blk_cell BK115.out 0).trans rfl
             have hcz39_1 : w20.cell? ⟨gb115, 1, none⟩ = some (.string a1_1) := (blk_cell BK115.out 1).trans rfl
             have hcz39_2 : w20.cell? ⟨gb115, 2, none⟩ = some (.slice A1_2 l1_2.length c1_2) := (blk_cell BK115.out 2).trans rfl
             have hfz39_0 := blk_frozen BK115.out 0
             have hfz39_1 := blk_frozen BK115.out 1
             have hfz39_2 := blk_frozen BK115.out 2
             go_wp2
             go_meet
             case rel => exact ⟨_, (true), (by first | rfl | (simp; done) | (simp [*]; done)), H', ⟨by have := HJ2.out; have := HK2.out; first | omega | exact Nat.le_refl _⟩, ⟨by (with_reducible repeat (first | refine blk_drewN ?_ _ | refine blk_drew ?_ | refine blk_alloc ?_ _)); refine blk_far ?_ NB114_117.out _; (with_reducible repeat (first | refine blk_drewN ?_ _ | refine blk_drew ?_ | refine blk_alloc ?_ _)); refine blk_far ?_ NB114_117.out _; (with_reducible repeat (first | refine blk_drewN ?_ _ | refine blk_drew ?_ | refine blk_alloc ?_ _)); refine blk_far ?_ NB114_117.out _; (with_reducible repeat (first | refine blk_drewN ?_ _ | refine blk_drew ?_ | refine blk_alloc ?_ _)); refine blk_far ?_ NB114_117.out _; (with_reducible repeat (first | refine blk_drewN ?_ _ | refine blk_drew ?_ | refine blk_alloc ?_ _)); refine blk_far ?_ NB114_117.out _; (with_reducible repeat (first | refine blk_drewN ?_ _ | refine blk_drew ?_ | refine blk_alloc ?_ _)); refine blk_far ?_ NB114_117.out _; (with_reducible repeat (first | refine blk_drewN ?_ _ | refine blk_drew ?_ | refine blk_alloc ?_ _)); exact BK114.out⟩, ⟨by (with_reducible repeat (first | refine blk_drewN ?_ _ | refine blk_drew ?_ | refine blk_alloc ?_ _)); refine blk_far ?_ NB115_117.out _; (with_reducible repeat (first | refine blk_drewN ?_ _ | refine blk_drew ?_ | refine blk_alloc ?_ _)); refine blk_far ?_ NB115_117.out _; (with_reducible repeat (first | refine blk_drewN ?_ _ | refine blk_drew ?_ | refine blk_alloc ?_ _)); refine blk_far ?_ NB115_117.out _; (with_reducible repeat (first | refine blk_drewN ?_ _ | refine blk_drew ?_ | refine blk_alloc ?_ _)); refine blk_far ?_ NB115_117.out _; (with_reducible repeat (first | refine blk_drewN ?_ _ | refine blk_drew ?_ | refine blk_alloc ?_ _)); refine blk_far ?_ NB115_117.out _; (with_reducible repeat (first | refine blk_drewN ?_ _ | refine blk_drew ?_ | refine blk_alloc ?_ _)); refine blk_far ?_ NB115_117.out _; (with_reducible repeat (first | refine blk_drewN ?_ _ | refine blk_drew ?_ | refine blk_alloc ?_ _)); exact BK115.out⟩, ⟨by (with_reducible repeat (first | refine blk_drewN ?_ _ | refine blk_drew ?_ | refine blk_alloc ?_ _)); refine blk_put (cs := #[.int .i64 ((rd_T106 l0_2 x24_2).f0), .int .i64 ((rd_T106 l0_2 x24_2).f1), .int .i64 ((rd_T106 l0_2 x24_2).f2), .int .i64 ((rd_T106 l0_2 x24_2).f3.f0), .int .i64 ((rd_T106 l0_2 x24_2).f3.f1), .string (⟨#[]⟩ : ByteArray)]) ?_ 5 _ rfl; (with_reducible repeat (first | refine blk_drewN ?_ _ | refine blk_drew ?_ | refine blk_alloc ?_ _)); refine blk_put (cs := #[.int .i64 ((rd_T106 l0_2 x24_2).f0), .int .i64 ((rd_T106 l0_2 x24_2).f1), .int .i64 ((rd_T106 l0_2 x24_2).f2), .int .i64 ((rd_T106 l0_2 x24_2).f3.f0), .int .i64 0, .string (⟨#[]⟩ : ByteArray)]) ?_ 4 _ rfl; (with_reducible repeat (first | refine blk_drewN ?_ _ | refine blk_drew ?_ | refine blk_alloc ?_ _)); refine blk_put (cs := #[.int .i64 ((rd_T106 l0_2 x24_2).f0), .int .i64 ((rd_T106 l0_2 x24_2).f1), .int .i64 ((rd_T106 l0_2 x24_2).f2), .int .i64 0, .int .i64 0, .string (⟨#[]⟩ : ByteArray)]) ?_ 3 _ rfl; (with_reducible repeat (first | refine blk_drewN ?_ _ | refine blk_drew ?_ | refine blk_alloc ?_ _)); refine blk_put (cs := #[.int .i64 ((rd_T106 l0_2 x24_2).f0), .int .i64 ((rd_T106 l0_2 x24_2).f1), .int .i64 0, .int .i64 0, .int .i64 0, .string (⟨#[]⟩ : ByteArray)]) ?_ 2 _ rfl; (with_reducible repeat (first | refine blk_drewN ?_ _ | refine blk_drew ?_ | refine blk_alloc ?_ _)); refine blk_put (cs := #[.int .i64 ((rd_T106 l0_2 x24_2).f0), .int .i64 0, .int .i64 0, .int .i64 0, .int .i64 0, .string (⟨#[]⟩ : ByteArray)]) ?_ 1 _ rfl; (with_reducible repeat (first | refine blk_drewN ?_ _ | refine blk_drew ?_ | refine blk_alloc ?_ _)); refine blk_put (cs := #[.int .i64 0, .int .i64 0, .int .i64 0, .int .i64 0, .int .i64 0, .string (⟨#[]⟩ : ByteArray)]) ?_ 0 _ rfl; (with_reducible repeat (first | refine blk_drewN ?_ _ | refine blk_drew ?_ | refine blk_alloc ?_ _)); exact BK117.out⟩, ⟨by repeat (first | (with_reducible first | exact HB.out | apply below_alloc | apply pw_below_drewN | apply below_drew1 | refine below_set ?_ GE114.out | refine below_set ?_ GE115.out | refine below_set ?_ GE117.out) | exact HB.out)⟩⟩
            ·rw [if_neg c34] at H
             have c34b0 : decide (((rd_T106 l0_2 x24_2).f2) < (-1)) = false := decide_eq_false c34
             clear c34
             have H' := Aside0.mk H
             clear H
             have hnb40 := NB117_114.out
             have hnc40 := NB114_117.out
             have hnb41 := NB117_115.out
             have hnc41 := NB115_117.out
             have hcz42_0 : w20.cell? ⟨gb117, 0, none⟩ = some (.int .i64 0) := (blk_cell BK117.out 0).trans rfl
             have hcz42_1 : w20.cell? ⟨gb117, 1, none⟩ = some (.int .i64 0) := (blk_cell BK117.out 1).trans rfl
             have hcz42_2 : w20.cell? ⟨gb117, 2, none⟩ = some (.int .i64 0) := (blk_cell BK117.out 2).trans rfl
             have hcz42_3 : w20.cell? ⟨gb117, 3, none⟩ = some (.int .i64 0) := (blk_cell BK117.out 3).trans rfl
             have hcz42_4 : w20.cell? ⟨gb117, 4, none⟩ = some (.int .i64 0) := (blk_cell BK117.out 4).trans rfl
             have hcz42_5 : w20.cell? ⟨gb117, 5, none⟩ = some (.string (⟨#[]⟩ : ByteArray)) := (blk_cell BK117.out 5).trans rfl
             have hfz42_0 := blk_frozen BK117.out 0
             have hfz42_1 := blk_frozen BK117.out 1
             have hfz42_2 := blk_frozen BK117.out 2
             have hfz42_3 := blk_frozen BK117.out 3
             have hfz42_4 := blk_frozen BK117.out 4
             have hfz42_5 := blk_frozen BK117.out 5
             have hnb43 := NB115_114.out
             have hnc43 := NB114_115.out
             have hcz44_0 : w20.cell? ⟨gb115, 0, none⟩ = some (.int .i64 a1_0) := (blk_cell BK115.out 0).trans rfl
             have hcz44_1 : w20.cell? ⟨gb115, 1, none⟩ = some (.string a1_1) := (blk_cell BK115.out 1).trans rfl
             have hcz44_2 : w20.cell? ⟨gb115, 2, none⟩ = some (.slice A1_2 l1_2.length c1_2) := (blk_cell BK115.out 2).trans rfl
             have hfz44_0 := blk_frozen BK115.out 0
             have hfz44_1 := blk_frozen BK115.out 1
             have hfz44_2 := blk_frozen BK115.out 2
             go_wp2
             go_meet
             case rel => exact ⟨_, (decide (((rd_T106 l0_2 x24_2).f2) ≥ (l1_2.length : Int))), (by first | rfl | (simp; done) | (simp [*]; done)), H', ⟨by have := HJ2.out; have := HK2.out; first | omega | exact Nat.le_refl _⟩, ⟨by (with_reducible repeat (first | refine blk_drewN ?_ _ | refine blk_drew ?_ | refine blk_alloc ?_ _)); refine blk_far ?_ NB114_117.out _; (with_reducible repeat (first | refine blk_drewN ?_ _ | refine blk_drew ?_ | refine blk_alloc ?_ _)); refine blk_far ?_ NB114_117.out _; (with_reducible repeat (first | refine blk_drewN ?_ _ | refine blk_drew ?_ | refine blk_alloc ?_ _)); refine blk_far ?_ NB114_117.out _; (with_reducible repeat (first | refine blk_drewN ?_ _ | refine blk_drew ?_ | refine blk_alloc ?_ _)); refine blk_far ?_ NB114_117.out _; (with_reducible repeat (first | refine blk_drewN ?_ _ | refine blk_drew ?_ | refine blk_alloc ?_ _)); refine blk_far ?_ NB114_117.out _; (with_reducible repeat (first | refine blk_drewN ?_ _ | refine blk_drew ?_ | refine blk_alloc ?_ _)); refine blk_far ?_ NB114_117.out _; (with_reducible repeat (first | refine blk_drewN ?_ _ | refine blk_drew ?_ | refine blk_alloc ?_ _)); exact BK114.out⟩, ⟨by (with_reducible repeat (first | refine blk_drewN ?_ _ | refine blk_drew ?_ | refine blk_alloc ?_ _)); refine blk_far ?_ NB115_117.out _; (with_reducible repeat (first | refine blk_drewN ?_ _ | refine blk_drew ?_ | refine blk_alloc ?_ _)); refine blk_far ?_ NB115_117.out _; (with_reducible repeat (first | refine blk_drewN ?_ _ | refine blk_drew ?_ | refine blk_alloc ?_ _)); refine blk_far ?_ NB115_117.out _; (with_reducible repeat (first | refine blk_drewN ?_ _ | refine blk_drew ?_ | refine blk_alloc ?_ _)); refine blk_far ?_ NB115_117.out _; (with_reducible repeat (first | refine blk_drewN ?_ _ | refine blk_drew ?_ | refine blk_alloc ?_ _)); refine blk_far ?_ NB115_117.out _; (with_reducible repeat (first | refine blk_drewN ?_ _ | refine blk_drew ?_ | refine blk_alloc ?_ _)); refine blk_far ?_ NB115_117.out _; (with_reducible repeat (first | refine blk_drewN ?_ _ | refine blk_drew ?_ | refine blk_alloc ?_ _)); exact BK115.out⟩, ⟨by (with_reducible repeat (first | refine blk_drewN ?_ _ | refine blk_drew ?_ | refine blk_alloc ?_ _)); refine blk_put (cs := #[.int .i64 ((rd_T106 l0_2 x24_2).f0), .int .i64 ((rd_T106 l0_2 x24_2).f1), .int .i64 ((rd_T106 l0_2 x24_2).f2), .int .i64 ((rd_T106 l0_2 x24_2).f3.f0), .int .i64 ((rd_T106 l0_2 x24_2).f3.f1), .string (⟨#[]⟩ : ByteArray)]) ?_ 5 _ rfl; (with_reducible repeat (first | refine blk_drewN ?_ _ | refine blk_drew ?_ | refine blk_alloc ?_ _)); refine blk_put (cs := #[.int .i64 ((rd_T106 l0_2 x24_2).f0), .int .i64 ((rd_T106 l0_2 x24_2).f1), .int .i64 ((rd_T106 l0_2 x24_2).f2), .int .i64 ((rd_T106 l0_2 x24_2).f3.f0), .int .i64 0, .string (⟨#[]⟩ : ByteArray)]) ?_ 4 _ rfl; (with_reducible repeat (first | refine blk_drewN ?_ _ | refine blk_drew ?_ | refine blk_alloc ?_ _)); refine blk_put (cs := #[.int .i64 ((rd_T106 l0_2 x24_2).f0), .int .i64 ((rd_T106 l0_2 x24_2).f1), .int .i64 ((rd_T106 l0_2 x24_2).f2), .int .i64 0, .int .i64 0, .string (⟨#[]⟩ : ByteArray)]) ?_ 3 _ rfl; (with_reducible repeat (first | refine blk_drewN ?_ _ | refine blk_drew ?_ | refine blk_alloc ?_ _)); refine blk_put (cs := #[.int .i64 ((rd_T106 l0_2 x24_2).f0), .int .i64 ((rd_T106 l0_2 x24_2).f1), .int .i64 0, .int .i64 0, .int .i64 0, .string (⟨#[]⟩ : ByteArray)]) ?_ 2 _ rfl; (with_reducible repeat (first | refine blk_drewN ?_ _ | refine blk_drew ?_ | refine blk_alloc ?_ _)); refine blk_put (cs := #[.int .i64 ((rd_T106 l0_2 x24_2).f0), .int .i64 0, .int .i64 0, .int .i64 0, .int .i64 0, .string (⟨#[]⟩ : ByteArray)]) ?_ 1 _ rfl; (with_reducible repeat (first | refine blk_drewN ?_ _ | refine blk_drew ?_ | refine blk_alloc ?_ _)); refine blk_put (cs := #[.int .i64 0, .int .i64 0, .int .i64 0, .int .i64 0, .int .i64 0, .string (⟨#[]⟩ : ByteArray)]) ?_ 0 _ rfl; (with_reducible repeat (first | refine blk_drewN ?_ _ | refine blk_drew ?_ | refine blk_alloc ?_ _)); exact BK117.out⟩, ⟨by repeat (first | (with_reducible first | exact HB.out | apply below_alloc | apply pw_below_drewN | apply below_drew1 | refine below_set ?_ GE114.out | refine below_set ?_ GE115.out | refine below_set ?_ GE117.out) | exact HB.out)⟩⟩
         case rest =>
          clear HC19
          try clear c1
          try clear p1
          try clear q1
          try clear hx1
          try clear c2
          try clear p2
          try clear c3
          try clear c4
          try clear c6
          try clear c6b0
          try clear c6b1
          try clear c7
          try clear c10
          try clear p11
          try clear q11
          try clear hx11
          try clear c12
          try clear c13
          try clear c14
          try clear c16
          try clear c16b0
          try clear c17
          try clear c17b0
          try clear c18
          try clear c18b0
          try clear c21
          try clear c22
          try clear c24
          try clear c24b0
          try clear c25
          try clear c26
          try clear c28
          try clear c28b0
          try clear c29
          try clear c30
          try clear c32
          try clear c34
          try clear c34b0
          try clear c35
          try clear c36
          try clear c38
          try clear c40
          try clear c41
          try clear c43
          try clear hcz11_0
          try clear hcz11_1
          try clear hcz11_2
          try clear hcz12_0
          try clear hcz12_1
          try clear hcz12_2
          try clear hcz15_0
          try clear hcz15_1
          try clear hcz15_2
          try clear hcz23_0
          try clear hcz23_1
          try clear hcz23_2
          try clear hcz23_3
          try clear hcz23_4
          try clear hcz23_5
          try clear hcz27_0
          try clear hcz27_1
          try clear hcz27_2
          try clear hcz27_3
          try clear hcz27_4
          try clear hcz27_5
          try clear hcz31_0
          try clear hcz31_1
          try clear hcz31_2
          try clear hcz31_3
          try clear hcz31_4
          try clear hcz31_5
          try clear hcz33_0
          try clear hcz33_1
          try clear hcz33_2
          try clear hcz37_0
          try clear hcz37_1
          try clear hcz37_2
          try clear hcz37_3
          try clear hcz37_4
          try clear hcz37_5
          try clear hcz39_0
          try clear hcz39_1
          try clear hcz39_2
          try clear hcz42_0
          try clear hcz42_1
          try clear hcz42_2
          try clear hcz42_3
          try clear hcz42_4
          try clear hcz42_5
          try clear hcz44_0
          try clear hcz44_1
          try clear hcz44_2
          try clear hcz8_0
          try clear hcz8_1
          try clear hcz8_2
          try clear hcz9_0
          try clear hcz9_1
          try clear hcz9_2
          try clear hfz11_0
          try clear hfz11_1
          try clear hfz11_2
          try clear hfz12_0
          try clear hfz12_1
          try clear hfz12_2
          try clear hfz15_0
          try clear hfz15_1
          try clear hfz15_2
          try clear hfz23_0
          try clear hfz23_1
          try clear hfz23_2
          try clear hfz23_3
          try clear hfz23_4
          try clear hfz23_5
          try clear hfz27_0
          try clear hfz27_1
          try clear hfz27_2
          try clear hfz27_3
          try clear hfz27_4
          try clear hfz27_5
          try clear hfz31_0
          try clear hfz31_1
          try clear hfz31_2
          try clear hfz31_3
          try clear hfz31_4
          try clear hfz31_5
          try clear hfz33_0
          try clear hfz33_1
          try clear hfz33_2
          try clear hfz37_0
          try clear hfz37_1
          try clear hfz37_2
          try clear hfz37_3
          try clear hfz37_4
          try clear hfz37_5
          try clear hfz39_0
          try clear hfz39_1
          try clear hfz39_2
          try clear hfz42_0
          try clear hfz42_1
          try clear hfz42_2
          try clear hfz42_3
          try clear hfz42_4
          try clear hfz42_5
          try clear hfz44_0
          try clear hfz44_1
          try clear hfz44_2
          try clear hfz8_0
          try clear hfz8_1
          try clear hfz8_2
          try clear hfz9_0
          try clear hfz9_1
          try clear hfz9_2
          try clear hx116_0
          try clear hx116_1
          try clear hx116_2
          try clear hx116_3
          try clear hx116_4
          try clear hx116_5
          try clear p116
          try clear p2
          try clear q116
          obtain ⟨kq, x51_18, rfl, HA, HJ18, BK114, BK115, BK117, HB⟩ := hcut
          cases kq with
          | zero => exact absurd HA.out (by simp [spec_AlphaPass.j2])
          | succ kj18 =>
           have H := HA.out
           clear HA
           simp only [spec_AlphaPass.j2] at H
           by_cases c45 : x51_18 = true
           ·subst c45
            have H1 : (some false) = some r := by first | (rw [if_pos rfl] at H; exact H) | rfl
            clear H
            have H := H1
            clear H1
            obtain rfl := Option.some.inj H
            go_wp2
            go_ret
            exact ⟨by first | rfl | (simp [errW_none, errW_some] <;> rfl) | (simp [*, errW_none, errW_some] <;> rfl), by repeat (first | (with_reducible first | exact HB.out | apply below_alloc | apply pw_below_drewN | apply below_drew1 | refine below_set ?_ GE114.out | refine below_set ?_ GE115.out | refine below_set ?_ GE117.out) | exact HB.out)⟩
           ·replace c45 := Bool.eq_false_iff.mpr c45
            subst c45
            have H1 : (if ((rd_T106 l0_2 x24_2).f2) ≥ 0 then (if 0 ≤ ((rd_T106 l0_2 x24_2).f2) then (if ((rd_T106 l0_2 x24_2).f2) < (l1_2.length : Int) then (if 0 ≤ ((rd_T106 l0_2 x24_2).f0) then (if ((rd_T106 l0_2 x24_2).f0) < (l1_2.length : Int) then ((spec_l3Holds.f kj18 ((rd_T106 l0_2 x24_2).f1) ((rd_T104 l1_2 ((rd_T106 l0_2 x24_2).f0)).f0) ((rd_T104 l1_2 ((rd_T106 l0_2 x24_2).f0)).f1) ((rd_T104 l1_2 ((rd_T106 l0_2 x24_2).f0)).f2) ((rd_T104 l1_2 ((rd_T106 l0_2 x24_2).f2)).f0) ((rd_T104 l1_2 ((rd_T106 l0_2 x24_2).f2)).f1) ((rd_T104 l1_2 ((rd_T106 l0_2 x24_2).f2)).f2)).bind fun t121 => (if t121 = true then (spec_AlphaPass.l0 kj18 l0_2 (l0_2.length : Int) (wrap64 (x24_2 + 1)) a1_0 a1_1 l1_2) else (some false))) else (none)) else (none)) else (none)) else (none)) else (if 0 ≤ ((rd_T106 l0_2 x24_2).f0) then (if ((rd_T106 l0_2 x24_2).f0) < (l1_2.length : Int) then ((spec_l3Holds.f kj18 ((rd_T106 l0_2 x24_2).f1) ((rd_T104 l1_2 ((rd_T106 l0_2 x24_2).f0)).f0) ((rd_T104 l1_2 ((rd_T106 l0_2 x24_2).f0)).f1) ((rd_T104 l1_2 ((rd_T106 l0_2 x24_2).f0)).f2) ((rd_T106 l0_2 x24_2).f3.f0) ((rd_T106 l0_2 x24_2).f3.f1) ((rd_T106 l0_2 x24_2).f3.f2)).bind fun t123 => (if t123 = true then (spec_AlphaPass.l0 kj18 l0_2 (l0_2.length : Int) (wrap64 (x24_2 + 1)) a1_0 a1_1 l1_2) else (some false))) else (none)) else (none))) = some r := by first | (rw [if_neg (show ¬ (false = true) by decide)] at H; exact H) | rfl
            clear H
            have H := H1
            clear H1
            by_cases c46 : ((rd_T106 l0_2 x24_2).f2) ≥ 0
            ·rw [if_pos c46] at H
             have c46b0 : decide (0 ≤ ((rd_T106 l0_2 x24_2).f2)) = true := decide_eq_true c46
             clear c46
             by_cases c47 : 0 ≤ ((rd_T106 l0_2 x24_2).f2)
             ·rw [if_pos c47] at H
              have c47b0 : decide (0 ≤ ((rd_T106 l0_2 x24_2).f2)) = true := decide_eq_true c47
              clear c47
              by_cases c48 : ((rd_T106 l0_2 x24_2).f2) < (l1_2.length : Int)
              ·rw [if_pos c48] at H
               have c48b0 : decide (((rd_T106 l0_2 x24_2).f2) < (l1_2.length : Int)) = true := decide_eq_true c48
               clear c48
               by_cases c49 : 0 ≤ ((rd_T106 l0_2 x24_2).f0)
               ·rw [if_pos c49] at H
                have c49b0 : decide (0 ≤ ((rd_T106 l0_2 x24_2).f0)) = true := decide_eq_true c49
                clear c49
                by_cases c50 : ((rd_T106 l0_2 x24_2).f0) < (l1_2.length : Int)
                ·rw [if_pos c50] at H
                 have c50b0 : decide (((rd_T106 l0_2 x24_2).f0) < (l1_2.length : Int)) = true := decide_eq_true c50
                 clear c50
                 replace H := Option.bind_eq_some_iff.mp H
                 obtain ⟨t121, A510, H⟩ := H
                 replace H : (if t121 = true then (spec_AlphaPass.l0 kj18 l0_2 (l0_2.length : Int) (wrap64 (x24_2 + 1)) a1_0 a1_1 l1_2) else (some false)) = some r := H
                 have A51 := Aside0.mk A510
                 clear A510
                 by_cases c52 : t121 = true
                 ·subst c52
                  have H1 : (spec_AlphaPass.l0 kj18 l0_2 (l0_2.length : Int) (wrap64 (x24_2 + 1)) a1_0 a1_1 l1_2) = some r := by first | (rw [if_pos rfl] at H; exact H) | rfl
                  clear H
                  have H := H1
                  clear H1
                  have H' := Aside0.mk H
                  clear H
                  have hnb53 := NB117_114.out
                  have hnc53 := NB114_117.out
                  have hnb54 := NB117_115.out
                  have hnc54 := NB115_117.out
                  have hcz55_0 : wc.cell? ⟨gb117, 0, none⟩ = some (.int .i64 ((rd_T106 l0_2 x24_2).f0)) := (blk_cell BK117.out 0).trans rfl
                  have hcz55_1 : wc.cell? ⟨gb117, 1, none⟩ = some (.int .i64 ((rd_T106 l0_2 x24_2).f1)) := (blk_cell BK117.out 1).trans rfl
                  have hcz55_2 : wc.cell? ⟨gb117, 2, none⟩ = some (.int .i64 ((rd_T106 l0_2 x24_2).f2)) := (blk_cell BK117.out 2).trans rfl
                  have hcz55_3 : wc.cell? ⟨gb117, 3, none⟩ = some (.int .i64 ((rd_T106 l0_2 x24_2).f3.f0)) := (blk_cell BK117.out 3).trans rfl
                  have hcz55_4 : wc.cell? ⟨gb117, 4, none⟩ = some (.int .i64 ((rd_T106 l0_2 x24_2).f3.f1)) := (blk_cell BK117.out 4).trans rfl
                  have hcz55_5 : wc.cell? ⟨gb117, 5, none⟩ = some (.string ((rd_T106 l0_2 x24_2).f3.f2)) := (blk_cell BK117.out 5).trans rfl
                  have hfz55_0 := blk_frozen BK117.out 0
                  have hfz55_1 := blk_frozen BK117.out 1
                  have hfz55_2 := blk_frozen BK117.out 2
                  have hfz55_3 := blk_frozen BK117.out 3
                  have hfz55_4 := blk_frozen BK117.out 4
                  have hfz55_5 := blk_frozen BK117.out 5
                  try go_wp2_with (first | ((with_reducible refine gate_dst (N := 7) rfl ?_); (try (refine gate_guard (by rfl) ?_; dsimp only)); refine box_event ?hg (N := 7) ?hd (cs := #[.int .i64 0, .int .i64 0, .string (⟨#[]⟩ : ByteArray)]) (t := 104) ?hr ?_; (case hd => rfl); (case hg => rfl); (case hr => first | (go_simp; done) | (go_simp; rfl)); intro gb118 hg w56 hbox hb; have n0_ := Aside0.mk (blk_below (g := gb114) (o := .cells #[.string a0_0, .int .i64 a0_1, .slice (some ad116) l0_2.length c0_2] 34 (0, 0)) (by (with_reducible repeat (first | refine blk_drewN ?_ _ | refine blk_drew ?_ | refine blk_alloc ?_ _)); exact BK114.out) hb); have n1_ := Aside0.mk (blk_below (g := gb115) (o := .cells #[.int .i64 a1_0, .string a1_1, .slice A1_2 l1_2.length c1_2] 38 (0, 0)) (by (with_reducible repeat (first | refine blk_drewN ?_ _ | refine blk_drew ?_ | refine blk_alloc ?_ _)); exact BK115.out) hb); have n2_ := Aside0.mk (blk_below (g := gb117) (o := .cells #[.int .i64 ((rd_T106 l0_2 x24_2).f0), .int .i64 ((rd_T106 l0_2 x24_2).f1), .int .i64 ((rd_T106 l0_2 x24_2).f2), .int .i64 ((rd_T106 l0_2 x24_2).f3.f0), .int .i64 ((rd_T106 l0_2 x24_2).f3.f1), .string ((rd_T106 l0_2 x24_2).f3.f2)] 106 (0, 0)) (by (with_reducible repeat (first | refine blk_drewN ?_ _ | refine blk_drew ?_ | refine blk_alloc ?_ _)); exact BK117.out) hb); have n3_ := Aside0.mk (below_step (by repeat (first | (with_reducible first | exact HB.out | apply below_alloc | apply pw_below_drewN | apply below_drew1 | refine below_set ?_ GE114.out | refine below_set ?_ GE115.out | refine below_set ?_ GE117.out) | exact HB.out)) hb); have n4_ := Aside0.mk (hbox); have n5_ := Aside0.mk ((by rw [hg]; exact (below_size (by repeat (first | (with_reducible first | exact HB.out | apply below_alloc | apply pw_below_drewN | apply below_drew1 | refine below_set ?_ GE114.out | refine below_set ?_ GE115.out | refine below_set ?_ GE117.out) | exact HB.out))) : w.heap.size ≤ gb118)); have n6_ := Aside0.mk ((by rw [hg]; exact (below_size (by repeat (first | (with_reducible first | exact HB.out | apply below_alloc | apply pw_below_drewN | apply below_drew1 | refine below_set ?_ GE114.out | refine below_set ?_ GE115.out | refine below_set ?_ GE117.out) | exact HB.out))) : w.heap.size ≤ gb118)); have n7_ := Aside0.mk ((by rw [hg]; exact Nat.ne_of_lt (blk_lt (g := gb114) (o := .cells #[.string a0_0, .int .i64 a0_1, .slice (some ad116) l0_2.length c0_2] 34 (0, 0)) (by (with_reducible repeat (first | refine blk_drewN ?_ _ | refine blk_drew ?_ | refine blk_alloc ?_ _)); exact BK114.out)) : gb114 ≠ gb118)); have n8_ := Aside0.mk ((by rw [hg]; exact Nat.ne_of_gt (blk_lt (g := gb114) (o := .cells #[.string a0_0, .int .i64 a0_1, .slice (some ad116) l0_2.length c0_2] 34 (0, 0)) (by (with_reducible repeat (first | refine blk_drewN ?_ _ | refine blk_drew ?_ | refine blk_alloc ?_ _)); exact BK114.out)) : gb118 ≠ gb114)); have n9_ := Aside0.mk ((by rw [hg]; exact Nat.ne_of_lt (blk_lt (g := gb115) (o := .cells #[.int .i64 a1_0, .string a1_1, .slice A1_2 l1_2.length c1_2] 38 (0, 0)) (by (with_reducible repeat (first | refine blk_drewN ?_ _ | refine blk_drew ?_ | refine blk_alloc ?_ _)); exact BK115.out)) : gb115 ≠ gb118)); have n10_ := Aside0.mk ((by rw [hg]; exact Nat.ne_of_gt (blk_lt (g := gb115) (o := .cells #[.int .i64 a1_0, .string a1_1, .slice A1_2 l1_2.length c1_2] 38 (0, 0)) (by (with_reducible repeat (first | refine blk_drewN ?_ _ | refine blk_drew ?_ | refine blk_alloc ?_ _)); exact BK115.out)) : gb118 ≠ gb115)); have n11_ := Aside0.mk ((by rw [hg]; exact Nat.ne_of_lt (blk_lt (g := gb117) (o := .cells #[.int .i64 ((rd_T106 l0_2 x24_2).f0), .int .i64 ((rd_T106 l0_2 x24_2).f1), .int .i64 ((rd_T106 l0_2 x24_2).f2), .int .i64 ((rd_T106 l0_2 x24_2).f3.f0), .int .i64 ((rd_T106 l0_2 x24_2).f3.f1), .string ((rd_T106 l0_2 x24_2).f3.f2)] 106 (0, 0)) (by (with_reducible repeat (first | refine blk_drewN ?_ _ | refine blk_drew ?_ | refine blk_alloc ?_ _)); exact BK117.out)) : gb117 ≠ gb118)); have n12_ := Aside0.mk ((by rw [hg]; exact Nat.ne_of_gt (blk_lt (g := gb117) (o := .cells #[.int .i64 ((rd_T106 l0_2 x24_2).f0), .int .i64 ((rd_T106 l0_2 x24_2).f1), .int .i64 ((rd_T106 l0_2 x24_2).f2), .int .i64 ((rd_T106 l0_2 x24_2).f3.f0), .int .i64 ((rd_T106 l0_2 x24_2).f3.f1), .string ((rd_T106 l0_2 x24_2).f3.f2)] 106 (0, 0)) (by (with_reducible repeat (first | refine blk_drewN ?_ _ | refine blk_drew ?_ | refine blk_alloc ?_ _)); exact BK117.out)) : gb118 ≠ gb117)); clear BK114; clear BK115; clear BK117; clear HB; have BK114 := n0_; have BK115 := n1_; have BK117 := n2_; have HB := n3_; have BK118 := n4_; have GW118 := n5_; have GE118 := n6_; have NB114_118 := n7_; have NB118_114 := n8_; have NB115_118 := n9_; have NB118_115 := n10_; have NB117_118 := n11_; have NB118_117 := n12_; clear n0_ n1_ n2_ n3_ n4_ n5_ n6_ n7_ n8_ n9_ n10_ n11_ n12_; clear hb hbox hg; have hnb57 := NB118_114.out; have hnc57 := NB114_118.out; have hnb58 := NB118_115.out; have hnc58 := NB115_118.out; have hnb59 := NB118_117.out; have hnc59 := NB117_118.out; have hcz60_0 : w56.cell? ⟨gb118, 0, none⟩ = some (.int .i64 0) := (blk_cell BK118.out 0).trans rfl; have hcz60_1 : w56.cell? ⟨gb118, 1, none⟩ = some (.int .i64 0) := (blk_cell BK118.out 1).trans rfl; have hcz60_2 : w56.cell? ⟨gb118, 2, none⟩ = some (.string (⟨#[]⟩ : ByteArray)) := (blk_cell BK118.out 2).trans rfl; have hfz60_0 := blk_frozen BK118.out 0; have hfz60_1 := blk_frozen BK118.out 1; have hfz60_2 := blk_frozen BK118.out 2; have hcz61_0 : w56.cell? ⟨gb117, 0, none⟩ = some (.int .i64 ((rd_T106 l0_2 x24_2).f0)) := (blk_cell BK117.out 0).trans rfl; have hcz61_1 : w56.cell? ⟨gb117, 1, none⟩ = some (.int .i64 ((rd_T106 l0_2 x24_2).f1)) := (blk_cell BK117.out 1).trans rfl; have hcz61_2 : w56.cell? ⟨gb117, 2, none⟩ = some (.int .i64 ((rd_T106 l0_2 x24_2).f2)) := (blk_cell BK117.out 2).trans rfl; have hcz61_3 : w56.cell? ⟨gb117, 3, none⟩ = some (.int .i64 ((rd_T106 l0_2 x24_2).f3.f0)) := (blk_cell BK117.out 3).trans rfl; have hcz61_4 : w56.cell? ⟨gb117, 4, none⟩ = some (.int .i64 ((rd_T106 l0_2 x24_2).f3.f1)) := (blk_cell BK117.out 4).trans rfl; have hcz61_5 : w56.cell? ⟨gb117, 5, none⟩ = some (.string ((rd_T106 l0_2 x24_2).f3.f2)) := (blk_cell BK117.out 5).trans rfl; have hfz61_0 := blk_frozen BK117.out 0; have hfz61_1 := blk_frozen BK117.out 1; have hfz61_2 := blk_frozen BK117.out 2; have hfz61_3 := blk_frozen BK117.out 3; have hfz61_4 := blk_frozen BK117.out 4; have hfz61_5 := blk_frozen BK117.out 5; have hnb62 := NB115_114.out; have hnc62 := NB114_115.out; have hcz63_0 : w56.cell? ⟨gb115, 0, none⟩ = some (.int .i64 a1_0) := (blk_cell BK115.out 0).trans rfl; have hcz63_1 : w56.cell? ⟨gb115, 1, none⟩ = some (.string a1_1) := (blk_cell BK115.out 1).trans rfl; have hcz63_2 : w56.cell? ⟨gb115, 2, none⟩ = some (.slice A1_2 l1_2.length c1_2) := (blk_cell BK115.out 2).trans rfl; have hfz63_0 := blk_frozen BK115.out 0; have hfz63_1 := blk_frozen BK115.out 1; have hfz63_2 := blk_frozen BK115.out 2; have p119 : 0 ≤ (((rd_T106 l0_2 x24_2).f2) : Int) := of_decide_eq_true (by first | (with_reducible assumption) | assumption); have q119 : ((rd_T106 l0_2 x24_2).f2) < (l1_2.length : Int) := of_decide_eq_true (by first | (with_reducible assumption) | assumption); obtain ⟨ad119, e119, hx119_0, hx119_1, hx119_2⟩ := at_T104 HR1_2.out ((rd_T106 l0_2 x24_2).f2) p119 q119; cases e119; have hn119_0 : ad119.block ≠ gb118 := Nat.ne_of_lt (Nat.lt_of_lt_of_le (by have := World.block_lt_of_cell? _ _ hx119_0; first | rwa [add_block] at this | exact this) GW118.out); have hn119_1 : ad119.block ≠ gb118 := Nat.ne_of_lt (Nat.lt_of_lt_of_le (by have := World.block_lt_of_cell? _ _ hx119_0; first | rwa [add_block] at this | exact this) GW118.out); have hn119_2 : ad119.block ≠ gb118 := Nat.ne_of_lt (Nat.lt_of_lt_of_le (by have := World.block_lt_of_cell? _ _ hx119_0; first | rwa [add_block] at this | exact this) GW118.out); replace hx119_0 := (HB.out.cell (World.block_lt_of_cell? w _ hx119_0)).trans hx119_0; replace hx119_1 := (HB.out.cell (World.block_lt_of_cell? w _ hx119_1)).trans hx119_1; replace hx119_2 := (HB.out.cell (World.block_lt_of_cell? w _ hx119_2)).trans hx119_2; replace hx119_0 := (cell_far (p := ⟨gb118, 0, none⟩) (by first | (rw [add_block]; exact hn119_0) | (show (Addr.add _ _).block ≠ _; rw [add_block]; exact hn119_0) | exact hn119_0) (.int .i64 ((rd_T106 l0_2 x24_2).f3.f0))).trans hx119_0; replace hx119_1 := (cell_far (p := ⟨gb118, 0, none⟩) (by first | (rw [add_block]; exact hn119_0) | (show (Addr.add _ _).block ≠ _; rw [add_block]; exact hn119_0) | exact hn119_0) (.int .i64 ((rd_T106 l0_2 x24_2).f3.f0))).trans hx119_1; replace hx119_2 := (cell_far (p := ⟨gb118, 0, none⟩) (by first | (rw [add_block]; exact hn119_0) | (show (Addr.add _ _).block ≠ _; rw [add_block]; exact hn119_0) | exact hn119_0) (.int .i64 ((rd_T106 l0_2 x24_2).f3.f0))).trans hx119_2; replace hx119_0 := (cell_far (p := ⟨gb118, 1, none⟩) (by first | (rw [add_block]; exact hn119_1) | (show (Addr.add _ _).block ≠ _; rw [add_block]; exact hn119_1) | exact hn119_1) (.int .i64 ((rd_T106 l0_2 x24_2).f3.f1))).trans hx119_0; replace hx119_1 := (cell_far (p := ⟨gb118, 1, none⟩) (by first | (rw [add_block]; exact hn119_1) | (show (Addr.add _ _).block ≠ _; rw [add_block]; exact hn119_1) | exact hn119_1) (.int .i64 ((rd_T106 l0_2 x24_2).f3.f1))).trans hx119_1; replace hx119_2 := (cell_far (p := ⟨gb118, 1, none⟩) (by first | (rw [add_block]; exact hn119_1) | (show (Addr.add _ _).block ≠ _; rw [add_block]; exact hn119_1) | exact hn119_1) (.int .i64 ((rd_T106 l0_2 x24_2).f3.f1))).trans hx119_2; replace hx119_0 := (cell_far (p := ⟨gb118, 2, none⟩) (by first | (rw [add_block]; exact hn119_2) | (show (Addr.add _ _).block ≠ _; rw [add_block]; exact hn119_2) | exact hn119_2) (.string ((rd_T106 l0_2 x24_2).f3.f2))).trans hx119_0; replace hx119_1 := (cell_far (p := ⟨gb118, 2, none⟩) (by first | (rw [add_block]; exact hn119_2) | (show (Addr.add _ _).block ≠ _; rw [add_block]; exact hn119_2) | exact hn119_2) (.string ((rd_T106 l0_2 x24_2).f3.f2))).trans hx119_1; replace hx119_2 := (cell_far (p := ⟨gb118, 2, none⟩) (by first | (rw [add_block]; exact hn119_2) | (show (Addr.add _ _).block ≠ _; rw [add_block]; exact hn119_2) | exact hn119_2) (.string ((rd_T106 l0_2 x24_2).f3.f2))).trans hx119_2; clear hn119_0; clear hn119_1; clear hn119_2; replace p119 := eq_true p119; replace q119 := eq_true q119))
                  have n0_ : Aside0 (((((((w56.setCell ⟨gb118, 0, none⟩ (.int .i64 ((rd_T106 l0_2 x24_2).f3.f0))).setCell ⟨gb118, 1, none⟩ (.int .i64 ((rd_T106 l0_2 x24_2).f3.f1))).setCell ⟨gb118, 2, none⟩ (.string ((rd_T106 l0_2 x24_2).f3.f2))).setCell ⟨gb118, 0, none⟩ (.int .i64 ((rd_T104 l1_2 ((rd_T106 l0_2 x24_2).f2)).f0))).setCell ⟨gb118, 1, none⟩ (.int .i64 ((rd_T104 l1_2 ((rd_T106 l0_2 x24_2).f2)).f1))).setCell ⟨gb118, 2, none⟩ (.string ((rd_T104 l1_2 ((rd_T106 l0_2 x24_2).f2)).f2))).heap[gb114]? = some (.cells #[.string a0_0, .int .i64 a0_1, .slice (some ad116) l0_2.length c0_2] 34 (0, 0))) := ⟨by (with_reducible repeat (first | refine blk_drewN ?_ _ | refine blk_drew ?_ | refine blk_alloc ?_ _)); refine blk_far ?_ NB114_118.out _; (with_reducible repeat (first | refine blk_drewN ?_ _ | refine blk_drew ?_ | refine blk_alloc ?_ _)); refine blk_far ?_ NB114_118.out _; (with_reducible repeat (first | refine blk_drewN ?_ _ | refine blk_drew ?_ | refine blk_alloc ?_ _)); refine blk_far ?_ NB114_118.out _; (with_reducible repeat (first | refine blk_drewN ?_ _ | refine blk_drew ?_ | refine blk_alloc ?_ _)); refine blk_far ?_ NB114_118.out _; (with_reducible repeat (first | refine blk_drewN ?_ _ | refine blk_drew ?_ | refine blk_alloc ?_ _)); refine blk_far ?_ NB114_118.out _; (with_reducible repeat (first | refine blk_drewN ?_ _ | refine blk_drew ?_ | refine blk_alloc ?_ _)); refine blk_far ?_ NB114_118.out _; (with_reducible repeat (first | refine blk_drewN ?_ _ | refine blk_drew ?_ | refine blk_alloc ?_ _)); exact BK114.out⟩
                  have n1_ : Aside0 (((((((w56.setCell ⟨gb118, 0, none⟩ (.int .i64 ((rd_T106 l0_2 x24_2).f3.f0))).setCell ⟨gb118, 1, none⟩ (.int .i64 ((rd_T106 l0_2 x24_2).f3.f1))).setCell ⟨gb118, 2, none⟩ (.string ((rd_T106 l0_2 x24_2).f3.f2))).setCell ⟨gb118, 0, none⟩ (.int .i64 ((rd_T104 l1_2 ((rd_T106 l0_2 x24_2).f2)).f0))).setCell ⟨gb118, 1, none⟩ (.int .i64 ((rd_T104 l1_2 ((rd_T106 l0_2 x24_2).f2)).f1))).setCell ⟨gb118, 2, none⟩ (.string ((rd_T104 l1_2 ((rd_T106 l0_2 x24_2).f2)).f2))).heap[gb115]? = some (.cells #[.int .i64 a1_0, .string a1_1, .slice (some ad119) l1_2.length c1_2] 38 (0, 0))) := ⟨by (with_reducible repeat (first | refine blk_drewN ?_ _ | refine blk_drew ?_ | refine blk_alloc ?_ _)); refine blk_far ?_ NB115_118.out _; (with_reducible repeat (first | refine blk_drewN ?_ _ | refine blk_drew ?_ | refine blk_alloc ?_ _)); refine blk_far ?_ NB115_118.out _; (with_reducible repeat (first | refine blk_drewN ?_ _ | refine blk_drew ?_ | refine blk_alloc ?_ _)); refine blk_far ?_ NB115_118.out _; (with_reducible repeat (first | refine blk_drewN ?_ _ | refine blk_drew ?_ | refine blk_alloc ?_ _)); refine blk_far ?_ NB115_118.out _; (with_reducible repeat (first | refine blk_drewN ?_ _ | refine blk_drew ?_ | refine blk_alloc ?_ _)); refine blk_far ?_ NB115_118.out _; (with_reducible repeat (first | refine blk_drewN ?_ _ | refine blk_drew ?_ | refine blk_alloc ?_ _)); refine blk_far ?_ NB115_118.out _; (with_reducible repeat (first | refine blk_drewN ?_ _ | refine blk_drew ?_ | refine blk_alloc ?_ _)); exact BK115.out⟩
                  have n2_ : Aside0 (((((((w56.setCell ⟨gb118, 0, none⟩ (.int .i64 ((rd_T106 l0_2 x24_2).f3.f0))).setCell ⟨gb118, 1, none⟩ (.int .i64 ((rd_T106 l0_2 x24_2).f3.f1))).setCell ⟨gb118, 2, none⟩ (.string ((rd_T106 l0_2 x24_2).f3.f2))).setCell ⟨gb118, 0, none⟩ (.int .i64 ((rd_T104 l1_2 ((rd_T106 l0_2 x24_2).f2)).f0))).setCell ⟨gb118, 1, none⟩ (.int .i64 ((rd_T104 l1_2 ((rd_T106 l0_2 x24_2).f2)).f1))).setCell ⟨gb118, 2, none⟩ (.string ((rd_T104 l1_2 ((rd_T106 l0_2 x24_2).f2)).f2))).heap[gb117]? = some (.cells #[.int .i64 ((rd_T106 l0_2 x24_2).f0), .int .i64 ((rd_T106 l0_2 x24_2).f1), .int .i64 ((rd_T106 l0_2 x24_2).f2), .int .i64 ((rd_T106 l0_2 x24_2).f3.f0), .int .i64 ((rd_T106 l0_2 x24_2).f3.f1), .string ((rd_T106 l0_2 x24_2).f3.f2)] 106 (0, 0))) := ⟨by (with_reducible repeat (first | refine blk_drewN ?_ _ | refine blk_drew ?_ | refine blk_alloc ?_ _)); refine blk_far ?_ NB117_118.out _; (with_reducible repeat (first | refine blk_drewN ?_ _ | refine blk_drew ?_ | refine blk_alloc ?_ _)); refine blk_far ?_ NB117_118.out _; (with_reducible repeat (first | refine blk_drewN ?_ _ | refine blk_drew ?_ | refine blk_alloc ?_ _)); refine blk_far ?_ NB117_118.out _; (with_reducible repeat (first | refine blk_drewN ?_ _ | refine blk_drew ?_ | refine blk_alloc ?_ _)); refine blk_far ?_ NB117_118.out _; (with_reducible repeat (first | refine blk_drewN ?_ _ | refine blk_drew ?_ | refine blk_alloc ?_ _)); refine blk_far ?_ NB117_118.out _; (with_reducible repeat (first | refine blk_drewN ?_ _ | refine blk_drew ?_ | refine blk_alloc ?_ _)); refine blk_far ?_ NB117_118.out _; (with_reducible repeat (first | refine blk_drewN ?_ _ | refine blk_drew ?_ | refine blk_alloc ?_ _)); exact BK117.out⟩
                  have n3_ : Aside0 (((((((w56.setCell ⟨gb118, 0, none⟩ (.int .i64 ((rd_T106 l0_2 x24_2).f3.f0))).setCell ⟨gb118, 1, none⟩ (.int .i64 ((rd_T106 l0_2 x24_2).f3.f1))).setCell ⟨gb118, 2, none⟩ (.string ((rd_T106 l0_2 x24_2).f3.f2))).setCell ⟨gb118, 0, none⟩ (.int .i64 ((rd_T104 l1_2 ((rd_T106 l0_2 x24_2).f2)).f0))).setCell ⟨gb118, 1, none⟩ (.int .i64 ((rd_T104 l1_2 ((rd_T106 l0_2 x24_2).f2)).f1))).setCell ⟨gb118, 2, none⟩ (.string ((rd_T104 l1_2 ((rd_T106 l0_2 x24_2).f2)).f2))).heap[gb118]? = some (.cells #[.int .i64 ((rd_T104 l1_2 ((rd_T106 l0_2 x24_2).f2)).f0), .int .i64 ((rd_T104 l1_2 ((rd_T106 l0_2 x24_2).f2)).f1), .string ((rd_T104 l1_2 ((rd_T106 l0_2 x24_2).f2)).f2)] 104 (0, 0))) := ⟨by (with_reducible repeat (first | refine blk_drewN ?_ _ | refine blk_drew ?_ | refine blk_alloc ?_ _)); refine blk_put (cs := #[.int .i64 ((rd_T104 l1_2 ((rd_T106 l0_2 x24_2).f2)).f0), .int .i64 ((rd_T104 l1_2 ((rd_T106 l0_2 x24_2).f2)).f1), .string ((rd_T106 l0_2 x24_2).f3.f2)]) ?_ 2 _ rfl; (with_reducible repeat (first | refine blk_drewN ?_ _ | refine blk_drew ?_ | refine blk_alloc ?_ _)); refine blk_put (cs := #[.int .i64 ((rd_T104 l1_2 ((rd_T106 l0_2 x24_2).f2)).f0), .int .i64 ((rd_T106 l0_2 x24_2).f3.f1), .string ((rd_T106 l0_2 x24_2).f3.f2)]) ?_ 1 _ rfl; (with_reducible repeat (first | refine blk_drewN ?_ _ | refine blk_drew ?_ | refine blk_alloc ?_ _)); refine blk_put (cs := #[.int .i64 ((rd_T106 l0_2 x24_2).f3.f0), .int .i64 ((rd_T106 l0_2 x24_2).f3.f1), .string ((rd_T106 l0_2 x24_2).f3.f2)]) ?_ 0 _ rfl; (with_reducible repeat (first | refine blk_drewN ?_ _ | refine blk_drew ?_ | refine blk_alloc ?_ _)); refine blk_put (cs := #[.int .i64 ((rd_T106 l0_2 x24_2).f3.f0), .int .i64 ((rd_T106 l0_2 x24_2).f3.f1), .string (⟨#[]⟩ : ByteArray)]) ?_ 2 _ rfl; (with_reducible repeat (first | refine blk_drewN ?_ _ | refine blk_drew ?_ | refine blk_alloc ?_ _)); refine blk_put (cs := #[.int .i64 ((rd_T106 l0_2 x24_2).f3.f0), .int .i64 0, .string (⟨#[]⟩ : ByteArray)]) ?_ 1 _ rfl; (with_reducible repeat (first | refine blk_drewN ?_ _ | refine blk_drew ?_ | refine blk_alloc ?_ _)); refine blk_put (cs := #[.int .i64 0, .int .i64 0, .string (⟨#[]⟩ : ByteArray)]) ?_ 0 _ rfl; (with_reducible repeat (first | refine blk_drewN ?_ _ | refine blk_drew ?_ | refine blk_alloc ?_ _)); exact BK118.out⟩
                  have n4_ : Aside0 (Below w.heap.size w ((((((w56.setCell ⟨gb118, 0, none⟩ (.int .i64 ((rd_T106 l0_2 x24_2).f3.f0))).setCell ⟨gb118, 1, none⟩ (.int .i64 ((rd_T106 l0_2 x24_2).f3.f1))).setCell ⟨gb118, 2, none⟩ (.string ((rd_T106 l0_2 x24_2).f3.f2))).setCell ⟨gb118, 0, none⟩ (.int .i64 ((rd_T104 l1_2 ((rd_T106 l0_2 x24_2).f2)).f0))).setCell ⟨gb118, 1, none⟩ (.int .i64 ((rd_T104 l1_2 ((rd_T106 l0_2 x24_2).f2)).f1))).setCell ⟨gb118, 2, none⟩ (.string ((rd_T104 l1_2 ((rd_T106 l0_2 x24_2).f2)).f2)))) := ⟨by repeat (first | (with_reducible first | exact HB.out | apply below_alloc | apply pw_below_drewN | apply below_drew1 | refine below_set ?_ GE114.out | refine below_set ?_ GE115.out | refine below_set ?_ GE117.out | refine below_set ?_ GE118.out) | exact HB.out)⟩
                  (try clear BK114)
                  (try clear BK115)
                  (try clear BK117)
                  (try clear BK118)
                  (try clear HB)
                  generalize ((((((w56.setCell ⟨gb118, 0, none⟩ (.int .i64 ((rd_T106 l0_2 x24_2).f3.f0))).setCell ⟨gb118, 1, none⟩ (.int .i64 ((rd_T106 l0_2 x24_2).f3.f1))).setCell ⟨gb118, 2, none⟩ (.string ((rd_T106 l0_2 x24_2).f3.f2))).setCell ⟨gb118, 0, none⟩ (.int .i64 ((rd_T104 l1_2 ((rd_T106 l0_2 x24_2).f2)).f0))).setCell ⟨gb118, 1, none⟩ (.int .i64 ((rd_T104 l1_2 ((rd_T106 l0_2 x24_2).f2)).f1))).setCell ⟨gb118, 2, none⟩ (.string ((rd_T104 l1_2 ((rd_T106 l0_2 x24_2).f2)).f2))) = w64 at n0_ n1_ n2_ n3_ n4_ ⊢
                  have BK114 := n0_
                  have BK115 := n1_
                  have BK117 := n2_
                  have BK118 := n3_
                  have HB := n4_
                  clear n0_ n1_ n2_ n3_ n4_
                  have n0_ := Aside0.mk (blk_drew BK114.out)
                  have n1_ := Aside0.mk (blk_drew BK115.out)
                  have n2_ := Aside0.mk (blk_drew BK117.out)
                  have n3_ := Aside0.mk (blk_drew BK118.out)
                  have n4_ := Aside0.mk (below_drew1 HB.out)
                  clear BK114
                  clear BK115
                  clear BK117
                  clear BK118
                  clear HB
                  have BK114 := n0_
                  have BK115 := n1_
                  have BK117 := n2_
                  have BK118 := n3_
                  have HB := n4_
                  clear n0_ n1_ n2_ n3_ n4_
                  have p120 : 0 ≤ (((rd_T106 l0_2 x24_2).f0) : Int) := of_decide_eq_true (by first | (with_reducible assumption) | assumption)
                  have q120 : ((rd_T106 l0_2 x24_2).f0) < (l1_2.length : Int) := of_decide_eq_true (by first | (with_reducible assumption) | assumption)
                  obtain ⟨ad120, e120, hx120_0, hx120_1, hx120_2⟩ := at_T104 HR1_2.out ((rd_T106 l0_2 x24_2).f0) p120 q120
                  have hw120_2 := hx120_2
                  have hw120_1 := hx120_1
                  have hw120_0 := hx120_0
                  obtain rfl : ad119 = ad120 := (by injection e120)
                  replace hx120_0 := (HB.out.cell (World.block_lt_of_cell? w _ hx120_0)).trans hx120_0
                  replace hx120_1 := (HB.out.cell (World.block_lt_of_cell? w _ hx120_1)).trans hx120_1
                  replace hx120_2 := (HB.out.cell (World.block_lt_of_cell? w _ hx120_2)).trans hx120_2
                  replace p120 := eq_true p120
                  replace q120 := eq_true q120
                  refine start_ (n := 11) (S := fun w' => w'.cell? ⟨gb117, 0, none⟩ = some (.int .i64 ((rd_T106 l0_2 x24_2).f0)) ∧ w'.cell? ⟨gb117, 1, none⟩ = some (.int .i64 ((rd_T106 l0_2 x24_2).f1)) ∧ w'.cell? ⟨gb117, 2, none⟩ = some (.int .i64 ((rd_T106 l0_2 x24_2).f2)) ∧ w'.cell? ⟨gb117, 3, none⟩ = some (.int .i64 ((rd_T106 l0_2 x24_2).f3.f0)) ∧ w'.cell? ⟨gb117, 4, none⟩ = some (.int .i64 ((rd_T106 l0_2 x24_2).f3.f1)) ∧ w'.cell? ⟨gb117, 5, none⟩ = some (.string ((rd_T106 l0_2 x24_2).f3.f2)) ∧ w'.cell? ⟨gb115, 0, none⟩ = some (.int .i64 a1_0) ∧ w'.cell? ⟨gb115, 1, none⟩ = some (.string a1_1) ∧ w'.cell? ⟨gb115, 2, none⟩ = some (.slice (some ad119) l1_2.length c1_2) ∧ w'.cell? ⟨gb118, 0, none⟩ = some (.int .i64 ((rd_T104 l1_2 ((rd_T106 l0_2 x24_2).f2)).f0)) ∧ w'.cell? ⟨gb118, 1, none⟩ = some (.int .i64 ((rd_T104 l1_2 ((rd_T106 l0_2 x24_2).f2)).f1)) ∧ w'.cell? ⟨gb118, 2, none⟩ = some (.string ((rd_T104 l1_2 ((rd_T106 l0_2 x24_2).f2)).f2)) ∧ w'.cell? (ad119.add ((((rd_T106 l0_2 x24_2).f0)).toNat * 3)) = some (.int .i64 ((rd_T104 l1_2 ((rd_T106 l0_2 x24_2).f0)).f0)) ∧ w'.cell? ⟨(ad119.add ((((rd_T106 l0_2 x24_2).f0)).toNat * 3)).block, (ad119.add ((((rd_T106 l0_2 x24_2).f0)).toNat * 3)).off + 1, none⟩ = some (.int .i64 ((rd_T104 l1_2 ((rd_T106 l0_2 x24_2).f0)).f1)) ∧ w'.cell? ⟨(ad119.add ((((rd_T106 l0_2 x24_2).f0)).toNat * 3)).block, (ad119.add ((((rd_T106 l0_2 x24_2).f0)).toNat * 3)).off + 2, none⟩ = some (.string ((rd_T104 l1_2 ((rd_T106 l0_2 x24_2).f0)).f2))) (ds := []) #[false, false, false, false, false, false, false, false, false, false, false] (by kernel_rfl) rfl rfl ⟨(blk_cell BK117.out 0).trans rfl, (blk_cell BK117.out 1).trans rfl, (blk_cell BK117.out 2).trans rfl, (blk_cell BK117.out 3).trans rfl, (blk_cell BK117.out 4).trans rfl, (blk_cell BK117.out 5).trans rfl, (blk_cell BK115.out 0).trans rfl, (blk_cell BK115.out 1).trans rfl, (blk_cell BK115.out 2).trans rfl, (blk_cell BK118.out 0).trans rfl, (blk_cell BK118.out 1).trans rfl, (blk_cell BK118.out 2).trans rfl, ((HB.out.cell (World.block_lt_of_cell? w _ hw120_0)).trans hw120_0), ((HB.out.cell (World.block_lt_of_cell? w _ hw120_1)).trans hw120_1), ((HB.out.cell (World.block_lt_of_cell? w _ hw120_2)).trans hw120_2)⟩ (fun hHeld => ?_); refine with_tabW spec_AlphaPass.tab11 spec_AlphaPass.bits11 (fun HT_ HW_ => ?_)
                  generalize w64.drew = w65 at BK114 BK115 BK117 BK118 HB hx120_0 hx120_1 hx120_2 hHeld ⊢
                  refine pure_ (i := 0) (N := some 63) (v := ?_) (a' := ?_) #[true, false, false, false, false, false, false, false, false, false, false] rfl rfl (any_of HT_.out (by kernel_rfl)) (fun _ _ _ h => h) (Or.inl ⟨by rfl, ?_⟩) ?_ ?_
                  rotate_left
                  ·intro w'
                   go_simp
                   with_reducible rfl
                  rotate_left
                  ·simp only [Act.put, List.setIfInBounds_toArray, List.set_cons_zero, List.set_cons_succ, i64_w, i32_w]
                   rfl
                  refine pure_ (i := 2) (N := some 65) (v := ?_) (a' := ?_) #[true, false, true, false, false, false, false, false, false, false, false] rfl rfl (any_of HT_.out (by kernel_rfl)) (fun _ _ _ h => h) (Or.inl ⟨by rfl, ?_⟩) ?_ ?_
                  rotate_left
                  ·intro w'
                   go_simp
                   with_reducible rfl
                  rotate_left
                  ·simp only [Act.put, List.setIfInBounds_toArray, List.set_cons_zero, List.set_cons_succ, i64_w, i32_w]
                   rfl
                  refine pure_ (i := 4) (N := some 67) (v := ?_) (a' := ?_) #[true, false, true, false, true, false, false, false, false, false, false] rfl rfl (any_of HT_.out (by kernel_rfl)) (fun _ _ _ h => h) (Or.inl ⟨by rfl, ?_⟩) ?_ ?_
                  rotate_left
                  ·intro w'
                   go_simp
                   with_reducible rfl
                  rotate_left
                  ·simp only [Act.put, List.setIfInBounds_toArray, List.set_cons_zero, List.set_cons_succ, i64_w, i32_w]
                   rfl
                  refine take_ (i := 1) (N := some 64) (v := ?_) (a' := ?_) #[true, true, true, false, true, false, false, false, false, false, false] rfl rfl (take_ofW HT_.out HW_.out (by kernel_rfl)) (fun _ _ _ h => h) (Or.inl ⟨by rfl, ?_⟩) hHeld ?_ ?_
                  rotate_left
                  ·rintro w' ⟨s0, s1, s2, s3, s4, s5, s6, s7, s8, s9, s10, s11, s12, s13, s14⟩
                   go_simp
                   with_reducible rfl
                  rotate_left
                  ·simp only [Act.put, List.setIfInBounds_toArray, List.set_cons_zero, List.set_cons_succ, i64_w, i32_w]
                   rfl
                  refine take_ (i := 3) (N := some 66) (v := ?_) (a' := ?_) #[true, true, true, true, true, false, false, false, false, false, false] rfl rfl (take_ofW HT_.out HW_.out (by kernel_rfl)) (fun _ _ _ h => h) (Or.inl ⟨by rfl, ?_⟩) hHeld ?_ ?_
                  rotate_left
                  ·rintro w' ⟨s0, s1, s2, s3, s4, s5, s6, s7, s8, s9, s10, s11, s12, s13, s14⟩
                   go_simp
                   with_reducible rfl
                  rotate_left
                  ·simp only [Act.put, List.setIfInBounds_toArray, List.set_cons_zero, List.set_cons_succ, i64_w, i32_w]
                   rfl
                  refine take_ (i := 5) (N := some 68) (v := ?_) (a' := ?_) #[true, true, true, true, true, true, false, false, false, false, false] rfl rfl (take_ofW HT_.out HW_.out (by kernel_rfl)) (fun _ _ _ h => h) (Or.inl ⟨by rfl, ?_⟩) hHeld ?_ ?_
                  rotate_left
                  ·rintro w' ⟨s0, s1, s2, s3, s4, s5, s6, s7, s8, s9, s10, s11, s12, s13, s14⟩
                   go_simp
                   with_reducible rfl
                  rotate_left
                  ·simp only [Act.put, List.setIfInBounds_toArray, List.set_cons_zero, List.set_cons_succ, i64_w, i32_w]
                   rfl
                  refine pure_ (i := 6) (N := some 69) (v := ?_) (a' := ?_) #[true, true, true, true, true, true, true, false, false, false, false] rfl rfl (any_of HT_.out (by kernel_rfl)) (fun _ _ _ h => h) (Or.inl ⟨by rfl, ?_⟩) ?_ ?_
                  rotate_left
                  ·intro w'
                   go_simp
                   with_reducible rfl
                  rotate_left
                  ·simp only [Act.put, List.setIfInBounds_toArray, List.set_cons_zero, List.set_cons_succ, i64_w, i32_w]
                   rfl
                  refine take_ (i := 7) (N := some 70) (v := ?_) (a' := ?_) #[true, true, true, true, true, true, true, true, false, false, false] rfl rfl (take_ofW HT_.out HW_.out (by kernel_rfl)) (fun _ _ _ h => h) (Or.inl ⟨by rfl, ?_⟩) hHeld ?_ ?_
                  rotate_left
                  ·rintro w' ⟨s0, s1, s2, s3, s4, s5, s6, s7, s8, s9, s10, s11, s12, s13, s14⟩
                   go_simp
                   with_reducible rfl
                  rotate_left
                  ·simp only [Act.put, List.setIfInBounds_toArray, List.set_cons_zero, List.set_cons_succ, i64_w, i32_w]
                   rfl
                  refine take_ (i := 8) (N := some 71) (v := ?_) (a' := ?_) #[true, true, true, true, true, true, true, true, true, false, false] rfl rfl (take_ofW HT_.out HW_.out (by kernel_rfl)) (fun _ _ _ h => h) (Or.inl ⟨by rfl, ?_⟩) hHeld ?_ ?_
                  rotate_left
                  ·rintro w' ⟨s0, s1, s2, s3, s4, s5, s6, s7, s8, s9, s10, s11, s12, s13, s14⟩
                   go_simp
                   with_reducible rfl
                  rotate_left
                  ·simp only [Act.put, List.setIfInBounds_toArray, List.set_cons_zero, List.set_cons_succ, i64_w, i32_w]
                   rfl
                  refine one_ (i := 9) (N := some 72) #[true, true, true, true, true, true, true, true, true, true, false] rfl rfl (one_of HT_.out (by kernel_rfl)) (by decide) (fun K hK => ?_)
                  refine goes_ Try.func58 (by kernel_rfl) rfl #[.int .i64 ((rd_T106 l0_2 x24_2).f1), .agg #[.int .i64 ((rd_T104 l1_2 ((rd_T106 l0_2 x24_2).f0)).f0), .int .i64 ((rd_T104 l1_2 ((rd_T106 l0_2 x24_2).f0)).f1), .string ((rd_T104 l1_2 ((rd_T106 l0_2 x24_2).f0)).f2)], .agg #[.int .i64 ((rd_T104 l1_2 ((rd_T106 l0_2 x24_2).f2)).f0), .int .i64 ((rd_T104 l1_2 ((rd_T106 l0_2 x24_2).f2)).f1), .string ((rd_T104 l1_2 ((rd_T106 l0_2 x24_2).f2)).f2)]] (by rfl) rfl rfl (by (try simp only [List.map_toArray, List.map_cons, List.map_nil]); first | done | rfl | (simp only [List.length_drop, List.length_take]; rfl)) ?_
                  with_reducible refine (spec_l3Holds.calls kj18 ((rd_T106 l0_2 x24_2).f1) ((rd_T104 l1_2 ((rd_T106 l0_2 x24_2).f0)).f0) ((rd_T104 l1_2 ((rd_T106 l0_2 x24_2).f0)).f1) ((rd_T104 l1_2 ((rd_T106 l0_2 x24_2).f0)).f2) ((rd_T104 l1_2 ((rd_T106 l0_2 x24_2).f2)).f0) ((rd_T104 l1_2 ((rd_T106 l0_2 x24_2).f2)).f1) ((rd_T104 l1_2 ((rd_T106 l0_2 x24_2).f2)).f2) true _ A51.out).mono ?_
                  rintro e w66 ⟨rfl, hb⟩
                  refine ⟨_, rfl, ?_⟩
                  have n0_ := Aside0.mk (blk_below (g := gb114) (o := .cells #[.string a0_0, .int .i64 a0_1, .slice (some ad116) l0_2.length c0_2] 34 (0, 0)) (by (with_reducible repeat (first | refine blk_drewN ?_ _ | refine blk_drew ?_ | refine blk_alloc ?_ _)); exact BK114.out) hb)
                  have n1_ := Aside0.mk (blk_below (g := gb115) (o := .cells #[.int .i64 a1_0, .string a1_1, .slice (some ad119) l1_2.length c1_2] 38 (0, 0)) (by (with_reducible repeat (first | refine blk_drewN ?_ _ | refine blk_drew ?_ | refine blk_alloc ?_ _)); exact BK115.out) hb)
                  have n2_ := Aside0.mk (blk_below (g := gb117) (o := .cells #[.int .i64 ((rd_T106 l0_2 x24_2).f0), .int .i64 ((rd_T106 l0_2 x24_2).f1), .int .i64 ((rd_T106 l0_2 x24_2).f2), .int .i64 ((rd_T106 l0_2 x24_2).f3.f0), .int .i64 ((rd_T106 l0_2 x24_2).f3.f1), .string ((rd_T106 l0_2 x24_2).f3.f2)] 106 (0, 0)) (by (with_reducible repeat (first | refine blk_drewN ?_ _ | refine blk_drew ?_ | refine blk_alloc ?_ _)); exact BK117.out) hb)
                  have n3_ := Aside0.mk (blk_below (g := gb118) (o := .cells #[.int .i64 ((rd_T104 l1_2 ((rd_T106 l0_2 x24_2).f2)).f0), .int .i64 ((rd_T104 l1_2 ((rd_T106 l0_2 x24_2).f2)).f1), .string ((rd_T104 l1_2 ((rd_T106 l0_2 x24_2).f2)).f2)] 104 (0, 0)) (by (with_reducible repeat (first | refine blk_drewN ?_ _ | refine blk_drew ?_ | refine blk_alloc ?_ _)); exact BK118.out) hb)
                  have n4_ := Aside0.mk (below_step (by repeat (first | (with_reducible first | exact HB.out | apply below_alloc | apply pw_below_drewN | apply below_drew1 | refine below_set ?_ GE114.out | refine below_set ?_ GE115.out | refine below_set ?_ GE117.out | refine below_set ?_ GE118.out) | exact HB.out)) hb)
                  clear BK114
                  clear BK115
                  clear BK117
                  clear BK118
                  clear HB
                  have BK114 := n0_
                  have BK115 := n1_
                  have BK117 := n2_
                  have BK118 := n3_
                  have HB := n4_
                  clear n0_ n1_ n2_ n3_ n4_
                  (try clear hb)
                  (try clear hb2)
                  (try clear hk)
                  (try clear hi)
                  refine hK.out _ _ ⟨(blk_cell BK117.out 0).trans rfl, (blk_cell BK117.out 1).trans rfl, (blk_cell BK117.out 2).trans rfl, (blk_cell BK117.out 3).trans rfl, (blk_cell BK117.out 4).trans rfl, (blk_cell BK117.out 5).trans rfl, (blk_cell BK115.out 0).trans rfl, (blk_cell BK115.out 1).trans rfl, (blk_cell BK115.out 2).trans rfl, (blk_cell BK118.out 0).trans rfl, (blk_cell BK118.out 1).trans rfl, (blk_cell BK118.out 2).trans rfl, ((HB.out.cell (World.block_lt_of_cell? w _ hw120_0)).trans hw120_0), ((HB.out.cell (World.block_lt_of_cell? w _ hw120_1)).trans hw120_1), ((HB.out.cell (World.block_lt_of_cell? w _ hw120_2)).trans hw120_2)⟩ (fun hHeld => ?_)
                  clear hK K
                  refine norm_ (a' := ?_) ?_ ?_
                  rotate_left
                  ·show Act.put _ (some 72) _ = _
                   simp only [Act.put, List.setIfInBounds_toArray, List.set_cons_zero, List.set_cons_succ, i64_w, i32_w]
                   rfl
                  refine pure_ (i := 10) (N := some 73) (v := ?_) (a' := ?_) #[true, true, true, true, true, true, true, true, true, true, true] rfl rfl (any_of HT_.out (by kernel_rfl)) (fun _ _ _ h => h) (Or.inl ⟨by rfl, ?_⟩) ?_ ?_
                  rotate_left
                  ·intro w'
                   go_simp
                   with_reducible rfl
                  rotate_left
                  ·simp only [Act.put, List.setIfInBounds_toArray, List.set_cons_zero, List.set_cons_succ, i64_w, i32_w]
                   rfl
                  refine done_ (done_of HT_.out (by kernel_rfl)) ?_
                  try go_wp2
                  go_roundg kj18
                  case measure => have := HJ2.out; have := HK2.out; have := HJ18.out; omega
                  case rel => exact ⟨(wrap64 (x24_2 + 1)), (by first | rfl | (simp; done) | (simp [*]; done)), H', ⟨by have := HJ2.out; have := HK2.out; have := HJ18.out; omega⟩, ⟨by (with_reducible repeat (first | refine blk_drewN ?_ _ | refine blk_drew ?_ | refine blk_alloc ?_ _)); exact BK114.out⟩, ⟨by (with_reducible repeat (first | refine blk_drewN ?_ _ | refine blk_drew ?_ | refine blk_alloc ?_ _)); exact BK115.out⟩, ⟨by repeat (first | (with_reducible first | exact HB.out | apply below_alloc | apply pw_below_drewN | apply below_drew1 | refine below_set ?_ GE114.out | refine below_set ?_ GE115.out | refine below_set ?_ GE117.out | refine below_set ?_ GE118.out) | exact HB.out)⟩⟩
                 ·replace c52 := Bool.eq_false_iff.mpr c52
                  subst c52
                  have H1 : (some false) = some r := by first | (rw [if_neg (show ¬ (false = true) by decide)] at H; exact H) | rfl
                  clear H
                  have H := H1
                  clear H1
                  obtain rfl := Option.some.inj H
                  have hnb67 := NB117_114.out
                  have hnc67 := NB114_117.out
                  have hnb68 := NB117_115.out
                  have hnc68 := NB115_117.out
                  have hcz69_0 : wc.cell? ⟨gb117, 0, none⟩ = some (.int .i64 ((rd_T106 l0_2 x24_2).f0)) := (blk_cell BK117.out 0).trans rfl
                  have hcz69_1 : wc.cell? ⟨gb117, 1, none⟩ = some (.int .i64 ((rd_T106 l0_2 x24_2).f1)) := (blk_cell BK117.out 1).trans rfl
                  have hcz69_2 : wc.cell? ⟨gb117, 2, none⟩ = some (.int .i64 ((rd_T106 l0_2 x24_2).f2)) := (blk_cell BK117.out 2).trans rfl
                  have hcz69_3 : wc.cell? ⟨gb117, 3, none⟩ = some (.int .i64 ((rd_T106 l0_2 x24_2).f3.f0)) := (blk_cell BK117.out 3).trans rfl
                  have hcz69_4 : wc.cell? ⟨gb117, 4, none⟩ = some (.int .i64 ((rd_T106 l0_2 x24_2).f3.f1)) := (blk_cell BK117.out 4).trans rfl
                  have hcz69_5 : wc.cell? ⟨gb117, 5, none⟩ = some (.string ((rd_T106 l0_2 x24_2).f3.f2)) := (blk_cell BK117.out 5).trans rfl
                  have hfz69_0 := blk_frozen BK117.out 0
                  have hfz69_1 := blk_frozen BK117.out 1
                  have hfz69_2 := blk_frozen BK117.out 2
                  have hfz69_3 := blk_frozen BK117.out 3
                  have hfz69_4 := blk_frozen BK117.out 4
                  have hfz69_5 := blk_frozen BK117.out 5
                  try go_wp2_with (first | ((with_reducible refine gate_dst (N := 7) rfl ?_); (try (refine gate_guard (by rfl) ?_; dsimp only)); refine box_event ?hg (N := 7) ?hd (cs := #[.int .i64 0, .int .i64 0, .string (⟨#[]⟩ : ByteArray)]) (t := 104) ?hr ?_; (case hd => rfl); (case hg => rfl); (case hr => first | (go_simp; done) | (go_simp; rfl)); intro gb118 hg w70 hbox hb; have n0_ := Aside0.mk (blk_below (g := gb114) (o := .cells #[.string a0_0, .int .i64 a0_1, .slice (some ad116) l0_2.length c0_2] 34 (0, 0)) (by (with_reducible repeat (first | refine blk_drewN ?_ _ | refine blk_drew ?_ | refine blk_alloc ?_ _)); exact BK114.out) hb); have n1_ := Aside0.mk (blk_below (g := gb115) (o := .cells #[.int .i64 a1_0, .string a1_1, .slice A1_2 l1_2.length c1_2] 38 (0, 0)) (by (with_reducible repeat (first | refine blk_drewN ?_ _ | refine blk_drew ?_ | refine blk_alloc ?_ _)); exact BK115.out) hb); have n2_ := Aside0.mk (blk_below (g := gb117) (o := .cells #[.int .i64 ((rd_T106 l0_2 x24_2).f0), .int .i64 ((rd_T106 l0_2 x24_2).f1), .int .i64 ((rd_T106 l0_2 x24_2).f2), .int .i64 ((rd_T106 l0_2 x24_2).f3.f0), .int .i64 ((rd_T106 l0_2 x24_2).f3.f1), .string ((rd_T106 l0_2 x24_2).f3.f2)] 106 (0, 0)) (by (with_reducible repeat (first | refine blk_drewN ?_ _ | refine blk_drew ?_ | refine blk_alloc ?_ _)); exact BK117.out) hb); have n3_ := Aside0.mk (below_step (by repeat (first | (with_reducible first | exact HB.out | apply below_alloc | apply pw_below_drewN | apply below_drew1 | refine below_set ?_ GE114.out | refine below_set ?_ GE115.out | refine below_set ?_ GE117.out) | exact HB.out)) hb); have n4_ := Aside0.mk (hbox); have n5_ := Aside0.mk ((by rw [hg]; exact (below_size (by repeat (first | (with_reducible first | exact HB.out | apply below_alloc | apply pw_below_drewN | apply below_drew1 | refine below_set ?_ GE114.out | refine below_set ?_ GE115.out | refine below_set ?_ GE117.out) | exact HB.out))) : w.heap.size ≤ gb118)); have n6_ := Aside0.mk ((by rw [hg]; exact (below_size (by repeat (first | (with_reducible first | exact HB.out | apply below_alloc | apply pw_below_drewN | apply below_drew1 | refine below_set ?_ GE114.out | refine below_set ?_ GE115.out | refine below_set ?_ GE117.out) | exact HB.out))) : w.heap.size ≤ gb118)); have n7_ := Aside0.mk ((by rw [hg]; exact Nat.ne_of_lt (blk_lt (g := gb114) (o := .cells #[.string a0_0, .int .i64 a0_1, .slice (some ad116) l0_2.length c0_2] 34 (0, 0)) (by (with_reducible repeat (first | refine blk_drewN ?_ _ | refine blk_drew ?_ | refine blk_alloc ?_ _)); exact BK114.out)) : gb114 ≠ gb118)); have n8_ := Aside0.mk ((by rw [hg]; exact Nat.ne_of_gt (blk_lt (g := gb114) (o := .cells #[.string a0_0, .int .i64 a0_1, .slice (some ad116) l0_2.length c0_2] 34 (0, 0)) (by (with_reducible repeat (first | refine blk_drewN ?_ _ | refine blk_drew ?_ | refine blk_alloc ?_ _)); exact BK114.out)) : gb118 ≠ gb114)); have n9_ := Aside0.mk ((by rw [hg]; exact Nat.ne_of_lt (blk_lt (g := gb115) (o := .cells #[.int .i64 a1_0, .string a1_1, .slice A1_2 l1_2.length c1_2] 38 (0, 0)) (by (with_reducible repeat (first | refine blk_drewN ?_ _ | refine blk_drew ?_ | refine blk_alloc ?_ _)); exact BK115.out)) : gb115 ≠ gb118)); have n10_ := Aside0.mk ((by rw [hg]; exact Nat.ne_of_gt (blk_lt (g := gb115) (o := .cells #[.int .i64 a1_0, .string a1_1, .slice A1_2 l1_2.length c1_2] 38 (0, 0)) (by (with_reducible repeat (first | refine blk_drewN ?_ _ | refine blk_drew ?_ | refine blk_alloc ?_ _)); exact BK115.out)) : gb118 ≠ gb115)); have n11_ := Aside0.mk ((by rw [hg]; exact Nat.ne_of_lt (blk_lt (g := gb117) (o := .cells #[.int .i64 ((rd_T106 l0_2 x24_2).f0), .int .i64 ((rd_T106 l0_2 x24_2).f1), .int .i64 ((rd_T106 l0_2 x24_2).f2), .int .i64 ((rd_T106 l0_2 x24_2).f3.f0), .int .i64 ((rd_T106 l0_2 x24_2).f3.f1), .string ((rd_T106 l0_2 x24_2).f3.f2)] 106 (0, 0)) (by (with_reducible repeat (first | refine blk_drewN ?_ _ | refine blk_drew ?_ | refine blk_alloc ?_ _)); exact BK117.out)) : gb117 ≠ gb118)); have n12_ := Aside0.mk ((by rw [hg]; exact Nat.ne_of_gt (blk_lt (g := gb117) (o := .cells #[.int .i64 ((rd_T106 l0_2 x24_2).f0), .int .i64 ((rd_T106 l0_2 x24_2).f1), .int .i64 ((rd_T106 l0_2 x24_2).f2), .int .i64 ((rd_T106 l0_2 x24_2).f3.f0), .int .i64 ((rd_T106 l0_2 x24_2).f3.f1), .string ((rd_T106 l0_2 x24_2).f3.f2)] 106 (0, 0)) (by (with_reducible repeat (first | refine blk_drewN ?_ _ | refine blk_drew ?_ | refine blk_alloc ?_ _)); exact BK117.out)) : gb118 ≠ gb117)); clear BK114; clear BK115; clear BK117; clear HB; have BK114 := n0_; have BK115 := n1_; have BK117 := n2_; have HB := n3_; have BK118 := n4_; have GW118 := n5_; have GE118 := n6_; have NB114_118 := n7_; have NB118_114 := n8_; have NB115_118 := n9_; have NB118_115 := n10_; have NB117_118 := n11_; have NB118_117 := n12_; clear n0_ n1_ n2_ n3_ n4_ n5_ n6_ n7_ n8_ n9_ n10_ n11_ n12_; clear hb hbox hg; have hnb71 := NB118_114.out; have hnc71 := NB114_118.out; have hnb72 := NB118_115.out; have hnc72 := NB115_118.out; have hnb73 := NB118_117.out; have hnc73 := NB117_118.out; have hcz74_0 : w70.cell? ⟨gb118, 0, none⟩ = some (.int .i64 0) := (blk_cell BK118.out 0).trans rfl; have hcz74_1 : w70.cell? ⟨gb118, 1, none⟩ = some (.int .i64 0) := (blk_cell BK118.out 1).trans rfl; have hcz74_2 : w70.cell? ⟨gb118, 2, none⟩ = some (.string (⟨#[]⟩ : ByteArray)) := (blk_cell BK118.out 2).trans rfl; have hfz74_0 := blk_frozen BK118.out 0; have hfz74_1 := blk_frozen BK118.out 1; have hfz74_2 := blk_frozen BK118.out 2; have hcz75_0 : w70.cell? ⟨gb117, 0, none⟩ = some (.int .i64 ((rd_T106 l0_2 x24_2).f0)) := (blk_cell BK117.out 0).trans rfl; have hcz75_1 : w70.cell? ⟨gb117, 1, none⟩ = some (.int .i64 ((rd_T106 l0_2 x24_2).f1)) := (blk_cell BK117.out 1).trans rfl; have hcz75_2 : w70.cell? ⟨gb117, 2, none⟩ = some (.int .i64 ((rd_T106 l0_2 x24_2).f2)) := (blk_cell BK117.out 2).trans rfl; have hcz75_3 : w70.cell? ⟨gb117, 3, none⟩ = some (.int .i64 ((rd_T106 l0_2 x24_2).f3.f0)) := (blk_cell BK117.out 3).trans rfl; have hcz75_4 : w70.cell? ⟨gb117, 4, none⟩ = some (.int .i64 ((rd_T106 l0_2 x24_2).f3.f1)) := (blk_cell BK117.out 4).trans rfl; have hcz75_5 : w70.cell? ⟨gb117, 5, none⟩ = some (.string ((rd_T106 l0_2 x24_2).f3.f2)) := (blk_cell BK117.out 5).trans rfl; have hfz75_0 := blk_frozen BK117.out 0; have hfz75_1 := blk_frozen BK117.out 1; have hfz75_2 := blk_frozen BK117.out 2; have hfz75_3 := blk_frozen BK117.out 3; have hfz75_4 := blk_frozen BK117.out 4; have hfz75_5 := blk_frozen BK117.out 5; have hnb76 := NB115_114.out; have hnc76 := NB114_115.out; have hcz77_0 : w70.cell? ⟨gb115, 0, none⟩ = some (.int .i64 a1_0) := (blk_cell BK115.out 0).trans rfl; have hcz77_1 : w70.cell? ⟨gb115, 1, none⟩ = some (.string a1_1) := (blk_cell BK115.out 1).trans rfl; have hcz77_2 : w70.cell? ⟨gb115, 2, none⟩ = some (.slice A1_2 l1_2.length c1_2) := (blk_cell BK115.out 2).trans rfl; have hfz77_0 := blk_frozen BK115.out 0; have hfz77_1 := blk_frozen BK115.out 1; have hfz77_2 := blk_frozen BK115.out 2; have p119 : 0 ≤ (((rd_T106 l0_2 x24_2).f2) : Int) := of_decide_eq_true (by first | (with_reducible assumption) | assumption); have q119 : ((rd_T106 l0_2 x24_2).f2) < (l1_2.length : Int) := of_decide_eq_true (by first | (with_reducible assumption) | assumption); obtain ⟨ad119, e119, hx119_0, hx119_1, hx119_2⟩ := at_T104 HR1_2.out ((rd_T106 l0_2 x24_2).f2) p119 q119; cases e119; have hn119_0 : ad119.block ≠ gb118 := Nat.ne_of_lt (Nat.lt_of_lt_of_le (by have := World.block_lt_of_cell? _ _ hx119_0; first | rwa [add_block] at this | exact this) GW118.out); have hn119_1 : ad119.block ≠ gb118 := Nat.ne_of_lt (Nat.lt_of_lt_of_le (by have := World.block_lt_of_cell? _ _ hx119_0; first | rwa [add_block] at this | exact this) GW118.out); have hn119_2 : ad119.block ≠ gb118 := Nat.ne_of_lt (Nat.lt_of_lt_of_le (by have := World.block_lt_of_cell? _ _ hx119_0; first | rwa [add_block] at this | exact this) GW118.out); replace hx119_0 := (HB.out.cell (World.block_lt_of_cell? w _ hx119_0)).trans hx119_0; replace hx119_1 := (HB.out.cell (World.block_lt_of_cell? w _ hx119_1)).trans hx119_1; replace hx119_2 := (HB.out.cell (World.block_lt_of_cell? w _ hx119_2)).trans hx119_2; replace hx119_0 := (cell_far (p := ⟨gb118, 0, none⟩) (by first | (rw [add_block]; exact hn119_0) | (show (Addr.add _ _).block ≠ _; rw [add_block]; exact hn119_0) | exact hn119_0) (.int .i64 ((rd_T106 l0_2 x24_2).f3.f0))).trans hx119_0; replace hx119_1 := (cell_far (p := ⟨gb118, 0, none⟩) (by first | (rw [add_block]; exact hn119_0) | (show (Addr.add _ _).block ≠ _; rw [add_block]; exact hn119_0) | exact hn119_0) (.int .i64 ((rd_T106 l0_2 x24_2).f3.f0))).trans hx119_1; replace hx119_2 := (cell_far (p := ⟨gb118, 0, none⟩) (by first | (rw [add_block]; exact hn119_0) | (show (Addr.add _ _).block ≠ _; rw [add_block]; exact hn119_0) | exact hn119_0) (.int .i64 ((rd_T106 l0_2 x24_2).f3.f0))).trans hx119_2; replace hx119_0 := (cell_far (p := ⟨gb118, 1, none⟩) (by first | (rw [add_block]; exact hn119_1) | (show (Addr.add _ _).block ≠ _; rw [add_block]; exact hn119_1) | exact hn119_1) (.int .i64 ((rd_T106 l0_2 x24_2).f3.f1))).trans hx119_0; replace hx119_1 := (cell_far (p := ⟨gb118, 1, none⟩) (by first | (rw [add_block]; exact hn119_1) | (show (Addr.add _ _).block ≠ _; rw [add_block]; exact hn119_1) | exact hn119_1) (.int .i64 ((rd_T106 l0_2 x24_2).f3.f1))).trans hx119_1; replace hx119_2 := (cell_far (p := ⟨gb118, 1, none⟩) (by first | (rw [add_block]; exact hn119_1) | (show (Addr.add _ _).block ≠ _; rw [add_block]; exact hn119_1) | exact hn119_1) (.int .i64 ((rd_T106 l0_2 x24_2).f3.f1))).trans hx119_2; replace hx119_0 := (cell_far (p := ⟨gb118, 2, none⟩) (by first | (rw [add_block]; exact hn119_2) | (show (Addr.add _ _).block ≠ _; rw [add_block]; exact hn119_2) | exact hn119_2) (.string ((rd_T106 l0_2 x24_2).f3.f2))).trans hx119_0; replace hx119_1 := (cell_far (p := ⟨gb118, 2, none⟩) (by first | (rw [add_block]; exact hn119_2) | (show (Addr.add _ _).block ≠ _; rw [add_block]; exact hn119_2) | exact hn119_2) (.string ((rd_T106 l0_2 x24_2).f3.f2))).trans hx119_1; replace hx119_2 := (cell_far (p := ⟨gb118, 2, none⟩) (by first | (rw [add_block]; exact hn119_2) | (show (Addr.add _ _).block ≠ _; rw [add_block]; exact hn119_2) | exact hn119_2) (.string ((rd_T106 l0_2 x24_2).f3.f2))).trans hx119_2; clear hn119_0; clear hn119_1; clear hn119_2; replace p119 := eq_true p119; replace q119 := eq_true q119))
                  have n0_ : Aside0 (((((((w70.setCell ⟨gb118, 0, none⟩ (.int .i64 ((rd_T106 l0_2 x24_2).f3.f0))).setCell ⟨gb118, 1, none⟩ (.int .i64 ((rd_T106 l0_2 x24_2).f3.f1))).setCell ⟨gb118, 2, none⟩ (.string ((rd_T106 l0_2 x24_2).f3.f2))).setCell ⟨gb118, 0, none⟩ (.int .i64 ((rd_T104 l1_2 ((rd_T106 l0_2 x24_2).f2)).f0))).setCell ⟨gb118, 1, none⟩ (.int .i64 ((rd_T104 l1_2 ((rd_T106 l0_2 x24_2).f2)).f1))).setCell ⟨gb118, 2, none⟩ (.string ((rd_T104 l1_2 ((rd_T106 l0_2 x24_2).f2)).f2))).heap[gb114]? = some (.cells #[.string a0_0, .int .i64 a0_1, .slice (some ad116) l0_2.length c0_2] 34 (0, 0))) := ⟨by (with_reducible repeat (first | refine blk_drewN ?_ _ | refine blk_drew ?_ | refine blk_alloc ?_ _)); refine blk_far ?_ NB114_118.out _; (with_reducible repeat (first | refine blk_drewN ?_ _ | refine blk_drew ?_ | refine blk_alloc ?_ _)); refine blk_far ?_ NB114_118.out _; (with_reducible repeat (first | refine blk_drewN ?_ _ | refine blk_drew ?_ | refine blk_alloc ?_ _)); refine blk_far ?_ NB114_118.out _; (with_reducible repeat (first | refine blk_drewN ?_ _ | refine blk_drew ?_ | refine blk_alloc ?_ _)); refine blk_far ?_ NB114_118.out _; (with_reducible repeat (first | refine blk_drewN ?_ _ | refine blk_drew ?_ | refine blk_alloc ?_ _)); refine blk_far ?_ NB114_118.out _; (with_reducible repeat (first | refine blk_drewN ?_ _ | refine blk_drew ?_ | refine blk_alloc ?_ _)); refine blk_far ?_ NB114_118.out _; (with_reducible repeat (first | refine blk_drewN ?_ _ | refine blk_drew ?_ | refine blk_alloc ?_ _)); exact BK114.out⟩
                  have n1_ : Aside0 (((((((w70.setCell ⟨gb118, 0, none⟩ (.int .i64 ((rd_T106 l0_2 x24_2).f3.f0))).setCell ⟨gb118, 1, none⟩ (.int .i64 ((rd_T106 l0_2 x24_2).f3.f1))).setCell ⟨gb118, 2, none⟩ (.string ((rd_T106 l0_2 x24_2).f3.f2))).setCell ⟨gb118, 0, none⟩ (.int .i64 ((rd_T104 l1_2 ((rd_T106 l0_2 x24_2).f2)).f0))).setCell ⟨gb118, 1, none⟩ (.int .i64 ((rd_T104 l1_2 ((rd_T106 l0_2 x24_2).f2)).f1))).setCell ⟨gb118, 2, none⟩ (.string ((rd_T104 l1_2 ((rd_T106 l0_2 x24_2).f2)).f2))).heap[gb115]? = some (.cells #[.int .i64 a1_0, .string a1_1, .slice (some ad119) l1_2.length c1_2] 38 (0, 0))) := ⟨by (with_reducible repeat (first | refine blk_drewN ?_ _ | refine blk_drew ?_ | refine blk_alloc ?_ _)); refine blk_far ?_ NB115_118.out _; (with_reducible repeat (first | refine blk_drewN ?_ _ | refine blk_drew ?_ | refine blk_alloc ?_ _)); refine blk_far ?_ NB115_118.out _; (with_reducible repeat (first | refine blk_drewN ?_ _ | refine blk_drew ?_ | refine blk_alloc ?_ _)); refine blk_far ?_ NB115_118.out _; (with_reducible repeat (first | refine blk_drewN ?_ _ | refine blk_drew ?_ | refine blk_alloc ?_ _)); refine blk_far ?_ NB115_118.out _; (with_reducible repeat (first | refine blk_drewN ?_ _ | refine blk_drew ?_ | refine blk_alloc ?_ _)); refine blk_far ?_ NB115_118.out _; (with_reducible repeat (first | refine blk_drewN ?_ _ | refine blk_drew ?_ | refine blk_alloc ?_ _)); refine blk_far ?_ NB115_118.out _; (with_reducible repeat (first | refine blk_drewN ?_ _ | refine blk_drew ?_ | refine blk_alloc ?_ _)); exact BK115.out⟩
                  have n2_ : Aside0 (((((((w70.setCell ⟨gb118, 0, none⟩ (.int .i64 ((rd_T106 l0_2 x24_2).f3.f0))).setCell ⟨gb118, 1, none⟩ (.int .i64 ((rd_T106 l0_2 x24_2).f3.f1))).setCell ⟨gb118, 2, none⟩ (.string ((rd_T106 l0_2 x24_2).f3.f2))).setCell ⟨gb118, 0, none⟩ (.int .i64 ((rd_T104 l1_2 ((rd_T106 l0_2 x24_2).f2)).f0))).setCell ⟨gb118, 1, none⟩ (.int .i64 ((rd_T104 l1_2 ((rd_T106 l0_2 x24_2).f2)).f1))).setCell ⟨gb118, 2, none⟩ (.string ((rd_T104 l1_2 ((rd_T106 l0_2 x24_2).f2)).f2))).heap[gb117]? = some (.cells #[.int .i64 ((rd_T106 l0_2 x24_2).f0), .int .i64 ((rd_T106 l0_2 x24_2).f1), .int .i64 ((rd_T106 l0_2 x24_2).f2), .int .i64 ((rd_T106 l0_2 x24_2).f3.f0), .int .i64 ((rd_T106 l0_2 x24_2).f3.f1), .string ((rd_T106 l0_2 x24_2).f3.f2)] 106 (0, 0))) := ⟨by (with_reducible repeat (first | refine blk_drewN ?_ _ | refine blk_drew ?_ | refine blk_alloc ?_ _)); refine blk_far ?_ NB117_118.out _; (with_reducible repeat (first | refine blk_drewN ?_ _ | refine blk_drew ?_ | refine blk_alloc ?_ _)); refine blk_far ?_ NB117_118.out _; (with_reducible repeat (first | refine blk_drewN ?_ _ | refine blk_drew ?_ | refine blk_alloc ?_ _)); refine blk_far ?_ NB117_118.out _; (with_reducible repeat (first | refine blk_drewN ?_ _ | refine blk_drew ?_ | refine blk_alloc ?_ _)); refine blk_far ?_ NB117_118.out _; (with_reducible repeat (first | refine blk_drewN ?_ _ | refine blk_drew ?_ | refine blk_alloc ?_ _)); refine blk_far ?_ NB117_118.out _; (with_reducible repeat (first | refine blk_drewN ?_ _ | refine blk_drew ?_ | refine blk_alloc ?_ _)); refine blk_far ?_ NB117_118.out _; (with_reducible repeat (first | refine blk_drewN ?_ _ | refine blk_drew ?_ | refine blk_alloc ?_ _)); exact BK117.out⟩
                  have n3_ : Aside0 (((((((w70.setCell ⟨gb118, 0, none⟩ (.int .i64 ((rd_T106 l0_2 x24_2).f3.f0))).setCell ⟨gb118, 1, none⟩ (.int .i64 ((rd_T106 l0_2 x24_2).f3.f1))).setCell ⟨gb118, 2, none⟩ (.string ((rd_T106 l0_2 x24_2).f3.f2))).setCell ⟨gb118, 0, none⟩ (.int .i64 ((rd_T104 l1_2 ((rd_T106 l0_2 x24_2).f2)).f0))).setCell ⟨gb118, 1, none⟩ (.int .i64 ((rd_T104 l1_2 ((rd_T106 l0_2 x24_2).f2)).f1))).setCell ⟨gb118, 2, none⟩ (.string ((rd_T104 l1_2 ((rd_T106 l0_2 x24_2).f2)).f2))).heap[gb118]? = some (.cells #[.int .i64 ((rd_T104 l1_2 ((rd_T106 l0_2 x24_2).f2)).f0), .int .i64 ((rd_T104 l1_2 ((rd_T106 l0_2 x24_2).f2)).f1), .string ((rd_T104 l1_2 ((rd_T106 l0_2 x24_2).f2)).f2)] 104 (0, 0))) := ⟨by (with_reducible repeat (first | refine blk_drewN ?_ _ | refine blk_drew ?_ | refine blk_alloc ?_ _)); refine blk_put (cs := #[.int .i64 ((rd_T104 l1_2 ((rd_T106 l0_2 x24_2).f2)).f0), .int .i64 ((rd_T104 l1_2 ((rd_T106 l0_2 x24_2).f2)).f1), .string ((rd_T106 l0_2 x24_2).f3.f2)]) ?_ 2 _ rfl; (with_reducible repeat (first | refine blk_drewN ?_ _ | refine blk_drew ?_ | refine blk_alloc ?_ _)); refine blk_put (cs := #[.int .i64 ((rd_T104 l1_2 ((rd_T106 l0_2 x24_2).f2)).f0), .int .i64 ((rd_T106 l0_2 x24_2).f3.f1), .string ((rd_T106 l0_2 x24_2).f3.f2)]) ?_ 1 _ rfl; (with_reducible repeat (first | refine blk_drewN ?_ _ | refine blk_drew ?_ | refine blk_alloc ?_ _)); refine blk_put (cs := #[.int .i64 ((rd_T106 l0_2 x24_2).f3.f0), .int .i64 ((rd_T106 l0_2 x24_2).f3.f1), .string ((rd_T106 l0_2 x24_2).f3.f2)]) ?_ 0 _ rfl; (with_reducible repeat (first | refine blk_drewN ?_ _ | refine blk_drew ?_ | refine blk_alloc ?_ _)); refine blk_put (cs := #[.int .i64 ((rd_T106 l0_2 x24_2).f3.f0), .int .i64 ((rd_T106 l0_2 x24_2).f3.f1), .string (⟨#[]⟩ : ByteArray)]) ?_ 2 _ rfl; (with_reducible repeat (first | refine blk_drewN ?_ _ | refine blk_drew ?_ | refine blk_alloc ?_ _)); refine blk_put (cs := #[.int .i64 ((rd_T106 l0_2 x24_2).f3.f0), .int .i64 0, .string (⟨#[]⟩ : ByteArray)]) ?_ 1 _ rfl; (with_reducible repeat (first | refine blk_drewN ?_ _ | refine blk_drew ?_ | refine blk_alloc ?_ _)); refine blk_put (cs := #[.int .i64 0, .int .i64 0, .string (⟨#[]⟩ : ByteArray)]) ?_ 0 _ rfl; (with_reducible repeat (first | refine blk_drewN ?_ _ | refine blk_drew ?_ | refine blk_alloc ?_ _)); exact BK118.out⟩
                  have n4_ : Aside0 (Below w.heap.size w ((((((w70.setCell ⟨gb118, 0, none⟩ (.int .i64 ((rd_T106 l0_2 x24_2).f3.f0))).setCell ⟨gb118, 1, none⟩ (.int .i64 ((rd_T106 l0_2 x24_2).f3.f1))).setCell ⟨gb118, 2, none⟩ (.string ((rd_T106 l0_2 x24_2).f3.f2))).setCell ⟨gb118, 0, none⟩ (.int .i64 ((rd_T104 l1_2 ((rd_T106 l0_2 x24_2).f2)).f0))).setCell ⟨gb118, 1, none⟩ (.int .i64 ((rd_T104 l1_2 ((rd_T106 l0_2 x24_2).f2)).f1))).setCell ⟨gb118, 2, none⟩ (.string ((rd_T104 l1_2 ((rd_T106 l0_2 x24_2).f2)).f2)))) := ⟨by repeat (first | (with_reducible first | exact HB.out | apply below_alloc | apply pw_below_drewN | apply below_drew1 | refine below_set ?_ GE114.out | refine below_set ?_ GE115.out | refine below_set ?_ GE117.out | refine below_set ?_ GE118.out) | exact HB.out)⟩
                  (try clear BK114)
                  (try clear BK115)
                  (try clear BK117)
                  (try clear BK118)
                  (try clear HB)
                  generalize ((((((w70.setCell ⟨gb118, 0, none⟩ (.int .i64 ((rd_T106 l0_2 x24_2).f3.f0))).setCell ⟨gb118, 1, none⟩ (.int .i64 ((rd_T106 l0_2 x24_2).f3.f1))).setCell ⟨gb118, 2, none⟩ (.string ((rd_T106 l0_2 x24_2).f3.f2))).setCell ⟨gb118, 0, none⟩ (.int .i64 ((rd_T104 l1_2 ((rd_T106 l0_2 x24_2).f2)).f0))).setCell ⟨gb118, 1, none⟩ (.int .i64 ((rd_T104 l1_2 ((rd_T106 l0_2 x24_2).f2)).f1))).setCell ⟨gb118, 2, none⟩ (.string ((rd_T104 l1_2 ((rd_T106 l0_2 x24_2).f2)).f2))) = w78 at n0_ n1_ n2_ n3_ n4_ ⊢
                  have BK114 := n0_
                  have BK115 := n1_
                  have BK117 := n2_
                  have BK118 := n3_
                  have HB := n4_
                  clear n0_ n1_ n2_ n3_ n4_
                  have n0_ := Aside0.mk (blk_drew BK114.out)
                  have n1_ := Aside0.mk (blk_drew BK115.out)
                  have n2_ := Aside0.mk (blk_drew BK117.out)
                  have n3_ := Aside0.mk (blk_drew BK118.out)
                  have n4_ := Aside0.mk (below_drew1 HB.out)
                  clear BK114
                  clear BK115
                  clear BK117
                  clear BK118
                  clear HB
                  have BK114 := n0_
                  have BK115 := n1_
                  have BK117 := n2_
                  have BK118 := n3_
                  have HB := n4_
                  clear n0_ n1_ n2_ n3_ n4_
                  have p120 : 0 ≤ (((rd_T106 l0_2 x24_2).f0) : Int) := of_decide_eq_true (by first | (with_reducible assumption) | assumption)
                  have q120 : ((rd_T106 l0_2 x24_2).f0) < (l1_2.length : Int) := of_decide_eq_true (by first | (with_reducible assumption) | assumption)
                  obtain ⟨ad120, e120, hx120_0, hx120_1, hx120_2⟩ := at_T104 HR1_2.out ((rd_T106 l0_2 x24_2).f0) p120 q120
                  have hw120_2 := hx120_2
                  have hw120_1 := hx120_1
                  have hw120_0 := hx120_0
                  obtain rfl : ad119 = ad120 := (by injection e120)
                  replace hx120_0 := (HB.out.cell (World.block_lt_of_cell? w _ hx120_0)).trans hx120_0
                  replace hx120_1 := (HB.out.cell (World.block_lt_of_cell? w _ hx120_1)).trans hx120_1
                  replace hx120_2 := (HB.out.cell (World.block_lt_of_cell? w _ hx120_2)).trans hx120_2
                  replace p120 := eq_true p120
                  replace q120 := eq_true q120
                  refine start_ (n := 11) (S := fun w' => w'.cell? ⟨gb117, 0, none⟩ = some (.int .i64 ((rd_T106 l0_2 x24_2).f0)) ∧ w'.cell? ⟨gb117, 1, none⟩ = some (.int .i64 ((rd_T106 l0_2 x24_2).f1)) ∧ w'.cell? ⟨gb117, 2, none⟩ = some (.int .i64 ((rd_T106 l0_2 x24_2).f2)) ∧ w'.cell? ⟨gb117, 3, none⟩ = some (.int .i64 ((rd_T106 l0_2 x24_2).f3.f0)) ∧ w'.cell? ⟨gb117, 4, none⟩ = some (.int .i64 ((rd_T106 l0_2 x24_2).f3.f1)) ∧ w'.cell? ⟨gb117, 5, none⟩ = some (.string ((rd_T106 l0_2 x24_2).f3.f2)) ∧ w'.cell? ⟨gb115, 0, none⟩ = some (.int .i64 a1_0) ∧ w'.cell? ⟨gb115, 1, none⟩ = some (.string a1_1) ∧ w'.cell? ⟨gb115, 2, none⟩ = some (.slice (some ad119) l1_2.length c1_2) ∧ w'.cell? ⟨gb118, 0, none⟩ = some (.int .i64 ((rd_T104 l1_2 ((rd_T106 l0_2 x24_2).f2)).f0)) ∧ w'.cell? ⟨gb118, 1, none⟩ = some (.int .i64 ((rd_T104 l1_2 ((rd_T106 l0_2 x24_2).f2)).f1)) ∧ w'.cell? ⟨gb118, 2, none⟩ = some (.string ((rd_T104 l1_2 ((rd_T106 l0_2 x24_2).f2)).f2)) ∧ w'.cell? (ad119.add ((((rd_T106 l0_2 x24_2).f0)).toNat * 3)) = some (.int .i64 ((rd_T104 l1_2 ((rd_T106 l0_2 x24_2).f0)).f0)) ∧ w'.cell? ⟨(ad119.add ((((rd_T106 l0_2 x24_2).f0)).toNat * 3)).block, (ad119.add ((((rd_T106 l0_2 x24_2).f0)).toNat * 3)).off + 1, none⟩ = some (.int .i64 ((rd_T104 l1_2 ((rd_T106 l0_2 x24_2).f0)).f1)) ∧ w'.cell? ⟨(ad119.add ((((rd_T106 l0_2 x24_2).f0)).toNat * 3)).block, (ad119.add ((((rd_T106 l0_2 x24_2).f0)).toNat * 3)).off + 2, none⟩ = some (.string ((rd_T104 l1_2 ((rd_T106 l0_2 x24_2).f0)).f2))) (ds := []) #[false, false, false, false, false, false, false, false, false, false, false] (by kernel_rfl) rfl rfl ⟨(blk_cell BK117.out 0).trans rfl, (blk_cell BK117.out 1).trans rfl, (blk_cell BK117.out 2).trans rfl, (blk_cell BK117.out 3).trans rfl, (blk_cell BK117.out 4).trans rfl, (blk_cell BK117.out 5).trans rfl, (blk_cell BK115.out 0).trans rfl, (blk_cell BK115.out 1).trans rfl, (blk_cell BK115.out 2).trans rfl, (blk_cell BK118.out 0).trans rfl, (blk_cell BK118.out 1).trans rfl, (blk_cell BK118.out 2).trans rfl, ((HB.out.cell (World.block_lt_of_cell? w _ hw120_0)).trans hw120_0), ((HB.out.cell (World.block_lt_of_cell? w _ hw120_1)).trans hw120_1), ((HB.out.cell (World.block_lt_of_cell? w _ hw120_2)).trans hw120_2)⟩ (fun hHeld => ?_); refine with_tabW spec_AlphaPass.tab11 spec_AlphaPass.bits11 (fun HT_ HW_ => ?_)
                  generalize w78.drew = w79 at BK114 BK115 BK117 BK118 HB hx120_0 hx120_1 hx120_2 hHeld ⊢
                  refine pure_ (i := 0) (N := some 63) (v := ?_) (a' := ?_) #[true, false, false, false, false, false, false, false, false, false, false] rfl rfl (any_of HT_.out (by kernel_rfl)) (fun _ _ _ h => h) (Or.inl ⟨by rfl, ?_⟩) ?_ ?_
                  rotate_left
                  ·intro w'
                   go_simp
                   with_reducible rfl
                  rotate_left
                  ·simp only [Act.put, List.setIfInBounds_toArray, List.set_cons_zero, List.set_cons_succ, i64_w, i32_w]
                   rfl
                  refine pure_ (i := 2) (N := some 65) (v := ?_) (a' := ?_) #[true, false, true, false, false, false, false, false, false, false, false] rfl rfl (any_of HT_.out (by kernel_rfl)) (fun _ _ _ h => h) (Or.inl ⟨by rfl, ?_⟩) ?_ ?_
                  rotate_left
                  ·intro w'
                   go_simp
                   with_reducible rfl
                  rotate_left
                  ·simp only [Act.put, List.setIfInBounds_toArray, List.set_cons_zero, List.set_cons_succ, i64_w, i32_w]
                   rfl
                  refine pure_ (i := 4) (N := some 67) (v := ?_) (a' := ?_) #[true, false, true, false, true, false, false, false, false, false, false] rfl rfl (any_of HT_.out (by kernel_rfl)) (fun _ _ _ h => h) (Or.inl ⟨by rfl, ?_⟩) ?_ ?_
                  rotate_left
                  ·intro w'
                   go_simp
                   with_reducible rfl
                  rotate_left
                  ·simp only [Act.put, List.setIfInBounds_toArray, List.set_cons_zero, List.set_cons_succ, i64_w, i32_w]
                   rfl
                  refine take_ (i := 1) (N := some 64) (v := ?_) (a' := ?_) #[true, true, true, false, true, false, false, false, false, false, false] rfl rfl (take_ofW HT_.out HW_.out (by kernel_rfl)) (fun _ _ _ h => h) (Or.inl ⟨by rfl, ?_⟩) hHeld ?_ ?_
                  rotate_left
                  ·rintro w' ⟨s0, s1, s2, s3, s4, s5, s6, s7, s8, s9, s10, s11, s12, s13, s14⟩
                   go_simp
                   with_reducible rfl
                  rotate_left
                  ·simp only [Act.put, List.setIfInBounds_toArray, List.set_cons_zero, List.set_cons_succ, i64_w, i32_w]
                   rfl
                  refine take_ (i := 3) (N := some 66) (v := ?_) (a' := ?_) #[true, true, true, true, true, false, false, false, false, false, false] rfl rfl (take_ofW HT_.out HW_.out (by kernel_rfl)) (fun _ _ _ h => h) (Or.inl ⟨by rfl, ?_⟩) hHeld ?_ ?_
                  rotate_left
                  ·rintro w' ⟨s0, s1, s2, s3, s4, s5, s6, s7, s8, s9, s10, s11, s12, s13, s14⟩
                   go_simp
                   with_reducible rfl
                  rotate_left
                  ·simp only [Act.put, List.setIfInBounds_toArray, List.set_cons_zero, List.set_cons_succ, i64_w, i32_w]
                   rfl
                  refine take_ (i := 5) (N := some 68) (v := ?_) (a' := ?_) #[true, true, true, true, true, true, false, false, false, false, false] rfl rfl (take_ofW HT_.out HW_.out (by kernel_rfl)) (fun _ _ _ h => h) (Or.inl ⟨by rfl, ?_⟩) hHeld ?_ ?_
                  rotate_left
                  ·rintro w' ⟨s0, s1, s2, s3, s4, s5, s6, s7, s8, s9, s10, s11, s12, s13, s14⟩
                   go_simp
                   with_reducible rfl
                  rotate_left
                  ·simp only [Act.put, List.setIfInBounds_toArray, List.set_cons_zero, List.set_cons_succ, i64_w, i32_w]
                   rfl
                  refine pure_ (i := 6) (N := some 69) (v := ?_) (a' := ?_) #[true, true, true, true, true, true, true, false, false, false, false] rfl rfl (any_of HT_.out (by kernel_rfl)) (fun _ _ _ h => h) (Or.inl ⟨by rfl, ?_⟩) ?_ ?_
                  rotate_left
                  ·intro w'
                   go_simp
                   with_reducible rfl
                  rotate_left
                  ·simp only [Act.put, List.setIfInBounds_toArray, List.set_cons_zero, List.set_cons_succ, i64_w, i32_w]
                   rfl
                  refine take_ (i := 7) (N := some 70) (v := ?_) (a' := ?_) #[true, true, true, true, true, true, true, true, false, false, false] rfl rfl (take_ofW HT_.out HW_.out (by kernel_rfl)) (fun _ _ _ h => h) (Or.inl ⟨by rfl, ?_⟩) hHeld ?_ ?_
                  rotate_left
                  ·rintro w' ⟨s0, s1, s2, s3, s4, s5, s6, s7, s8, s9, s10, s11, s12, s13, s14⟩
                   go_simp
                   with_reducible rfl
                  rotate_left
                  ·simp only [Act.put, List.setIfInBounds_toArray, List.set_cons_zero, List.set_cons_succ, i64_w, i32_w]
                   rfl
                  refine take_ (i := 8) (N := some 71) (v := ?_) (a' := ?_) #[true, true, true, true, true, true, true, true, true, false, false] rfl rfl (take_ofW HT_.out HW_.out (by kernel_rfl)) (fun _ _ _ h => h) (Or.inl ⟨by rfl, ?_⟩) hHeld ?_ ?_
                  rotate_left
                  ·rintro w' ⟨s0, s1, s2, s3, s4, s5, s6, s7, s8, s9, s10, s11, s12, s13, s14⟩
                   go_simp
                   with_reducible rfl
                  rotate_left
                  ·simp only [Act.put, List.setIfInBounds_toArray, List.set_cons_zero, List.set_cons_succ, i64_w, i32_w]
                   rfl
                  refine one_ (i := 9) (N := some 72) #[true, true, true, true, true, true, true, true, true, true, false] rfl rfl (one_of HT_.out (by kernel_rfl)) (by decide) (fun K hK => ?_)
                  refine goes_ Try.func58 (by kernel_rfl) rfl #[.int .i64 ((rd_T106 l0_2 x24_2).f1), .agg #[.int .i64 ((rd_T104 l1_2 ((rd_T106 l0_2 x24_2).f0)).f0), .int .i64 ((rd_T104 l1_2 ((rd_T106 l0_2 x24_2).f0)).f1), .string ((rd_T104 l1_2 ((rd_T106 l0_2 x24_2).f0)).f2)], .agg #[.int .i64 ((rd_T104 l1_2 ((rd_T106 l0_2 x24_2).f2)).f0), .int .i64 ((rd_T104 l1_2 ((rd_T106 l0_2 x24_2).f2)).f1), .string ((rd_T104 l1_2 ((rd_T106 l0_2 x24_2).f2)).f2)]] (by rfl) rfl rfl (by (try simp only [List.map_toArray, List.map_cons, List.map_nil]); first | done | rfl | (simp only [List.length_drop, List.length_take]; rfl)) ?_
                  with_reducible refine (spec_l3Holds.calls kj18 ((rd_T106 l0_2 x24_2).f1) ((rd_T104 l1_2 ((rd_T106 l0_2 x24_2).f0)).f0) ((rd_T104 l1_2 ((rd_T106 l0_2 x24_2).f0)).f1) ((rd_T104 l1_2 ((rd_T106 l0_2 x24_2).f0)).f2) ((rd_T104 l1_2 ((rd_T106 l0_2 x24_2).f2)).f0) ((rd_T104 l1_2 ((rd_T106 l0_2 x24_2).f2)).f1) ((rd_T104 l1_2 ((rd_T106 l0_2 x24_2).f2)).f2) false _ A51.out).mono ?_
                  rintro e w80 ⟨rfl, hb⟩
                  refine ⟨_, rfl, ?_⟩
                  have n0_ := Aside0.mk (blk_below (g := gb114) (o := .cells #[.string a0_0, .int .i64 a0_1, .slice (some ad116) l0_2.length c0_2] 34 (0, 0)) (by (with_reducible repeat (first | refine blk_drewN ?_ _ | refine blk_drew ?_ | refine blk_alloc ?_ _)); exact BK114.out) hb)
                  have n1_ := Aside0.mk (blk_below (g := gb115) (o := .cells #[.int .i64 a1_0, .string a1_1, .slice (some ad119) l1_2.length c1_2] 38 (0, 0)) (by (with_reducible repeat (first | refine blk_drewN ?_ _ | refine blk_drew ?_ | refine blk_alloc ?_ _)); exact BK115.out) hb)
                  have n2_ := Aside0.mk (blk_below (g := gb117) (o := .cells #[.int .i64 ((rd_T106 l0_2 x24_2).f0), .int .i64 ((rd_T106 l0_2 x24_2).f1), .int .i64 ((rd_T106 l0_2 x24_2).f2), .int .i64 ((rd_T106 l0_2 x24_2).f3.f0), .int .i64 ((rd_T106 l0_2 x24_2).f3.f1), .string ((rd_T106 l0_2 x24_2).f3.f2)] 106 (0, 0)) (by (with_reducible repeat (first | refine blk_drewN ?_ _ | refine blk_drew ?_ | refine blk_alloc ?_ _)); exact BK117.out) hb)
                  have n3_ := Aside0.mk (blk_below (g := gb118) (o := .cells #[.int .i64 ((rd_T104 l1_2 ((rd_T106 l0_2 x24_2).f2)).f0), .int .i64 ((rd_T104 l1_2 ((rd_T106 l0_2 x24_2).f2)).f1), .string ((rd_T104 l1_2 ((rd_T106 l0_2 x24_2).f2)).f2)] 104 (0, 0)) (by (with_reducible repeat (first | refine blk_drewN ?_ _ | refine blk_drew ?_ | refine blk_alloc ?_ _)); exact BK118.out) hb)
                  have n4_ := Aside0.mk (below_step (by repeat (first | (with_reducible first | exact HB.out | apply below_alloc | apply pw_below_drewN | apply below_drew1 | refine below_set ?_ GE114.out | refine below_set ?_ GE115.out | refine below_set ?_ GE117.out | refine below_set ?_ GE118.out) | exact HB.out)) hb)
                  clear BK114
                  clear BK115
                  clear BK117
                  clear BK118
                  clear HB
                  have BK114 := n0_
                  have BK115 := n1_
                  have BK117 := n2_
                  have BK118 := n3_
                  have HB := n4_
                  clear n0_ n1_ n2_ n3_ n4_
                  (try clear hb)
                  (try clear hb2)
                  (try clear hk)
                  (try clear hi)
                  refine hK.out _ _ ⟨(blk_cell BK117.out 0).trans rfl, (blk_cell BK117.out 1).trans rfl, (blk_cell BK117.out 2).trans rfl, (blk_cell BK117.out 3).trans rfl, (blk_cell BK117.out 4).trans rfl, (blk_cell BK117.out 5).trans rfl, (blk_cell BK115.out 0).trans rfl, (blk_cell BK115.out 1).trans rfl, (blk_cell BK115.out 2).trans rfl, (blk_cell BK118.out 0).trans rfl, (blk_cell BK118.out 1).trans rfl, (blk_cell BK118.out 2).trans rfl, ((HB.out.cell (World.block_lt_of_cell? w _ hw120_0)).trans hw120_0), ((HB.out.cell (World.block_lt_of_cell? w _ hw120_1)).trans hw120_1), ((HB.out.cell (World.block_lt_of_cell? w _ hw120_2)).trans hw120_2)⟩ (fun hHeld => ?_)
                  clear hK K
                  refine norm_ (a' := ?_) ?_ ?_
                  rotate_left
                  ·show Act.put _ (some 72) _ = _
                   simp only [Act.put, List.setIfInBounds_toArray, List.set_cons_zero, List.set_cons_succ, i64_w, i32_w]
                   rfl
                  refine pure_ (i := 10) (N := some 73) (v := ?_) (a' := ?_) #[true, true, true, true, true, true, true, true, true, true, true] rfl rfl (any_of HT_.out (by kernel_rfl)) (fun _ _ _ h => h) (Or.inl ⟨by rfl, ?_⟩) ?_ ?_
                  rotate_left
                  ·intro w'
                   go_simp
                   with_reducible rfl
                  rotate_left
                  ·simp only [Act.put, List.setIfInBounds_toArray, List.set_cons_zero, List.set_cons_succ, i64_w, i32_w]
                   rfl
                  refine done_ (done_of HT_.out (by kernel_rfl)) ?_
                  try go_wp2
                  go_ret
                  exact ⟨by first | rfl | (simp [errW_none, errW_some] <;> rfl) | (simp [*, errW_none, errW_some] <;> rfl), by repeat (first | (with_reducible first | exact HB.out | apply below_alloc | apply pw_below_drewN | apply below_drew1 | refine below_set ?_ GE114.out | refine below_set ?_ GE115.out | refine below_set ?_ GE117.out | refine below_set ?_ GE118.out) | exact HB.out)⟩
                ·rw [if_neg c50] at H
                 exact absurd H (by simp)
               ·rw [if_neg c49] at H
                exact absurd H (by simp)
              ·rw [if_neg c48] at H
               exact absurd H (by simp)
             ·rw [if_neg c47] at H
              exact absurd H (by simp)
            ·rw [if_neg c46] at H
             have c46b0 : decide (0 ≤ ((rd_T106 l0_2 x24_2).f2)) = false := decide_eq_false c46
             clear c46
             by_cases c81 : 0 ≤ ((rd_T106 l0_2 x24_2).f0)
             ·rw [if_pos c81] at H
              have c81b0 : decide (0 ≤ ((rd_T106 l0_2 x24_2).f0)) = true := decide_eq_true c81
              clear c81
              by_cases c82 : ((rd_T106 l0_2 x24_2).f0) < (l1_2.length : Int)
              ·rw [if_pos c82] at H
               have c82b0 : decide (((rd_T106 l0_2 x24_2).f0) < (l1_2.length : Int)) = true := decide_eq_true c82
               clear c82
               replace H := Option.bind_eq_some_iff.mp H
               obtain ⟨t123, A830, H⟩ := H
               replace H : (if t123 = true then (spec_AlphaPass.l0 kj18 l0_2 (l0_2.length : Int) (wrap64 (x24_2 + 1)) a1_0 a1_1 l1_2) else (some false)) = some r := H
               have A83 := Aside0.mk A830
               clear A830
               by_cases c84 : t123 = true
               ·subst c84
                have H1 : (spec_AlphaPass.l0 kj18 l0_2 (l0_2.length : Int) (wrap64 (x24_2 + 1)) a1_0 a1_1 l1_2) = some r := by first | (rw [if_pos rfl] at H; exact H) | rfl
                clear H
                have H := H1
                clear H1
                have H' := Aside0.mk H
                clear H
                have hnb85 := NB117_114.out
                have hnc85 := NB114_117.out
                have hnb86 := NB117_115.out
                have hnc86 := NB115_117.out
                have hcz87_0 : wc.cell? ⟨gb117, 0, none⟩ = some (.int .i64 ((rd_T106 l0_2 x24_2).f0)) := (blk_cell BK117.out 0).trans rfl
                have hcz87_1 : wc.cell? ⟨gb117, 1, none⟩ = some (.int .i64 ((rd_T106 l0_2 x24_2).f1)) := (blk_cell BK117.out 1).trans rfl
                have hcz87_2 : wc.cell? ⟨gb117, 2, none⟩ = some (.int .i64 ((rd_T106 l0_2 x24_2).f2)) := (blk_cell BK117.out 2).trans rfl
                have hcz87_3 : wc.cell? ⟨gb117, 3, none⟩ = some (.int .i64 ((rd_T106 l0_2 x24_2).f3.f0)) := (blk_cell BK117.out 3).trans rfl
                have hcz87_4 : wc.cell? ⟨gb117, 4, none⟩ = some (.int .i64 ((rd_T106 l0_2 x24_2).f3.f1)) := (blk_cell BK117.out 4).trans rfl
                have hcz87_5 : wc.cell? ⟨gb117, 5, none⟩ = some (.string ((rd_T106 l0_2 x24_2).f3.f2)) := (blk_cell BK117.out 5).trans rfl
                have hfz87_0 := blk_frozen BK117.out 0
                have hfz87_1 := blk_frozen BK117.out 1
                have hfz87_2 := blk_frozen BK117.out 2
                have hfz87_3 := blk_frozen BK117.out 3
                have hfz87_4 := blk_frozen BK117.out 4
                have hfz87_5 := blk_frozen BK117.out 5
                try go_wp2_with (first | ((with_reducible refine gate_dst (N := 7) rfl ?_); (try (refine gate_guard (by rfl) ?_; dsimp only)); refine box_event ?hg (N := 7) ?hd (cs := #[.int .i64 0, .int .i64 0, .string (⟨#[]⟩ : ByteArray)]) (t := 104) ?hr ?_; (case hd => rfl); (case hg => rfl); (case hr => first | (go_simp; done) | (go_simp; rfl)); intro gb118 hg w88 hbox hb; have n0_ := Aside0.mk (blk_below (g := gb114) (o := .cells #[.string a0_0, .int .i64 a0_1, .slice (some ad116) l0_2.length c0_2] 34 (0, 0)) (by (with_reducible repeat (first | refine blk_drewN ?_ _ | refine blk_drew ?_ | refine blk_alloc ?_ _)); exact BK114.out) hb); have n1_ := Aside0.mk (blk_below (g := gb115) (o := .cells #[.int .i64 a1_0, .string a1_1, .slice A1_2 l1_2.length c1_2] 38 (0, 0)) (by (with_reducible repeat (first | refine blk_drewN ?_ _ | refine blk_drew ?_ | refine blk_alloc ?_ _)); exact BK115.out) hb); have n2_ := Aside0.mk (blk_below (g := gb117) (o := .cells #[.int .i64 ((rd_T106 l0_2 x24_2).f0), .int .i64 ((rd_T106 l0_2 x24_2).f1), .int .i64 ((rd_T106 l0_2 x24_2).f2), .int .i64 ((rd_T106 l0_2 x24_2).f3.f0), .int .i64 ((rd_T106 l0_2 x24_2).f3.f1), .string ((rd_T106 l0_2 x24_2).f3.f2)] 106 (0, 0)) (by (with_reducible repeat (first | refine blk_drewN ?_ _ | refine blk_drew ?_ | refine blk_alloc ?_ _)); exact BK117.out) hb); have n3_ := Aside0.mk (below_step (by repeat (first | (with_reducible first | exact HB.out | apply below_alloc | apply pw_below_drewN | apply below_drew1 | refine below_set ?_ GE114.out | refine below_set ?_ GE115.out | refine below_set ?_ GE117.out) | exact HB.out)) hb); have n4_ := Aside0.mk (hbox); have n5_ := Aside0.mk ((by rw [hg]; exact (below_size (by repeat (first | (with_reducible first | exact HB.out | apply below_alloc | apply pw_below_drewN | apply below_drew1 | refine below_set ?_ GE114.out | refine below_set ?_ GE115.out | refine below_set ?_ GE117.out) | exact HB.out))) : w.heap.size ≤ gb118)); have n6_ := Aside0.mk ((by rw [hg]; exact (below_size (by repeat (first | (with_reducible first | exact HB.out | apply below_alloc | apply pw_below_drewN | apply below_drew1 | refine below_set ?_ GE114.out | refine below_set ?_ GE115.out | refine below_set ?_ GE117.out) | exact HB.out))) : w.heap.size ≤ gb118)); have n7_ := Aside0.mk ((by rw [hg]; exact Nat.ne_of_lt (blk_lt (g := gb114) (o := .cells #[.string a0_0, .int .i64 a0_1, .slice (some ad116) l0_2.length c0_2] 34 (0, 0)) (by (with_reducible repeat (first | refine blk_drewN ?_ _ | refine blk_drew ?_ | refine blk_alloc ?_ _)); exact BK114.out)) : gb114 ≠ gb118)); have n8_ := Aside0.mk ((by rw [hg]; exact Nat.ne_of_gt (blk_lt (g := gb114) (o := .cells #[.string a0_0, .int .i64 a0_1, .slice (some ad116) l0_2.length c0_2] 34 (0, 0)) (by (with_reducible repeat (first | refine blk_drewN ?_ _ | refine blk_drew ?_ | refine blk_alloc ?_ _)); exact BK114.out)) : gb118 ≠ gb114)); have n9_ := Aside0.mk ((by rw [hg]; exact Nat.ne_of_lt (blk_lt (g := gb115) (o := .cells #[.int .i64 a1_0, .string a1_1, .slice A1_2 l1_2.length c1_2] 38 (0, 0)) (by (with_reducible repeat (first | refine blk_drewN ?_ _ | refine blk_drew ?_ | refine blk_alloc ?_ _)); exact BK115.out)) : gb115 ≠ gb118)); have n10_ := Aside0.mk ((by rw [hg]; exact Nat.ne_of_gt (blk_lt (g := gb115) (o := .cells #[.int .i64 a1_0, .string a1_1, .slice A1_2 l1_2.length c1_2] 38 (0, 0)) (by (with_reducible repeat (first | refine blk_drewN ?_ _ | refine blk_drew ?_ | refine blk_alloc ?_ _)); exact BK115.out)) : gb118 ≠ gb115)); have n11_ := Aside0.mk ((by rw [hg]; exact Nat.ne_of_lt (blk_lt (g := gb117) (o := .cells #[.int .i64 ((rd_T106 l0_2 x24_2).f0), .int .i64 ((rd_T106 l0_2 x24_2).f1), .int .i64 ((rd_T106 l0_2 x24_2).f2), .int .i64 ((rd_T106 l0_2 x24_2).f3.f0), .int .i64 ((rd_T106 l0_2 x24_2).f3.f1), .string ((rd_T106 l0_2 x24_2).f3.f2)] 106 (0, 0)) (by (with_reducible repeat (first | refine blk_drewN ?_ _ | refine blk_drew ?_ | refine blk_alloc ?_ _)); exact BK117.out)) : gb117 ≠ gb118)); have n12_ := Aside0.mk ((by rw [hg]; exact Nat.ne_of_gt (blk_lt (g := gb117) (o := .cells #[.int .i64 ((rd_T106 l0_2 x24_2).f0), .int .i64 ((rd_T106 l0_2 x24_2).f1), .int .i64 ((rd_T106 l0_2 x24_2).f2), .int .i64 ((rd_T106 l0_2 x24_2).f3.f0), .int .i64 ((rd_T106 l0_2 x24_2).f3.f1), .string ((rd_T106 l0_2 x24_2).f3.f2)] 106 (0, 0)) (by (with_reducible repeat (first | refine blk_drewN ?_ _ | refine blk_drew ?_ | refine blk_alloc ?_ _)); exact BK117.out)) : gb118 ≠ gb117)); clear BK114; clear BK115; clear BK117; clear HB; have BK114 := n0_; have BK115 := n1_; have BK117 := n2_; have HB := n3_; have BK118 := n4_; have GW118 := n5_; have GE118 := n6_; have NB114_118 := n7_; have NB118_114 := n8_; have NB115_118 := n9_; have NB118_115 := n10_; have NB117_118 := n11_; have NB118_117 := n12_; clear n0_ n1_ n2_ n3_ n4_ n5_ n6_ n7_ n8_ n9_ n10_ n11_ n12_; clear hb hbox hg; have hnb89 := NB118_114.out; have hnc89 := NB114_118.out; have hnb90 := NB118_115.out; have hnc90 := NB115_118.out; have hnb91 := NB118_117.out; have hnc91 := NB117_118.out; have hcz92_0 : w88.cell? ⟨gb118, 0, none⟩ = some (.int .i64 0) := (blk_cell BK118.out 0).trans rfl; have hcz92_1 : w88.cell? ⟨gb118, 1, none⟩ = some (.int .i64 0) := (blk_cell BK118.out 1).trans rfl; have hcz92_2 : w88.cell? ⟨gb118, 2, none⟩ = some (.string (⟨#[]⟩ : ByteArray)) := (blk_cell BK118.out 2).trans rfl; have hfz92_0 := blk_frozen BK118.out 0; have hfz92_1 := blk_frozen BK118.out 1; have hfz92_2 := blk_frozen BK118.out 2; have hcz93_0 : w88.cell? ⟨gb117, 0, none⟩ = some (.int .i64 ((rd_T106 l0_2 x24_2).f0)) := (blk_cell BK117.out 0).trans rfl; have hcz93_1 : w88.cell? ⟨gb117, 1, none⟩ = some (.int .i64 ((rd_T106 l0_2 x24_2).f1)) := (blk_cell BK117.out 1).trans rfl; have hcz93_2 : w88.cell? ⟨gb117, 2, none⟩ = some (.int .i64 ((rd_T106 l0_2 x24_2).f2)) := (blk_cell BK117.out 2).trans rfl; have hcz93_3 : w88.cell? ⟨gb117, 3, none⟩ = some (.int .i64 ((rd_T106 l0_2 x24_2).f3.f0)) := (blk_cell BK117.out 3).trans rfl; have hcz93_4 : w88.cell? ⟨gb117, 4, none⟩ = some (.int .i64 ((rd_T106 l0_2 x24_2).f3.f1)) := (blk_cell BK117.out 4).trans rfl; have hcz93_5 : w88.cell? ⟨gb117, 5, none⟩ = some (.string ((rd_T106 l0_2 x24_2).f3.f2)) := (blk_cell BK117.out 5).trans rfl; have hfz93_0 := blk_frozen BK117.out 0; have hfz93_1 := blk_frozen BK117.out 1; have hfz93_2 := blk_frozen BK117.out 2; have hfz93_3 := blk_frozen BK117.out 3; have hfz93_4 := blk_frozen BK117.out 4; have hfz93_5 := blk_frozen BK117.out 5))
                have n0_ : Aside0 ((((w88.setCell ⟨gb118, 0, none⟩ (.int .i64 ((rd_T106 l0_2 x24_2).f3.f0))).setCell ⟨gb118, 1, none⟩ (.int .i64 ((rd_T106 l0_2 x24_2).f3.f1))).setCell ⟨gb118, 2, none⟩ (.string ((rd_T106 l0_2 x24_2).f3.f2))).heap[gb114]? = some (.cells #[.string a0_0, .int .i64 a0_1, .slice (some ad116) l0_2.length c0_2] 34 (0, 0))) := ⟨by (with_reducible repeat (first | refine blk_drewN ?_ _ | refine blk_drew ?_ | refine blk_alloc ?_ _)); refine blk_far ?_ NB114_118.out _; (with_reducible repeat (first | refine blk_drewN ?_ _ | refine blk_drew ?_ | refine blk_alloc ?_ _)); refine blk_far ?_ NB114_118.out _; (with_reducible repeat (first | refine blk_drewN ?_ _ | refine blk_drew ?_ | refine blk_alloc ?_ _)); refine blk_far ?_ NB114_118.out _; (with_reducible repeat (first | refine blk_drewN ?_ _ | refine blk_drew ?_ | refine blk_alloc ?_ _)); exact BK114.out⟩
                have n1_ : Aside0 ((((w88.setCell ⟨gb118, 0, none⟩ (.int .i64 ((rd_T106 l0_2 x24_2).f3.f0))).setCell ⟨gb118, 1, none⟩ (.int .i64 ((rd_T106 l0_2 x24_2).f3.f1))).setCell ⟨gb118, 2, none⟩ (.string ((rd_T106 l0_2 x24_2).f3.f2))).heap[gb115]? = some (.cells #[.int .i64 a1_0, .string a1_1, .slice A1_2 l1_2.length c1_2] 38 (0, 0))) := ⟨by (with_reducible repeat (first | refine blk_drewN ?_ _ | refine blk_drew ?_ | refine blk_alloc ?_ _)); refine blk_far ?_ NB115_118.out _; (with_reducible repeat (first | refine blk_drewN ?_ _ | refine blk_drew ?_ | refine blk_alloc ?_ _)); refine blk_far ?_ NB115_118.out _; (with_reducible repeat (first | refine blk_drewN ?_ _ | refine blk_drew ?_ | refine blk_alloc ?_ _)); refine blk_far ?_ NB115_118.out _; (with_reducible repeat (first | refine blk_drewN ?_ _ | refine blk_drew ?_ | refine blk_alloc ?_ _)); exact BK115.out⟩
                have n2_ : Aside0 ((((w88.setCell ⟨gb118, 0, none⟩ (.int .i64 ((rd_T106 l0_2 x24_2).f3.f0))).setCell ⟨gb118, 1, none⟩ (.int .i64 ((rd_T106 l0_2 x24_2).f3.f1))).setCell ⟨gb118, 2, none⟩ (.string ((rd_T106 l0_2 x24_2).f3.f2))).heap[gb117]? = some (.cells #[.int .i64 ((rd_T106 l0_2 x24_2).f0), .int .i64 ((rd_T106 l0_2 x24_2).f1), .int .i64 ((rd_T106 l0_2 x24_2).f2), .int .i64 ((rd_T106 l0_2 x24_2).f3.f0), .int .i64 ((rd_T106 l0_2 x24_2).f3.f1), .string ((rd_T106 l0_2 x24_2).f3.f2)] 106 (0, 0))) := ⟨by (with_reducible repeat (first | refine blk_drewN ?_ _ | refine blk_drew ?_ | refine blk_alloc ?_ _)); refine blk_far ?_ NB117_118.out _; (with_reducible repeat (first | refine blk_drewN ?_ _ | refine blk_drew ?_ | refine blk_alloc ?_ _)); refine blk_far ?_ NB117_118.out _; (with_reducible repeat (first | refine blk_drewN ?_ _ | refine blk_drew ?_ | refine blk_alloc ?_ _)); refine blk_far ?_ NB117_118.out _; (with_reducible repeat (first | refine blk_drewN ?_ _ | refine blk_drew ?_ | refine blk_alloc ?_ _)); exact BK117.out⟩
                have n3_ : Aside0 ((((w88.setCell ⟨gb118, 0, none⟩ (.int .i64 ((rd_T106 l0_2 x24_2).f3.f0))).setCell ⟨gb118, 1, none⟩ (.int .i64 ((rd_T106 l0_2 x24_2).f3.f1))).setCell ⟨gb118, 2, none⟩ (.string ((rd_T106 l0_2 x24_2).f3.f2))).heap[gb118]? = some (.cells #[.int .i64 ((rd_T106 l0_2 x24_2).f3.f0), .int .i64 ((rd_T106 l0_2 x24_2).f3.f1), .string ((rd_T106 l0_2 x24_2).f3.f2)] 104 (0, 0))) := ⟨by (with_reducible repeat (first | refine blk_drewN ?_ _ | refine blk_drew ?_ | refine blk_alloc ?_ _)); refine blk_put (cs := #[.int .i64 ((rd_T106 l0_2 x24_2).f3.f0), .int .i64 ((rd_T106 l0_2 x24_2).f3.f1), .string (⟨#[]⟩ : ByteArray)]) ?_ 2 _ rfl; (with_reducible repeat (first | refine blk_drewN ?_ _ | refine blk_drew ?_ | refine blk_alloc ?_ _)); refine blk_put (cs := #[.int .i64 ((rd_T106 l0_2 x24_2).f3.f0), .int .i64 0, .string (⟨#[]⟩ : ByteArray)]) ?_ 1 _ rfl; (with_reducible repeat (first | refine blk_drewN ?_ _ | refine blk_drew ?_ | refine blk_alloc ?_ _)); refine blk_put (cs := #[.int .i64 0, .int .i64 0, .string (⟨#[]⟩ : ByteArray)]) ?_ 0 _ rfl; (with_reducible repeat (first | refine blk_drewN ?_ _ | refine blk_drew ?_ | refine blk_alloc ?_ _)); exact BK118.out⟩
                have n4_ : Aside0 (Below w.heap.size w (((w88.setCell ⟨gb118, 0, none⟩ (.int .i64 ((rd_T106 l0_2 x24_2).f3.f0))).setCell ⟨gb118, 1, none⟩ (.int .i64 ((rd_T106 l0_2 x24_2).f3.f1))).setCell ⟨gb118, 2, none⟩ (.string ((rd_T106 l0_2 x24_2).f3.f2)))) := ⟨by repeat (first | (with_reducible first | exact HB.out | apply below_alloc | apply pw_below_drewN | apply below_drew1 | refine below_set ?_ GE114.out | refine below_set ?_ GE115.out | refine below_set ?_ GE117.out | refine below_set ?_ GE118.out) | exact HB.out)⟩
                (try clear BK114)
                (try clear BK115)
                (try clear BK117)
                (try clear BK118)
                (try clear HB)
                generalize (((w88.setCell ⟨gb118, 0, none⟩ (.int .i64 ((rd_T106 l0_2 x24_2).f3.f0))).setCell ⟨gb118, 1, none⟩ (.int .i64 ((rd_T106 l0_2 x24_2).f3.f1))).setCell ⟨gb118, 2, none⟩ (.string ((rd_T106 l0_2 x24_2).f3.f2))) = w94 at n0_ n1_ n2_ n3_ n4_ ⊢
                have BK114 := n0_
                have BK115 := n1_
                have BK117 := n2_
                have BK118 := n3_
                have HB := n4_
                clear n0_ n1_ n2_ n3_ n4_
                have n0_ := Aside0.mk (blk_drew BK114.out)
                have n1_ := Aside0.mk (blk_drew BK115.out)
                have n2_ := Aside0.mk (blk_drew BK117.out)
                have n3_ := Aside0.mk (blk_drew BK118.out)
                have n4_ := Aside0.mk (below_drew1 HB.out)
                clear BK114
                clear BK115
                clear BK117
                clear BK118
                clear HB
                have BK114 := n0_
                have BK115 := n1_
                have BK117 := n2_
                have BK118 := n3_
                have HB := n4_
                clear n0_ n1_ n2_ n3_ n4_
                have p122 : 0 ≤ (((rd_T106 l0_2 x24_2).f0) : Int) := of_decide_eq_true (by first | (with_reducible assumption) | assumption)
                have q122 : ((rd_T106 l0_2 x24_2).f0) < (l1_2.length : Int) := of_decide_eq_true (by first | (with_reducible assumption) | assumption)
                obtain ⟨ad122, e122, hx122_0, hx122_1, hx122_2⟩ := at_T104 HR1_2.out ((rd_T106 l0_2 x24_2).f0) p122 q122
                have hw122_2 := hx122_2
                have hw122_1 := hx122_1
                have hw122_0 := hx122_0
                cases e122
                replace hx122_0 := (HB.out.cell (World.block_lt_of_cell? w _ hx122_0)).trans hx122_0
                replace hx122_1 := (HB.out.cell (World.block_lt_of_cell? w _ hx122_1)).trans hx122_1
                replace hx122_2 := (HB.out.cell (World.block_lt_of_cell? w _ hx122_2)).trans hx122_2
                replace p122 := eq_true p122
                replace q122 := eq_true q122
                refine start_ (n := 11) (S := fun w' => w'.cell? ⟨gb117, 0, none⟩ = some (.int .i64 ((rd_T106 l0_2 x24_2).f0)) ∧ w'.cell? ⟨gb117, 1, none⟩ = some (.int .i64 ((rd_T106 l0_2 x24_2).f1)) ∧ w'.cell? ⟨gb117, 2, none⟩ = some (.int .i64 ((rd_T106 l0_2 x24_2).f2)) ∧ w'.cell? ⟨gb117, 3, none⟩ = some (.int .i64 ((rd_T106 l0_2 x24_2).f3.f0)) ∧ w'.cell? ⟨gb117, 4, none⟩ = some (.int .i64 ((rd_T106 l0_2 x24_2).f3.f1)) ∧ w'.cell? ⟨gb117, 5, none⟩ = some (.string ((rd_T106 l0_2 x24_2).f3.f2)) ∧ w'.cell? ⟨gb115, 0, none⟩ = some (.int .i64 a1_0) ∧ w'.cell? ⟨gb115, 1, none⟩ = some (.string a1_1) ∧ w'.cell? ⟨gb115, 2, none⟩ = some (.slice (some ad122) l1_2.length c1_2) ∧ w'.cell? ⟨gb118, 0, none⟩ = some (.int .i64 ((rd_T106 l0_2 x24_2).f3.f0)) ∧ w'.cell? ⟨gb118, 1, none⟩ = some (.int .i64 ((rd_T106 l0_2 x24_2).f3.f1)) ∧ w'.cell? ⟨gb118, 2, none⟩ = some (.string ((rd_T106 l0_2 x24_2).f3.f2)) ∧ w'.cell? (ad122.add ((((rd_T106 l0_2 x24_2).f0)).toNat * 3)) = some (.int .i64 ((rd_T104 l1_2 ((rd_T106 l0_2 x24_2).f0)).f0)) ∧ w'.cell? ⟨(ad122.add ((((rd_T106 l0_2 x24_2).f0)).toNat * 3)).block, (ad122.add ((((rd_T106 l0_2 x24_2).f0)).toNat * 3)).off + 1, none⟩ = some (.int .i64 ((rd_T104 l1_2 ((rd_T106 l0_2 x24_2).f0)).f1)) ∧ w'.cell? ⟨(ad122.add ((((rd_T106 l0_2 x24_2).f0)).toNat * 3)).block, (ad122.add ((((rd_T106 l0_2 x24_2).f0)).toNat * 3)).off + 2, none⟩ = some (.string ((rd_T104 l1_2 ((rd_T106 l0_2 x24_2).f0)).f2))) (ds := []) #[false, false, false, false, false, false, false, false, false, false, false] (by kernel_rfl) rfl rfl ⟨(blk_cell BK117.out 0).trans rfl, (blk_cell BK117.out 1).trans rfl, (blk_cell BK117.out 2).trans rfl, (blk_cell BK117.out 3).trans rfl, (blk_cell BK117.out 4).trans rfl, (blk_cell BK117.out 5).trans rfl, (blk_cell BK115.out 0).trans rfl, (blk_cell BK115.out 1).trans rfl, (blk_cell BK115.out 2).trans rfl, (blk_cell BK118.out 0).trans rfl, (blk_cell BK118.out 1).trans rfl, (blk_cell BK118.out 2).trans rfl, ((HB.out.cell (World.block_lt_of_cell? w _ hw122_0)).trans hw122_0), ((HB.out.cell (World.block_lt_of_cell? w _ hw122_1)).trans hw122_1), ((HB.out.cell (World.block_lt_of_cell? w _ hw122_2)).trans hw122_2)⟩ (fun hHeld => ?_); refine with_tabW spec_AlphaPass.tab11 spec_AlphaPass.bits11 (fun HT_ HW_ => ?_)
                generalize w94.drew = w95 at BK114 BK115 BK117 BK118 HB hx122_0 hx122_1 hx122_2 hHeld ⊢
                refine pure_ (i := 0) (N := some 63) (v := ?_) (a' := ?_) #[true, false, false, false, false, false, false, false, false, false, false] rfl rfl (any_of HT_.out (by kernel_rfl)) (fun _ _ _ h => h) (Or.inl ⟨by rfl, ?_⟩) ?_ ?_
                rotate_left
                ·intro w'
                 go_simp
                 with_reducible rfl
                rotate_left
                ·simp only [Act.put, List.setIfInBounds_toArray, List.set_cons_zero, List.set_cons_succ, i64_w, i32_w]
                 rfl
                refine pure_ (i := 2) (N := some 65) (v := ?_) (a' := ?_) #[true, false, true, false, false, false, false, false, false, false, false] rfl rfl (any_of HT_.out (by kernel_rfl)) (fun _ _ _ h => h) (Or.inl ⟨by rfl, ?_⟩) ?_ ?_
                rotate_left
                ·intro w'
                 go_simp
                 with_reducible rfl
                rotate_left
                ·simp only [Act.put, List.setIfInBounds_toArray, List.set_cons_zero, List.set_cons_succ, i64_w, i32_w]
                 rfl
                refine pure_ (i := 4) (N := some 67) (v := ?_) (a' := ?_) #[true, false, true, false, true, false, false, false, false, false, false] rfl rfl (any_of HT_.out (by kernel_rfl)) (fun _ _ _ h => h) (Or.inl ⟨by rfl, ?_⟩) ?_ ?_
                rotate_left
                ·intro w'
                 go_simp
                 with_reducible rfl
                rotate_left
                ·simp only [Act.put, List.setIfInBounds_toArray, List.set_cons_zero, List.set_cons_succ, i64_w, i32_w]
                 rfl
                refine take_ (i := 1) (N := some 64) (v := ?_) (a' := ?_) #[true, true, true, false, true, false, false, false, false, false, false] rfl rfl (take_ofW HT_.out HW_.out (by kernel_rfl)) (fun _ _ _ h => h) (Or.inl ⟨by rfl, ?_⟩) hHeld ?_ ?_
                rotate_left
                ·rintro w' ⟨s0, s1, s2, s3, s4, s5, s6, s7, s8, s9, s10, s11, s12, s13, s14⟩
                 go_simp
                 with_reducible rfl
                rotate_left
                ·simp only [Act.put, List.setIfInBounds_toArray, List.set_cons_zero, List.set_cons_succ, i64_w, i32_w]
                 rfl
                refine take_ (i := 3) (N := some 66) (v := ?_) (a' := ?_) #[true, true, true, true, true, false, false, false, false, false, false] rfl rfl (take_ofW HT_.out HW_.out (by kernel_rfl)) (fun _ _ _ h => h) (Or.inl ⟨by rfl, ?_⟩) hHeld ?_ ?_
                rotate_left
                ·rintro w' ⟨s0, s1, s2, s3, s4, s5, s6, s7, s8, s9, s10, s11, s12, s13, s14⟩
                 go_simp
                 with_reducible rfl
                rotate_left
                ·simp only [Act.put, List.setIfInBounds_toArray, List.set_cons_zero, List.set_cons_succ, i64_w, i32_w]
                 rfl
                refine take_ (i := 5) (N := some 68) (v := ?_) (a' := ?_) #[true, true, true, true, true, true, false, false, false, false, false] rfl rfl (take_ofW HT_.out HW_.out (by kernel_rfl)) (fun _ _ _ h => h) (Or.inl ⟨by rfl, ?_⟩) hHeld ?_ ?_
                rotate_left
                ·rintro w' ⟨s0, s1, s2, s3, s4, s5, s6, s7, s8, s9, s10, s11, s12, s13, s14⟩
                 go_simp
                 with_reducible rfl
                rotate_left
                ·simp only [Act.put, List.setIfInBounds_toArray, List.set_cons_zero, List.set_cons_succ, i64_w, i32_w]
                 rfl
                refine pure_ (i := 6) (N := some 69) (v := ?_) (a' := ?_) #[true, true, true, true, true, true, true, false, false, false, false] rfl rfl (any_of HT_.out (by kernel_rfl)) (fun _ _ _ h => h) (Or.inl ⟨by rfl, ?_⟩) ?_ ?_
                rotate_left
                ·intro w'
                 go_simp
                 with_reducible rfl
                rotate_left
                ·simp only [Act.put, List.setIfInBounds_toArray, List.set_cons_zero, List.set_cons_succ, i64_w, i32_w]
                 rfl
                refine take_ (i := 7) (N := some 70) (v := ?_) (a' := ?_) #[true, true, true, true, true, true, true, true, false, false, false] rfl rfl (take_ofW HT_.out HW_.out (by kernel_rfl)) (fun _ _ _ h => h) (Or.inl ⟨by rfl, ?_⟩) hHeld ?_ ?_
                rotate_left
                ·rintro w' ⟨s0, s1, s2, s3, s4, s5, s6, s7, s8, s9, s10, s11, s12, s13, s14⟩
                 go_simp
                 with_reducible rfl
                rotate_left
                ·simp only [Act.put, List.setIfInBounds_toArray, List.set_cons_zero, List.set_cons_succ, i64_w, i32_w]
                 rfl
                refine take_ (i := 8) (N := some 71) (v := ?_) (a' := ?_) #[true, true, true, true, true, true, true, true, true, false, false] rfl rfl (take_ofW HT_.out HW_.out (by kernel_rfl)) (fun _ _ _ h => h) (Or.inl ⟨by rfl, ?_⟩) hHeld ?_ ?_
                rotate_left
                ·rintro w' ⟨s0, s1, s2, s3, s4, s5, s6, s7, s8, s9, s10, s11, s12, s13, s14⟩
                 go_simp
                 with_reducible rfl
                rotate_left
                ·simp only [Act.put, List.setIfInBounds_toArray, List.set_cons_zero, List.set_cons_succ, i64_w, i32_w]
                 rfl
                refine one_ (i := 9) (N := some 72) #[true, true, true, true, true, true, true, true, true, true, false] rfl rfl (one_of HT_.out (by kernel_rfl)) (by decide) (fun K hK => ?_)
                refine goes_ Try.func58 (by kernel_rfl) rfl #[.int .i64 ((rd_T106 l0_2 x24_2).f1), .agg #[.int .i64 ((rd_T104 l1_2 ((rd_T106 l0_2 x24_2).f0)).f0), .int .i64 ((rd_T104 l1_2 ((rd_T106 l0_2 x24_2).f0)).f1), .string ((rd_T104 l1_2 ((rd_T106 l0_2 x24_2).f0)).f2)], .agg #[.int .i64 ((rd_T106 l0_2 x24_2).f3.f0), .int .i64 ((rd_T106 l0_2 x24_2).f3.f1), .string ((rd_T106 l0_2 x24_2).f3.f2)]] (by rfl) rfl rfl (by (try simp only [List.map_toArray, List.map_cons, List.map_nil]); first | done | rfl | (simp only [List.length_drop, List.length_take]; rfl)) ?_
                with_reducible refine (spec_l3Holds.calls kj18 ((rd_T106 l0_2 x24_2).f1) ((rd_T104 l1_2 ((rd_T106 l0_2 x24_2).f0)).f0) ((rd_T104 l1_2 ((rd_T106 l0_2 x24_2).f0)).f1) ((rd_T104 l1_2 ((rd_T106 l0_2 x24_2).f0)).f2) ((rd_T106 l0_2 x24_2).f3.f0) ((rd_T106 l0_2 x24_2).f3.f1) ((rd_T106 l0_2 x24_2).f3.f2) true _ A83.out).mono ?_
                rintro e w96 ⟨rfl, hb⟩
                refine ⟨_, rfl, ?_⟩
                have n0_ := Aside0.mk (blk_below (g := gb114) (o := .cells #[.string a0_0, .int .i64 a0_1, .slice (some ad116) l0_2.length c0_2] 34 (0, 0)) (by (with_reducible repeat (first | refine blk_drewN ?_ _ | refine blk_drew ?_ | refine blk_alloc ?_ _)); exact BK114.out) hb)
                have n1_ := Aside0.mk (blk_below (g := gb115) (o := .cells #[.int .i64 a1_0, .string a1_1, .slice (some ad122) l1_2.length c1_2] 38 (0, 0)) (by (with_reducible repeat (first | refine blk_drewN ?_ _ | refine blk_drew ?_ | refine blk_alloc ?_ _)); exact BK115.out) hb)
                have n2_ := Aside0.mk (blk_below (g := gb117) (o := .cells #[.int .i64 ((rd_T106 l0_2 x24_2).f0), .int .i64 ((rd_T106 l0_2 x24_2).f1), .int .i64 ((rd_T106 l0_2 x24_2).f2), .int .i64 ((rd_T106 l0_2 x24_2).f3.f0), .int .i64 ((rd_T106 l0_2 x24_2).f3.f1), .string ((rd_T106 l0_2 x24_2).f3.f2)] 106 (0, 0)) (by (with_reducible repeat (first | refine blk_drewN ?_ _ | refine blk_drew ?_ | refine blk_alloc ?_ _)); exact BK117.out) hb)
                have n3_ := Aside0.mk (blk_below (g := gb118) (o := .cells #[.int .i64 ((rd_T106 l0_2 x24_2).f3.f0), .int .i64 ((rd_T106 l0_2 x24_2).f3.f1), .string ((rd_T106 l0_2 x24_2).f3.f2)] 104 (0, 0)) (by (with_reducible repeat (first | refine blk_drewN ?_ _ | refine blk_drew ?_ | refine blk_alloc ?_ _)); exact BK118.out) hb)
                have n4_ := Aside0.mk (below_step (by repeat (first | (with_reducible first | exact HB.out | apply below_alloc | apply pw_below_drewN | apply below_drew1 | refine below_set ?_ GE114.out | refine below_set ?_ GE115.out | refine below_set ?_ GE117.out | refine below_set ?_ GE118.out) | exact HB.out)) hb)
                clear BK114
                clear BK115
                clear BK117
                clear BK118
                clear HB
                have BK114 := n0_
                have BK115 := n1_
                have BK117 := n2_
                have BK118 := n3_
                have HB := n4_
                clear n0_ n1_ n2_ n3_ n4_
                (try clear hb)
                (try clear hb2)
                (try clear hk)
                (try clear hi)
                refine hK.out _ _ ⟨(blk_cell BK117.out 0).trans rfl, (blk_cell BK117.out 1).trans rfl, (blk_cell BK117.out 2).trans rfl, (blk_cell BK117.out 3).trans rfl, (blk_cell BK117.out 4).trans rfl, (blk_cell BK117.out 5).trans rfl, (blk_cell BK115.out 0).trans rfl, (blk_cell BK115.out 1).trans rfl, (blk_cell BK115.out 2).trans rfl, (blk_cell BK118.out 0).trans rfl, (blk_cell BK118.out 1).trans rfl, (blk_cell BK118.out 2).trans rfl, ((HB.out.cell (World.block_lt_of_cell? w _ hw122_0)).trans hw122_0), ((HB.out.cell (World.block_lt_of_cell? w _ hw122_1)).trans hw122_1), ((HB.out.cell (World.block_lt_of_cell? w _ hw122_2)).trans hw122_2)⟩ (fun hHeld => ?_)
                clear hK K
                refine norm_ (a' := ?_) ?_ ?_
                rotate_left
                ·show Act.put _ (some 72) _ = _
                 simp only [Act.put, List.setIfInBounds_toArray, List.set_cons_zero, List.set_cons_succ, i64_w, i32_w]
                 rfl
                refine pure_ (i := 10) (N := some 73) (v := ?_) (a' := ?_) #[true, true, true, true, true, true, true, true, true, true, true] rfl rfl (any_of HT_.out (by kernel_rfl)) (fun _ _ _ h => h) (Or.inl ⟨by rfl, ?_⟩) ?_ ?_
                rotate_left
                ·intro w'
                 go_simp
                 with_reducible rfl
                rotate_left
                ·simp only [Act.put, List.setIfInBounds_toArray, List.set_cons_zero, List.set_cons_succ, i64_w, i32_w]
                 rfl
                refine done_ (done_of HT_.out (by kernel_rfl)) ?_
                try go_wp2
                go_roundg kj18
                case measure => have := HJ2.out; have := HK2.out; have := HJ18.out; omega
                case rel => exact ⟨(wrap64 (x24_2 + 1)), (by first | rfl | (simp; done) | (simp [*]; done)), H', ⟨by have := HJ2.out; have := HK2.out; have := HJ18.out; omega⟩, ⟨by (with_reducible repeat (first | refine blk_drewN ?_ _ | refine blk_drew ?_ | refine blk_alloc ?_ _)); exact BK114.out⟩, ⟨by (with_reducible repeat (first | refine blk_drewN ?_ _ | refine blk_drew ?_ | refine blk_alloc ?_ _)); exact BK115.out⟩, ⟨by repeat (first | (with_reducible first | exact HB.out | apply below_alloc | apply pw_below_drewN | apply below_drew1 | refine below_set ?_ GE114.out | refine below_set ?_ GE115.out | refine below_set ?_ GE117.out | refine below_set ?_ GE118.out) | exact HB.out)⟩⟩
               ·replace c84 := Bool.eq_false_iff.mpr c84
                subst c84
                have H1 : (some false) = some r := by first | (rw [if_neg (show ¬ (false = true) by decide)] at H; exact H) | rfl
                clear H
                have H := H1
                clear H1
                obtain rfl := Option.some.inj H
                have hnb97 := NB117_114.out
                have hnc97 := NB114_117.out
                have hnb98 := NB117_115.out
                have hnc98 := NB115_117.out
                have hcz99_0 : wc.cell? ⟨gb117, 0, none⟩ = some (.int .i64 ((rd_T106 l0_2 x24_2).f0)) := (blk_cell BK117.out 0).trans rfl
                have hcz99_1 : wc.cell? ⟨gb117, 1, none⟩ = some (.int .i64 ((rd_T106 l0_2 x24_2).f1)) := (blk_cell BK117.out 1).trans rfl
                have hcz99_2 : wc.cell? ⟨gb117, 2, none⟩ = some (.int .i64 ((rd_T106 l0_2 x24_2).f2)) := (blk_cell BK117.out 2).trans rfl
                have hcz99_3 : wc.cell? ⟨gb117, 3, none⟩ = some (.int .i64 ((rd_T106 l0_2 x24_2).f3.f0)) := (blk_cell BK117.out 3).trans rfl
                have hcz99_4 : wc.cell? ⟨gb117, 4, none⟩ = some (.int .i64 ((rd_T106 l0_2 x24_2).f3.f1)) := (blk_cell BK117.out 4).trans rfl
                have hcz99_5 : wc.cell? ⟨gb117, 5, none⟩ = some (.string ((rd_T106 l0_2 x24_2).f3.f2)) := (blk_cell BK117.out 5).trans rfl
                have hfz99_0 := blk_frozen BK117.out 0
                have hfz99_1 := blk_frozen BK117.out 1
                have hfz99_2 := blk_frozen BK117.out 2
                have hfz99_3 := blk_frozen BK117.out 3
                have hfz99_4 := blk_frozen BK117.out 4
                have hfz99_5 := blk_frozen BK117.out 5
                try go_wp2_with (first | ((with_reducible refine gate_dst (N := 7) rfl ?_); (try (refine gate_guard (by rfl) ?_; dsimp only)); refine box_event ?hg (N := 7) ?hd (cs := #[.int .i64 0, .int .i64 0, .string (⟨#[]⟩ : ByteArray)]) (t := 104) ?hr ?_; (case hd => rfl); (case hg => rfl); (case hr => first | (go_simp; done) | (go_simp; rfl)); intro gb118 hg w100 hbox hb; have n0_ := Aside0.mk (blk_below (g := gb114) (o := .cells #[.string a0_0, .int .i64 a0_1, .slice (some ad116) l0_2.length c0_2] 34 (0, 0)) (by (with_reducible repeat (first | refine blk_drewN ?_ _ | refine blk_drew ?_ | refine blk_alloc ?_ _)); exact BK114.out) hb); have n1_ := Aside0.mk (blk_below (g := gb115) (o := .cells #[.int .i64 a1_0, .string a1_1, .slice A1_2 l1_2.length c1_2] 38 (0, 0)) (by (with_reducible repeat (first | refine blk_drewN ?_ _ | refine blk_drew ?_ | refine blk_alloc ?_ _)); exact BK115.out) hb); have n2_ := Aside0.mk (blk_below (g := gb117) (o := .cells #[.int .i64 ((rd_T106 l0_2 x24_2).f0), .int .i64 ((rd_T106 l0_2 x24_2).f1), .int .i64 ((rd_T106 l0_2 x24_2).f2), .int .i64 ((rd_T106 l0_2 x24_2).f3.f0), .int .i64 ((rd_T106 l0_2 x24_2).f3.f1), .string ((rd_T106 l0_2 x24_2).f3.f2)] 106 (0, 0)) (by (with_reducible repeat (first | refine blk_drewN ?_ _ | refine blk_drew ?_ | refine blk_alloc ?_ _)); exact BK117.out) hb); have n3_ := Aside0.mk (below_step (by repeat (first | (with_reducible first | exact HB.out | apply below_alloc | apply pw_below_drewN | apply below_drew1 | refine below_set ?_ GE114.out | refine below_set ?_ GE115.out | refine below_set ?_ GE117.out) | exact HB.out)) hb); have n4_ := Aside0.mk (hbox); have n5_ := Aside0.mk ((by rw [hg]; exact (below_size (by repeat (first | (with_reducible first | exact HB.out | apply below_alloc | apply pw_below_drewN | apply below_drew1 | refine below_set ?_ GE114.out | refine below_set ?_ GE115.out | refine below_set ?_ GE117.out) | exact HB.out))) : w.heap.size ≤ gb118)); have n6_ := Aside0.mk ((by rw [hg]; exact (below_size (by repeat (first | (with_reducible first | exact HB.out | apply below_alloc | apply pw_below_drewN | apply below_drew1 | refine below_set ?_ GE114.out | refine below_set ?_ GE115.out | refine below_set ?_ GE117.out) | exact HB.out))) : w.heap.size ≤ gb118)); have n7_ := Aside0.mk ((by rw [hg]; exact Nat.ne_of_lt (blk_lt (g := gb114) (o := .cells #[.string a0_0, .int .i64 a0_1, .slice (some ad116) l0_2.length c0_2] 34 (0, 0)) (by (with_reducible repeat (first | refine blk_drewN ?_ _ | refine blk_drew ?_ | refine blk_alloc ?_ _)); exact BK114.out)) : gb114 ≠ gb118)); have n8_ := Aside0.mk ((by rw [hg]; exact Nat.ne_of_gt (blk_lt (g := gb114) (o := .cells #[.string a0_0, .int .i64 a0_1, .slice (some ad116) l0_2.length c0_2] 34 (0, 0)) (by (with_reducible repeat (first | refine blk_drewN ?_ _ | refine blk_drew ?_ | refine blk_alloc ?_ _)); exact BK114.out)) : gb118 ≠ gb114)); have n9_ := Aside0.mk ((by rw [hg]; exact Nat.ne_of_lt (blk_lt (g := gb115) (o := .cells #[.int .i64 a1_0, .string a1_1, .slice A1_2 l1_2.length c1_2] 38 (0, 0)) (by (with_reducible repeat (first | refine blk_drewN ?_ _ | refine blk_drew ?_ | refine blk_alloc ?_ _)); exact BK115.out)) : gb115 ≠ gb118)); have n10_ := Aside0.mk ((by rw [hg]; exact Nat.ne_of_gt (blk_lt (g := gb115) (o := .cells #[.int .i64 a1_0, .string a1_1, .slice A1_2 l1_2.length c1_2] 38 (0, 0)) (by (with_reducible repeat (first | refine blk_drewN ?_ _ | refine blk_drew ?_ | refine blk_alloc ?_ _)); exact BK115.out)) : gb118 ≠ gb115)); have n11_ := Aside0.mk ((by rw [hg]; exact Nat.ne_of_lt (blk_lt (g := gb117) (o := .cells #[.int .i64 ((rd_T106 l0_2 x24_2).f0), .int .i64 ((rd_T106 l0_2 x24_2).f1), .int .i64 ((rd_T106 l0_2 x24_2).f2), .int .i64 ((rd_T106 l0_2 x24_2).f3.f0), .int .i64 ((rd_T106 l0_2 x24_2).f3.f1), .string ((rd_T106 l0_2 x24_2).f3.f2)] 106 (0, 0)) (by (with_reducible repeat (first | refine blk_drewN ?_ _ | refine blk_drew ?_ | refine blk_alloc ?_ _)); exact BK117.out)) : gb117 ≠ gb118)); have n12_ := Aside0.mk ((by rw [hg]; exact Nat.ne_of_gt (blk_lt (g := gb117) (o := .cells #[.int .i64 ((rd_T106 l0_2 x24_2).f0), .int .i64 ((rd_T106 l0_2 x24_2).f1), .int .i64 ((rd_T106 l0_2 x24_2).f2), .int .i64 ((rd_T106 l0_2 x24_2).f3.f0), .int .i64 ((rd_T106 l0_2 x24_2).f3.f1), .string ((rd_T106 l0_2 x24_2).f3.f2)] 106 (0, 0)) (by (with_reducible repeat (first | refine blk_drewN ?_ _ | refine blk_drew ?_ | refine blk_alloc ?_ _)); exact BK117.out)) : gb118 ≠ gb117)); clear BK114; clear BK115; clear BK117; clear HB; have BK114 := n0_; have BK115 := n1_; have BK117 := n2_; have HB := n3_; have BK118 := n4_; have GW118 := n5_; have GE118 := n6_; have NB114_118 := n7_; have NB118_114 := n8_; have NB115_118 := n9_; have NB118_115 := n10_; have NB117_118 := n11_; have NB118_117 := n12_; clear n0_ n1_ n2_ n3_ n4_ n5_ n6_ n7_ n8_ n9_ n10_ n11_ n12_; clear hb hbox hg; have hnb101 := NB118_114.out; have hnc101 := NB114_118.out; have hnb102 := NB118_115.out; have hnc102 := NB115_118.out; have hnb103 := NB118_117.out; have hnc103 := NB117_118.out; have hcz104_0 : w100.cell? ⟨gb118, 0, none⟩ = some (.int .i64 0) := (blk_cell BK118.out 0).trans rfl; have hcz104_1 : w100.cell? ⟨gb118, 1, none⟩ = some (.int .i64 0) := (blk_cell BK118.out 1).trans rfl; have hcz104_2 : w100.cell? ⟨gb118, 2, none⟩ = some (.string (⟨#[]⟩ : ByteArray)) := (blk_cell BK118.out 2).trans rfl; have hfz104_0 := blk_frozen BK118.out 0; have hfz104_1 := blk_frozen BK118.out 1; have hfz104_2 := blk_frozen BK118.out 2; have hcz105_0 : w100.cell? ⟨gb117, 0, none⟩ = some (.int .i64 ((rd_T106 l0_2 x24_2).f0)) := (blk_cell BK117.out 0).trans rfl; have hcz105_1 : w100.cell? ⟨gb117, 1, none⟩ = some (.int .i64 ((rd_T106 l0_2 x24_2).f1)) := (blk_cell BK117.out 1).trans rfl; have hcz105_2 : w100.cell? ⟨gb117, 2, none⟩ = some (.int .i64 ((rd_T106 l0_2 x24_2).f2)) := (blk_cell BK117.out 2).trans rfl; have hcz105_3 : w100.cell? ⟨gb117, 3, none⟩ = some (.int .i64 ((rd_T106 l0_2 x24_2).f3.f0)) := (blk_cell BK117.out 3).trans rfl; have hcz105_4 : w100.cell? ⟨gb117, 4, none⟩ = some (.int .i64 ((rd_T106 l0_2 x24_2).f3.f1)) := (blk_cell BK117.out 4).trans rfl; have hcz105_5 : w100.cell? ⟨gb117, 5, none⟩ = some (.string ((rd_T106 l0_2 x24_2).f3.f2)) := (blk_cell BK117.out 5).trans rfl; have hfz105_0 := blk_frozen BK117.out 0; have hfz105_1 := blk_frozen BK117.out 1; have hfz105_2 := blk_frozen BK117.out 2; have hfz105_3 := blk_frozen BK117.out 3; have hfz105_4 := blk_frozen BK117.out 4; have hfz105_5 := blk_frozen BK117.out 5))
                have n0_ : Aside0 ((((w100.setCell ⟨gb118, 0, none⟩ (.int .i64 ((rd_T106 l0_2 x24_2).f3.f0))).setCell ⟨gb118, 1, none⟩ (.int .i64 ((rd_T106 l0_2 x24_2).f3.f1))).setCell ⟨gb118, 2, none⟩ (.string ((rd_T106 l0_2 x24_2).f3.f2))).heap[gb114]? = some (.cells #[.string a0_0, .int .i64 a0_1, .slice (some ad116) l0_2.length c0_2] 34 (0, 0))) := ⟨by (with_reducible repeat (first | refine blk_drewN ?_ _ | refine blk_drew ?_ | refine blk_alloc ?_ _)); refine blk_far ?_ NB114_118.out _; (with_reducible repeat (first | refine blk_drewN ?_ _ | refine blk_drew ?_ | refine blk_alloc ?_ _)); refine blk_far ?_ NB114_118.out _; (with_reducible repeat (first | refine blk_drewN ?_ _ | refine blk_drew ?_ | refine blk_alloc ?_ _)); refine blk_far ?_ NB114_118.out _; (with_reducible repeat (first | refine blk_drewN ?_ _ | refine blk_drew ?_ | refine blk_alloc ?_ _)); exact BK114.out⟩
                have n1_ : Aside0 ((((w100.setCell ⟨gb118, 0, none⟩ (.int .i64 ((rd_T106 l0_2 x24_2).f3.f0))).setCell ⟨gb118, 1, none⟩ (.int .i64 ((rd_T106 l0_2 x24_2).f3.f1))).setCell ⟨gb118, 2, none⟩ (.string ((rd_T106 l0_2 x24_2).f3.f2))).heap[gb115]? = some (.cells #[.int .i64 a1_0, .string a1_1, .slice A1_2 l1_2.length c1_2] 38 (0, 0))) := ⟨by (with_reducible repeat (first | refine blk_drewN ?_ _ | refine blk_drew ?_ | refine blk_alloc ?_ _)); refine blk_far ?_ NB115_118.out _; (with_reducible repeat (first | refine blk_drewN ?_ _ | refine blk_drew ?_ | refine blk_alloc ?_ _)); refine blk_far ?_ NB115_118.out _; (with_reducible repeat (first | refine blk_drewN ?_ _ | refine blk_drew ?_ | refine blk_alloc ?_ _)); refine blk_far ?_ NB115_118.out _; (with_reducible repeat (first | refine blk_drewN ?_ _ | refine blk_drew ?_ | refine blk_alloc ?_ _)); exact BK115.out⟩
                have n2_ : Aside0 ((((w100.setCell ⟨gb118, 0, none⟩ (.int .i64 ((rd_T106 l0_2 x24_2).f3.f0))).setCell ⟨gb118, 1, none⟩ (.int .i64 ((rd_T106 l0_2 x24_2).f3.f1))).setCell ⟨gb118, 2, none⟩ (.string ((rd_T106 l0_2 x24_2).f3.f2))).heap[gb117]? = some (.cells #[.int .i64 ((rd_T106 l0_2 x24_2).f0), .int .i64 ((rd_T106 l0_2 x24_2).f1), .int .i64 ((rd_T106 l0_2 x24_2).f2), .int .i64 ((rd_T106 l0_2 x24_2).f3.f0), .int .i64 ((rd_T106 l0_2 x24_2).f3.f1), .string ((rd_T106 l0_2 x24_2).f3.f2)] 106 (0, 0))) := ⟨by (with_reducible repeat (first | refine blk_drewN ?_ _ | refine blk_drew ?_ | refine blk_alloc ?_ _)); refine blk_far ?_ NB117_118.out _; (with_reducible repeat (first | refine blk_drewN ?_ _ | refine blk_drew ?_ | refine blk_alloc ?_ _)); refine blk_far ?_ NB117_118.out _; (with_reducible repeat (first | refine blk_drewN ?_ _ | refine blk_drew ?_ | refine blk_alloc ?_ _)); refine blk_far ?_ NB117_118.out _; (with_reducible repeat (first | refine blk_drewN ?_ _ | refine blk_drew ?_ | refine blk_alloc ?_ _)); exact BK117.out⟩
                have n3_ : Aside0 ((((w100.setCell ⟨gb118, 0, none⟩ (.int .i64 ((rd_T106 l0_2 x24_2).f3.f0))).setCell ⟨gb118, 1, none⟩ (.int .i64 ((rd_T106 l0_2 x24_2).f3.f1))).setCell ⟨gb118, 2, none⟩ (.string ((rd_T106 l0_2 x24_2).f3.f2))).heap[gb118]? = some (.cells #[.int .i64 ((rd_T106 l0_2 x24_2).f3.f0), .int .i64 ((rd_T106 l0_2 x24_2).f3.f1), .string ((rd_T106 l0_2 x24_2).f3.f2)] 104 (0, 0))) := ⟨by (with_reducible repeat (first | refine blk_drewN ?_ _ | refine blk_drew ?_ | refine blk_alloc ?_ _)); refine blk_put (cs := #[.int .i64 ((rd_T106 l0_2 x24_2).f3.f0), .int .i64 ((rd_T106 l0_2 x24_2).f3.f1), .string (⟨#[]⟩ : ByteArray)]) ?_ 2 _ rfl; (with_reducible repeat (first | refine blk_drewN ?_ _ | refine blk_drew ?_ | refine blk_alloc ?_ _)); refine blk_put (cs := #[.int .i64 ((rd_T106 l0_2 x24_2).f3.f0), .int .i64 0, .string (⟨#[]⟩ : ByteArray)]) ?_ 1 _ rfl; (with_reducible repeat (first | refine blk_drewN ?_ _ | refine blk_drew ?_ | refine blk_alloc ?_ _)); refine blk_put (cs := #[.int .i64 0, .int .i64 0, .string (⟨#[]⟩ : ByteArray)]) ?_ 0 _ rfl; (with_reducible repeat (first | refine blk_drewN ?_ _ | refine blk_drew ?_ | refine blk_alloc ?_ _)); exact BK118.out⟩
                have n4_ : Aside0 (Below w.heap.size w (((w100.setCell ⟨gb118, 0, none⟩ (.int .i64 ((rd_T106 l0_2 x24_2).f3.f0))).setCell ⟨gb118, 1, none⟩ (.int .i64 ((rd_T106 l0_2 x24_2).f3.f1))).setCell ⟨gb118, 2, none⟩ (.string ((rd_T106 l0_2 x24_2).f3.f2)))) := ⟨by repeat (first | (with_reducible first | exact HB.out | apply below_alloc | apply pw_below_drewN | apply below_drew1 | refine below_set ?_ GE114.out | refine below_set ?_ GE115.out | refine below_set ?_ GE117.out | refine below_set ?_ GE118.out) | exact HB.out)⟩
                (try clear BK114)
                (try clear BK115)
                (try clear BK117)
                (try clear BK118)
                (try clear HB)
                generalize (((w100.setCell ⟨gb118, 0, none⟩ (.int .i64 ((rd_T106 l0_2 x24_2).f3.f0))).setCell ⟨gb118, 1, none⟩ (.int .i64 ((rd_T106 l0_2 x24_2).f3.f1))).setCell ⟨gb118, 2, none⟩ (.string ((rd_T106 l0_2 x24_2).f3.f2))) = w106 at n0_ n1_ n2_ n3_ n4_ ⊢
                have BK114 := n0_
                have BK115 := n1_
                have BK117 := n2_
                have BK118 := n3_
                have HB := n4_
                clear n0_ n1_ n2_ n3_ n4_
                have n0_ := Aside0.mk (blk_drew BK114.out)
                have n1_ := Aside0.mk (blk_drew BK115.out)
                have n2_ := Aside0.mk (blk_drew BK117.out)
                have n3_ := Aside0.mk (blk_drew BK118.out)
                have n4_ := Aside0.mk (below_drew1 HB.out)
                clear BK114
                clear BK115
                clear BK117
                clear BK118
                clear HB
                have BK114 := n0_
                have BK115 := n1_
                have BK117 := n2_
                have BK118 := n3_
                have HB := n4_
                clear n0_ n1_ n2_ n3_ n4_
                have p122 : 0 ≤ (((rd_T106 l0_2 x24_2).f0) : Int) := of_decide_eq_true (by first | (with_reducible assumption) | assumption)
                have q122 : ((rd_T106 l0_2 x24_2).f0) < (l1_2.length : Int) := of_decide_eq_true (by first | (with_reducible assumption) | assumption)
                obtain ⟨ad122, e122, hx122_0, hx122_1, hx122_2⟩ := at_T104 HR1_2.out ((rd_T106 l0_2 x24_2).f0) p122 q122
                have hw122_2 := hx122_2
                have hw122_1 := hx122_1
                have hw122_0 := hx122_0
                cases e122
                replace hx122_0 := (HB.out.cell (World.block_lt_of_cell? w _ hx122_0)).trans hx122_0
                replace hx122_1 := (HB.out.cell (World.block_lt_of_cell? w _ hx122_1)).trans hx122_1
                replace hx122_2 := (HB.out.cell (World.block_lt_of_cell? w _ hx122_2)).trans hx122_2
                replace p122 := eq_true p122
                replace q122 := eq_true q122
                refine start_ (n := 11) (S := fun w' => w'.cell? ⟨gb117, 0, none⟩ = some (.int .i64 ((rd_T106 l0_2 x24_2).f0)) ∧ w'.cell? ⟨gb117, 1, none⟩ = some (.int .i64 ((rd_T106 l0_2 x24_2).f1)) ∧ w'.cell? ⟨gb117, 2, none⟩ = some (.int .i64 ((rd_T106 l0_2 x24_2).f2)) ∧ w'.cell? ⟨gb117, 3, none⟩ = some (.int .i64 ((rd_T106 l0_2 x24_2).f3.f0)) ∧ w'.cell? ⟨gb117, 4, none⟩ = some (.int .i64 ((rd_T106 l0_2 x24_2).f3.f1)) ∧ w'.cell? ⟨gb117, 5, none⟩ = some (.string ((rd_T106 l0_2 x24_2).f3.f2)) ∧ w'.cell? ⟨gb115, 0, none⟩ = some (.int .i64 a1_0) ∧ w'.cell? ⟨gb115, 1, none⟩ = some (.string a1_1) ∧ w'.cell? ⟨gb115, 2, none⟩ = some (.slice (some ad122) l1_2.length c1_2) ∧ w'.cell? ⟨gb118, 0, none⟩ = some (.int .i64 ((rd_T106 l0_2 x24_2).f3.f0)) ∧ w'.cell? ⟨gb118, 1, none⟩ = some (.int .i64 ((rd_T106 l0_2 x24_2).f3.f1)) ∧ w'.cell? ⟨gb118, 2, none⟩ = some (.string ((rd_T106 l0_2 x24_2).f3.f2)) ∧ w'.cell? (ad122.add ((((rd_T106 l0_2 x24_2).f0)).toNat * 3)) = some (.int .i64 ((rd_T104 l1_2 ((rd_T106 l0_2 x24_2).f0)).f0)) ∧ w'.cell? ⟨(ad122.add ((((rd_T106 l0_2 x24_2).f0)).toNat * 3)).block, (ad122.add ((((rd_T106 l0_2 x24_2).f0)).toNat * 3)).off + 1, none⟩ = some (.int .i64 ((rd_T104 l1_2 ((rd_T106 l0_2 x24_2).f0)).f1)) ∧ w'.cell? ⟨(ad122.add ((((rd_T106 l0_2 x24_2).f0)).toNat * 3)).block, (ad122.add ((((rd_T106 l0_2 x24_2).f0)).toNat * 3)).off + 2, none⟩ = some (.string ((rd_T104 l1_2 ((rd_T106 l0_2 x24_2).f0)).f2))) (ds := []) #[false, false, false, false, false, false, false, false, false, false, false] (by kernel_rfl) rfl rfl ⟨(blk_cell BK117.out 0).trans rfl, (blk_cell BK117.out 1).trans rfl, (blk_cell BK117.out 2).trans rfl, (blk_cell BK117.out 3).trans rfl, (blk_cell BK117.out 4).trans rfl, (blk_cell BK117.out 5).trans rfl, (blk_cell BK115.out 0).trans rfl, (blk_cell BK115.out 1).trans rfl, (blk_cell BK115.out 2).trans rfl, (blk_cell BK118.out 0).trans rfl, (blk_cell BK118.out 1).trans rfl, (blk_cell BK118.out 2).trans rfl, ((HB.out.cell (World.block_lt_of_cell? w _ hw122_0)).trans hw122_0), ((HB.out.cell (World.block_lt_of_cell? w _ hw122_1)).trans hw122_1), ((HB.out.cell (World.block_lt_of_cell? w _ hw122_2)).trans hw122_2)⟩ (fun hHeld => ?_); refine with_tabW spec_AlphaPass.tab11 spec_AlphaPass.bits11 (fun HT_ HW_ => ?_)
                generalize w106.drew = w107 at BK114 BK115 BK117 BK118 HB hx122_0 hx122_1 hx122_2 hHeld ⊢
                refine pure_ (i := 0) (N := some 63) (v := ?_) (a' := ?_) #[true, false, false, false, false, false, false, false, false, false, false] rfl rfl (any_of HT_.out (by kernel_rfl)) (fun _ _ _ h => h) (Or.inl ⟨by rfl, ?_⟩) ?_ ?_
                rotate_left
                ·intro w'
                 go_simp
                 with_reducible rfl
                rotate_left
                ·simp only [Act.put, List.setIfInBounds_toArray, List.set_cons_zero, List.set_cons_succ, i64_w, i32_w]
                 rfl
                refine pure_ (i := 2) (N := some 65) (v := ?_) (a' := ?_) #[true, false, true, false, false, false, false, false, false, false, false] rfl rfl (any_of HT_.out (by kernel_rfl)) (fun _ _ _ h => h) (Or.inl ⟨by rfl, ?_⟩) ?_ ?_
                rotate_left
                ·intro w'
                 go_simp
                 with_reducible rfl
                rotate_left
                ·simp only [Act.put, List.setIfInBounds_toArray, List.set_cons_zero, List.set_cons_succ, i64_w, i32_w]
                 rfl
                refine pure_ (i := 4) (N := some 67) (v := ?_) (a' := ?_) #[true, false, true, false, true, false, false, false, false, false, false] rfl rfl (any_of HT_.out (by kernel_rfl)) (fun _ _ _ h => h) (Or.inl ⟨by rfl, ?_⟩) ?_ ?_
                rotate_left
                ·intro w'
                 go_simp
                 with_reducible rfl
                rotate_left
                ·simp only [Act.put, List.setIfInBounds_toArray, List.set_cons_zero, List.set_cons_succ, i64_w, i32_w]
                 rfl
                refine take_ (i := 1) (N := some 64) (v := ?_) (a' := ?_) #[true, true, true, false, true, false, false, false, false, false, false] rfl rfl (take_ofW HT_.out HW_.out (by kernel_rfl)) (fun _ _ _ h => h) (Or.inl ⟨by rfl, ?_⟩) hHeld ?_ ?_
                rotate_left
                ·rintro w' ⟨s0, s1, s2, s3, s4, s5, s6, s7, s8, s9, s10, s11, s12, s13, s14⟩
                 go_simp
                 with_reducible rfl
                rotate_left
                ·simp only [Act.put, List.setIfInBounds_toArray, List.set_cons_zero, List.set_cons_succ, i64_w, i32_w]
                 rfl
                refine take_ (i := 3) (N := some 66) (v := ?_) (a' := ?_) #[true, true, true, true, true, false, false, false, false, false, false] rfl rfl (take_ofW HT_.out HW_.out (by kernel_rfl)) (fun _ _ _ h => h) (Or.inl ⟨by rfl, ?_⟩) hHeld ?_ ?_
                rotate_left
                ·rintro w' ⟨s0, s1, s2, s3, s4, s5, s6, s7, s8, s9, s10, s11, s12, s13, s14⟩
                 go_simp
                 with_reducible rfl
                rotate_left
                ·simp only [Act.put, List.setIfInBounds_toArray, List.set_cons_zero, List.set_cons_succ, i64_w, i32_w]
                 rfl
                refine take_ (i := 5) (N := some 68) (v := ?_) (a' := ?_) #[true, true, true, true, true, true, false, false, false, false, false] rfl rfl (take_ofW HT_.out HW_.out (by kernel_rfl)) (fun _ _ _ h => h) (Or.inl ⟨by rfl, ?_⟩) hHeld ?_ ?_
                rotate_left
                ·rintro w' ⟨s0, s1, s2, s3, s4, s5, s6, s7, s8, s9, s10, s11, s12, s13, s14⟩
                 go_simp
                 with_reducible rfl
                rotate_left
                ·simp only [Act.put, List.setIfInBounds_toArray, List.set_cons_zero, List.set_cons_succ, i64_w, i32_w]
                 rfl
                refine pure_ (i := 6) (N := some 69) (v := ?_) (a' := ?_) #[true, true, true, true, true, true, true, false, false, false, false] rfl rfl (any_of HT_.out (by kernel_rfl)) (fun _ _ _ h => h) (Or.inl ⟨by rfl, ?_⟩) ?_ ?_
                rotate_left
                ·intro w'
                 go_simp
                 with_reducible rfl
                rotate_left
                ·simp only [Act.put, List.setIfInBounds_toArray, List.set_cons_zero, List.set_cons_succ, i64_w, i32_w]
                 rfl
                refine take_ (i := 7) (N := some 70) (v := ?_) (a' := ?_) #[true, true, true, true, true, true, true, true, false, false, false] rfl rfl (take_ofW HT_.out HW_.out (by kernel_rfl)) (fun _ _ _ h => h) (Or.inl ⟨by rfl, ?_⟩) hHeld ?_ ?_
                rotate_left
                ·rintro w' ⟨s0, s1, s2, s3, s4, s5, s6, s7, s8, s9, s10, s11, s12, s13, s14⟩
                 go_simp
                 with_reducible rfl
                rotate_left
                ·simp only [Act.put, List.setIfInBounds_toArray, List.set_cons_zero, List.set_cons_succ, i64_w, i32_w]
                 rfl
                refine take_ (i := 8) (N := some 71) (v := ?_) (a' := ?_) #[true, true, true, true, true, true, true, true, true, false, false] rfl rfl (take_ofW HT_.out HW_.out (by kernel_rfl)) (fun _ _ _ h => h) (Or.inl ⟨by rfl, ?_⟩) hHeld ?_ ?_
                rotate_left
                ·rintro w' ⟨s0, s1, s2, s3, s4, s5, s6, s7, s8, s9, s10, s11, s12, s13, s14⟩
                 go_simp
                 with_reducible rfl
                rotate_left
                ·simp only [Act.put, List.setIfInBounds_toArray, List.set_cons_zero, List.set_cons_succ, i64_w, i32_w]
                 rfl
                refine one_ (i := 9) (N := some 72) #[true, true, true, true, true, true, true, true, true, true, false] rfl rfl (one_of HT_.out (by kernel_rfl)) (by decide) (fun K hK => ?_)
                refine goes_ Try.func58 (by kernel_rfl) rfl #[.int .i64 ((rd_T106 l0_2 x24_2).f1), .agg #[.int .i64 ((rd_T104 l1_2 ((rd_T106 l0_2 x24_2).f0)).f0), .int .i64 ((rd_T104 l1_2 ((rd_T106 l0_2 x24_2).f0)).f1), .string ((rd_T104 l1_2 ((rd_T106 l0_2 x24_2).f0)).f2)], .agg #[.int .i64 ((rd_T106 l0_2 x24_2).f3.f0), .int .i64 ((rd_T106 l0_2 x24_2).f3.f1), .string ((rd_T106 l0_2 x24_2).f3.f2)]] (by rfl) rfl rfl (by (try simp only [List.map_toArray, List.map_cons, List.map_nil]); first | done | rfl | (simp only [List.length_drop, List.length_take]; rfl)) ?_
                with_reducible refine (spec_l3Holds.calls kj18 ((rd_T106 l0_2 x24_2).f1) ((rd_T104 l1_2 ((rd_T106 l0_2 x24_2).f0)).f0) ((rd_T104 l1_2 ((rd_T106 l0_2 x24_2).f0)).f1) ((rd_T104 l1_2 ((rd_T106 l0_2 x24_2).f0)).f2) ((rd_T106 l0_2 x24_2).f3.f0) ((rd_T106 l0_2 x24_2).f3.f1) ((rd_T106 l0_2 x24_2).f3.f2) false _ A83.out).mono ?_
                rintro e w108 ⟨rfl, hb⟩
                refine ⟨_, rfl, ?_⟩
                have n0_ := Aside0.mk (blk_below (g := gb114) (o := .cells #[.string a0_0, .int .i64 a0_1, .slice (some ad116) l0_2.length c0_2] 34 (0, 0)) (by (with_reducible repeat (first | refine blk_drewN ?_ _ | refine blk_drew ?_ | refine blk_alloc ?_ _)); exact BK114.out) hb)
                have n1_ := Aside0.mk (blk_below (g := gb115) (o := .cells #[.int .i64 a1_0, .string a1_1, .slice (some ad122) l1_2.length c1_2] 38 (0, 0)) (by (with_reducible repeat (first | refine blk_drewN ?_ _ | refine blk_drew ?_ | refine blk_alloc ?_ _)); exact BK115.out) hb)
                have n2_ := Aside0.mk (blk_below (g := gb117) (o := .cells #[.int .i64 ((rd_T106 l0_2 x24_2).f0), .int .i64 ((rd_T106 l0_2 x24_2).f1), .int .i64 ((rd_T106 l0_2 x24_2).f2), .int .i64 ((rd_T106 l0_2 x24_2).f3.f0), .int .i64 ((rd_T106 l0_2 x24_2).f3.f1), .string ((rd_T106 l0_2 x24_2).f3.f2)] 106 (0, 0)) (by (with_reducible repeat (first | refine blk_drewN ?_ _ | refine blk_drew ?_ | refine blk_alloc ?_ _)); exact BK117.out) hb)
                have n3_ := Aside0.mk (blk_below (g := gb118) (o := .cells #[.int .i64 ((rd_T106 l0_2 x24_2).f3.f0), .int .i64 ((rd_T106 l0_2 x24_2).f3.f1), .string ((rd_T106 l0_2 x24_2).f3.f2)] 104 (0, 0)) (by (with_reducible repeat (first | refine blk_drewN ?_ _ | refine blk_drew ?_ | refine blk_alloc ?_ _)); exact BK118.out) hb)
                have n4_ := Aside0.mk (below_step (by repeat (first | (with_reducible first | exact HB.out | apply below_alloc | apply pw_below_drewN | apply below_drew1 | refine below_set ?_ GE114.out | refine below_set ?_ GE115.out | refine below_set ?_ GE117.out | refine below_set ?_ GE118.out) | exact HB.out)) hb)
                clear BK114
                clear BK115
                clear BK117
                clear BK118
                clear HB
                have BK114 := n0_
                have BK115 := n1_
                have BK117 := n2_
                have BK118 := n3_
                have HB := n4_
                clear n0_ n1_ n2_ n3_ n4_
                (try clear hb)
                (try clear hb2)
                (try clear hk)
                (try clear hi)
                refine hK.out _ _ ⟨(blk_cell BK117.out 0).trans rfl, (blk_cell BK117.out 1).trans rfl, (blk_cell BK117.out 2).trans rfl, (blk_cell BK117.out 3).trans rfl, (blk_cell BK117.out 4).trans rfl, (blk_cell BK117.out 5).trans rfl, (blk_cell BK115.out 0).trans rfl, (blk_cell BK115.out 1).trans rfl, (blk_cell BK115.out 2).trans rfl, (blk_cell BK118.out 0).trans rfl, (blk_cell BK118.out 1).trans rfl, (blk_cell BK118.out 2).trans rfl, ((HB.out.cell (World.block_lt_of_cell? w _ hw122_0)).trans hw122_0), ((HB.out.cell (World.block_lt_of_cell? w _ hw122_1)).trans hw122_1), ((HB.out.cell (World.block_lt_of_cell? w _ hw122_2)).trans hw122_2)⟩ (fun hHeld => ?_)
                clear hK K
                refine norm_ (a' := ?_) ?_ ?_
                rotate_left
                ·show Act.put _ (some 72) _ = _
                 simp only [Act.put, List.setIfInBounds_toArray, List.set_cons_zero, List.set_cons_succ, i64_w, i32_w]
                 rfl
                refine pure_ (i := 10) (N := some 73) (v := ?_) (a' := ?_) #[true, true, true, true, true, true, true, true, true, true, true] rfl rfl (any_of HT_.out (by kernel_rfl)) (fun _ _ _ h => h) (Or.inl ⟨by rfl, ?_⟩) ?_ ?_
                rotate_left
                ·intro w'
                 go_simp
                 with_reducible rfl
                rotate_left
                ·simp only [Act.put, List.setIfInBounds_toArray, List.set_cons_zero, List.set_cons_succ, i64_w, i32_w]
                 rfl
                refine done_ (done_of HT_.out (by kernel_rfl)) ?_
                try go_wp2
                go_ret
                exact ⟨by first | rfl | (simp [errW_none, errW_some] <;> rfl) | (simp [*, errW_none, errW_some] <;> rfl), by repeat (first | (with_reducible first | exact HB.out | apply below_alloc | apply pw_below_drewN | apply below_drew1 | refine below_set ?_ GE114.out | refine below_set ?_ GE115.out | refine below_set ?_ GE117.out | refine below_set ?_ GE118.out) | exact HB.out)⟩
              ·rw [if_neg c82] at H
               exact absurd H (by simp)
             ·rw [if_neg c81] at H
              exact absurd H (by simp)
        ·rw [if_neg c18] at H
         exact absurd H (by simp)
       ·rw [if_neg c17] at H
        exact absurd H (by simp)
      ·rw [if_neg c16] at H
       have c16b0 : decide (x24_2 < (l0_2.length : Int)) = false := decide_eq_false c16
       clear c16
       obtain rfl := Option.some.inj H
       go_wp2
       go_ret
       exact ⟨by first | rfl | (simp [errW_none, errW_some] <;> rfl) | (simp [*, errW_none, errW_some] <;> rfl), by repeat (first | (with_reducible first | exact HB.out | apply below_alloc | apply pw_below_drewN | apply below_drew1 | refine below_set ?_ GE114.out | refine below_set ?_ GE115.out) | exact HB.out)⟩
end Go.Proofs.Ytoncacdehhmpaaa.P
namespace Go.Proofs.Ytoncacdehhmpaaa.P
open Go.RowKit Go.Proofs.YtoncacdehhmpaaaW.PrintWords Go.Proofs.YtoncacdehhmpaaaW.PrintLast Go.Proofs.YtoncacdehhmpaaaW.PrintMore
attribute [local go_sem] max2_int min2_int max_two min_two max_three min_three max_four min_four
set_option linter.unusedVariables false
set_option linter.unusedSimpArgs false
attribute [local go_sem high] eqA104
def spec_l1GoodVal.f (k : Nat) (a0_0 : Int) (a0_1 : Int) (a0_2 : ByteArray) : Option (Bool) := if a0_0 = 0 then (if a0_2.toList = ([] : List UInt8) then (some true) else (if a0_0 = 1 then (if a0_1 = 0 then ((spec_l1GoodSym.f k a0_2).bind fun t228 => (some t228)) else (some false)) else (some false))) else (if a0_0 = 1 then (if a0_1 = 0 then ((spec_l1GoodSym.f k a0_2).bind fun t229 => (some t229)) else (some false)) else (some false))
theorem spec_l1GoodVal.mono : ∀ a0 a1 a2 k, LeO (spec_l1GoodVal.f k a0 a1 a2) (spec_l1GoodVal.f (k + 1) a0 a1 a2) := by
 intro a0 a1 a2 k
 unfold spec_l1GoodVal.f
 repeat' first
   | (with_reducible exact spec_l1GoodSym.mono _ _)
   | (with_reducible exact LeO.refl _)
   | (with_reducible exact LeO.none _)
   | (with_reducible refine LeO.ite ?_ ?_)
   | (with_reducible refine LeO.bind ?_ (fun _ => ?_))
   | exact spec_l1GoodSym.mono _ _
   | exact LeO.none _
   | refine LeO.ite ?_ ?_
   | refine LeO.bind ?_ (fun _ => ?_)
set_option maxHeartbeats 8000000 in
set_option maxRecDepth 100000 in
theorem spec_l1GoodVal.calls (k : Nat) (a0_0 : Int) (a0_1 : Int) (a0_2 : ByteArray) (r : Bool) (w : World) (h : spec_l1GoodVal.f k a0_0 a0_1 a0_2 = some r) :
  Calls Try.prog 139 #[.agg #[.int .i64 a0_0, .int .i64 a0_1, .string a0_2]] w fun e w' => e = .returned (.bool r) ∧ Below w.heap.size w w' := by
 have hu104 := Try.underlying104
 have HB := Aside0.mk (Below.refl w.heap.size w)
 have H : (if a0_0 = 0 then (if a0_2.toList = ([] : List UInt8) then (some true) else (if a0_0 = 1 then (if a0_1 = 0 then ((spec_l1GoodSym.f k a0_2).bind fun t228 => (some t228)) else (some false)) else (some false))) else (if a0_0 = 1 then (if a0_1 = 0 then ((spec_l1GoodSym.f k a0_2).bind fun t229 => (some t229)) else (some false)) else (some false))) = some r := h
 clear h
 by_cases c2 : a0_0 = 0
 ·rw [if_pos c2] at H
  have c2b0 : (a0_0 == 0) = true := beq_iff_eq.mpr c2
  have c2b1 : (a0_0 != 0) = false := bne_eq_false_iff_eq.mpr c2
  clear c2
  by_cases c3 : a0_2.toList = ([] : List UInt8)
  ·rw [if_pos c3] at H
   have c3b0 : (a0_2.toList == ([] : List UInt8)) = true := beq_iff_eq.mpr c3
   have c3b1 : (a0_2.toList != ([] : List UInt8)) = false := bne_eq_false_iff_eq.mpr c3
   clear c3
   obtain rfl := Option.some.inj H
   go_enter Try.func139, Try.ntmps139
   go_wp2_with (first | ((with_reducible refine gate_dst (N := 1) rfl ?_); refine box_event ?hg (N := 1) ?hd (cs := #[.int .i64 a0_0, .int .i64 a0_1, .string a0_2]) (t := 104) ?hr ?_; (case hd => rfl); (case hg => rfl); (case hr => first | (go_simp; done) | (go_simp; rfl)); intro gb227 hg w4 hbox hb; have n0_ := Aside0.mk (below_step (by repeat (first | (with_reducible first | exact HB.out | apply below_alloc | apply pw_below_drewN | apply below_drew1) | exact HB.out)) hb); have n1_ := Aside0.mk (hbox); have n2_ := Aside0.mk ((by rw [hg]; exact (below_size (by repeat (first | (with_reducible first | exact HB.out | apply below_alloc | apply pw_below_drewN | apply below_drew1) | exact HB.out))) : w.heap.size ≤ gb227)); have n3_ := Aside0.mk ((by rw [hg]; exact (below_size (by repeat (first | (with_reducible first | exact HB.out | apply below_alloc | apply pw_below_drewN | apply below_drew1) | exact HB.out))) : w.heap.size ≤ gb227)); clear HB; have HB := n0_; have BK227 := n1_; have GW227 := n2_; have GE227 := n3_; clear n0_ n1_ n2_ n3_; clear hb hbox hg; have hcz5_0 : w4.cell? ⟨gb227, 0, none⟩ = some (.int .i64 a0_0) := (blk_cell BK227.out 0).trans rfl; have hcz5_1 : w4.cell? ⟨gb227, 1, none⟩ = some (.int .i64 a0_1) := (blk_cell BK227.out 1).trans rfl; have hcz5_2 : w4.cell? ⟨gb227, 2, none⟩ = some (.string a0_2) := (blk_cell BK227.out 2).trans rfl; have hfz5_0 := blk_frozen BK227.out 0; have hfz5_1 := blk_frozen BK227.out 1; have hfz5_2 := blk_frozen BK227.out 2))
   go_ret
   exact ⟨by first | rfl | (simp [errW_none, errW_some] <;> rfl) | (simp [*, errW_none, errW_some] <;> rfl), by repeat (first | (with_reducible first | exact HB.out | apply below_alloc | apply pw_below_drewN | apply below_drew1 | refine below_set ?_ GE227.out) | exact HB.out)⟩
  ·rw [if_neg c3] at H
   have c3b0 : (a0_2.toList == ([] : List UInt8)) = false := beq_eq_false_iff_ne.mpr c3
   have c3b1 : (a0_2.toList != ([] : List UInt8)) = true := bne_iff_ne.mpr c3
   by_cases c6 : a0_0 = 1
   ·rw [if_pos c6] at H
    have c6b0 : (a0_0 == 1) = true := beq_iff_eq.mpr c6
    have c6b1 : (a0_0 != 1) = false := bne_eq_false_iff_eq.mpr c6
    clear c6
    by_cases c7 : a0_1 = 0
    ·rw [if_pos c7] at H
     have c7b0 : (a0_1 == 0) = true := beq_iff_eq.mpr c7
     have c7b1 : (a0_1 != 0) = false := bne_eq_false_iff_eq.mpr c7
     clear c7
     replace H := Option.bind_eq_some_iff.mp H
     obtain ⟨t228, A80, H⟩ := H
     replace H : (some t228) = some r := H
     have A8 := Aside0.mk A80
     clear A80
     obtain rfl := Option.some.inj H
     go_enter Try.func139, Try.ntmps139
     go_wp2_with (first | ((with_reducible refine gate_dst (N := 1) rfl ?_); refine box_event ?hg (N := 1) ?hd (cs := #[.int .i64 a0_0, .int .i64 a0_1, .string a0_2]) (t := 104) ?hr ?_; (case hd => rfl); (case hg => rfl); (case hr => first | (go_simp; done) | (go_simp; rfl)); intro gb227 hg w9 hbox hb; have n0_ := Aside0.mk (below_step (by repeat (first | (with_reducible first | exact HB.out | apply below_alloc | apply pw_below_drewN | apply below_drew1) | exact HB.out)) hb); have n1_ := Aside0.mk (hbox); have n2_ := Aside0.mk ((by rw [hg]; exact (below_size (by repeat (first | (with_reducible first | exact HB.out | apply below_alloc | apply pw_below_drewN | apply below_drew1) | exact HB.out))) : w.heap.size ≤ gb227)); have n3_ := Aside0.mk ((by rw [hg]; exact (below_size (by repeat (first | (with_reducible first | exact HB.out | apply below_alloc | apply pw_below_drewN | apply below_drew1) | exact HB.out))) : w.heap.size ≤ gb227)); clear HB; have HB := n0_; have BK227 := n1_; have GW227 := n2_; have GE227 := n3_; clear n0_ n1_ n2_ n3_; clear hb hbox hg; have hcz10_0 : w9.cell? ⟨gb227, 0, none⟩ = some (.int .i64 a0_0) := (blk_cell BK227.out 0).trans rfl; have hcz10_1 : w9.cell? ⟨gb227, 1, none⟩ = some (.int .i64 a0_1) := (blk_cell BK227.out 1).trans rfl; have hcz10_2 : w9.cell? ⟨gb227, 2, none⟩ = some (.string a0_2) := (blk_cell BK227.out 2).trans rfl; have hfz10_0 := blk_frozen BK227.out 0; have hfz10_1 := blk_frozen BK227.out 1; have hfz10_2 := blk_frozen BK227.out 2) | (go_at_call 107; (with_reducible refine (spec_l1GoodSym.calls k a0_2 t228 _ A8.out).mono ?_); rintro e w' ⟨rfl, ⟨nd, rfl⟩⟩))
     go_ret
     exact ⟨by first | rfl | (simp [errW_none, errW_some] <;> rfl) | (simp [*, errW_none, errW_some] <;> rfl), by repeat (first | (with_reducible first | exact HB.out | apply below_alloc | apply pw_below_drewN | apply below_drew1 | refine below_set ?_ GE227.out) | exact HB.out)⟩
    ·rw [if_neg c7] at H
     have c7b0 : (a0_1 == 0) = false := beq_eq_false_iff_ne.mpr c7
     have c7b1 : (a0_1 != 0) = true := bne_iff_ne.mpr c7
     obtain rfl := Option.some.inj H
     go_enter Try.func139, Try.ntmps139
     go_wp2_with (first | ((with_reducible refine gate_dst (N := 1) rfl ?_); refine box_event ?hg (N := 1) ?hd (cs := #[.int .i64 a0_0, .int .i64 a0_1, .string a0_2]) (t := 104) ?hr ?_; (case hd => rfl); (case hg => rfl); (case hr => first | (go_simp; done) | (go_simp; rfl)); intro gb227 hg w11 hbox hb; have n0_ := Aside0.mk (below_step (by repeat (first | (with_reducible first | exact HB.out | apply below_alloc | apply pw_below_drewN | apply below_drew1) | exact HB.out)) hb); have n1_ := Aside0.mk (hbox); have n2_ := Aside0.mk ((by rw [hg]; exact (below_size (by repeat (first | (with_reducible first | exact HB.out | apply below_alloc | apply pw_below_drewN | apply below_drew1) | exact HB.out))) : w.heap.size ≤ gb227)); have n3_ := Aside0.mk ((by rw [hg]; exact (below_size (by repeat (first | (with_reducible first | exact HB.out | apply below_alloc | apply pw_below_drewN | apply below_drew1) | exact HB.out))) : w.heap.size ≤ gb227)); clear HB; have HB := n0_; have BK227 := n1_; have GW227 := n2_; have GE227 := n3_; clear n0_ n1_ n2_ n3_; clear hb hbox hg; have hcz12_0 : w11.cell? ⟨gb227, 0, none⟩ = some (.int .i64 a0_0) := (blk_cell BK227.out 0).trans rfl; have hcz12_1 : w11.cell? ⟨gb227, 1, none⟩ = some (.int .i64 a0_1) := (blk_cell BK227.out 1).trans rfl; have hcz12_2 : w11.cell? ⟨gb227, 2, none⟩ = some (.string a0_2) := (blk_cell BK227.out 2).trans rfl; have hfz12_0 := blk_frozen BK227.out 0; have hfz12_1 := blk_frozen BK227.out 1; have hfz12_2 := blk_frozen BK227.out 2))
     go_ret
     exact ⟨by first | rfl | (simp [errW_none, errW_some] <;> rfl) | (simp [*, errW_none, errW_some] <;> rfl), by repeat (first | (with_reducible first | exact HB.out | apply below_alloc | apply pw_below_drewN | apply below_drew1 | refine below_set ?_ GE227.out) | exact HB.out)⟩
   ·rw [if_neg c6] at H
    have c6b0 : (a0_0 == 1) = false := beq_eq_false_iff_ne.mpr c6
    have c6b1 : (a0_0 != 1) = true := bne_iff_ne.mpr c6
    obtain rfl := Option.some.inj H
    go_enter Try.func139, Try.ntmps139
    go_wp2_with (first | ((with_reducible refine gate_dst (N := 1) rfl ?_); refine box_event ?hg (N := 1) ?hd (cs := #[.int .i64 a0_0, .int .i64 a0_1, .string a0_2]) (t := 104) ?hr ?_; (case hd => rfl); (case hg => rfl); (case hr => first | (go_simp; done) | (go_simp; rfl)); intro gb227 hg w13 hbox hb; have n0_ := Aside0.mk (below_step (by repeat (first | (with_reducible first | exact HB.out | apply below_alloc | apply pw_below_drewN | apply below_drew1) | exact HB.out)) hb); have n1_ := Aside0.mk (hbox); have n2_ := Aside0.mk ((by rw [hg]; exact (below_size (by repeat (first | (with_reducible first | exact HB.out | apply below_alloc | apply pw_below_drewN | apply below_drew1) | exact HB.out))) : w.heap.size ≤ gb227)); have n3_ := Aside0.mk ((by rw [hg]; exact (below_size (by repeat (first | (with_reducible first | exact HB.out | apply below_alloc | apply pw_below_drewN | apply below_drew1) | exact HB.out))) : w.heap.size ≤ gb227)); clear HB; have HB := n0_; have BK227 := n1_; have GW227 := n2_; have GE227 := n3_; clear n0_ n1_ n2_ n3_; clear hb hbox hg; have hcz14_0 : w13.cell? ⟨gb227, 0, none⟩ = some (.int .i64 a0_0) := (blk_cell BK227.out 0).trans rfl; have hcz14_1 : w13.cell? ⟨gb227, 1, none⟩ = some (.int .i64 a0_1) := (blk_cell BK227.out 1).trans rfl; have hcz14_2 : w13.cell? ⟨gb227, 2, none⟩ = some (.string a0_2) := (blk_cell BK227.out 2).trans rfl; have hfz14_0 := blk_frozen BK227.out 0; have hfz14_1 := blk_frozen BK227.out 1; have hfz14_2 := blk_frozen BK227.out 2))
    go_ret
    exact ⟨by first | rfl | (simp [errW_none, errW_some] <;> rfl) | (simp [*, errW_none, errW_some] <;> rfl), by repeat (first | (with_reducible first | exact HB.out | apply below_alloc | apply pw_below_drewN | apply below_drew1 | refine below_set ?_ GE227.out) | exact HB.out)⟩
 ·rw [if_neg c2] at H
  have c2b0 : (a0_0 == 0) = false := beq_eq_false_iff_ne.mpr c2
  have c2b1 : (a0_0 != 0) = true := bne_iff_ne.mpr c2
  by_cases c15 : a0_0 = 1
  ·rw [if_pos c15] at H
   have c15b0 : (a0_0 == 1) = true := beq_iff_eq.mpr c15
   have c15b1 : (a0_0 != 1) = false := bne_eq_false_iff_eq.mpr c15
   clear c15
   by_cases c16 : a0_1 = 0
   ·rw [if_pos c16] at H
    have c16b0 : (a0_1 == 0) = true := beq_iff_eq.mpr c16
    have c16b1 : (a0_1 != 0) = false := bne_eq_false_iff_eq.mpr c16
    clear c16
    replace H := Option.bind_eq_some_iff.mp H
    obtain ⟨t229, A170, H⟩ := H
    replace H : (some t229) = some r := H
    have A17 := Aside0.mk A170
    clear A170
    obtain rfl := Option.some.inj H
    go_enter Try.func139, Try.ntmps139
    go_wp2_with (first | ((with_reducible refine gate_dst (N := 1) rfl ?_); refine box_event ?hg (N := 1) ?hd (cs := #[.int .i64 a0_0, .int .i64 a0_1, .string a0_2]) (t := 104) ?hr ?_; (case hd => rfl); (case hg => rfl); (case hr => first | (go_simp; done) | (go_simp; rfl)); intro gb227 hg w18 hbox hb; have n0_ := Aside0.mk (below_step (by repeat (first | (with_reducible first | exact HB.out | apply below_alloc | apply pw_below_drewN | apply below_drew1) | exact HB.out)) hb); have n1_ := Aside0.mk (hbox); have n2_ := Aside0.mk ((by rw [hg]; exact (below_size (by repeat (first | (with_reducible first | exact HB.out | apply below_alloc | apply pw_below_drewN | apply below_drew1) | exact HB.out))) : w.heap.size ≤ gb227)); have n3_ := Aside0.mk ((by rw [hg]; exact (below_size (by repeat (first | (with_reducible first | exact HB.out | apply below_alloc | apply pw_below_drewN | apply below_drew1) | exact HB.out))) : w.heap.size ≤ gb227)); clear HB; have HB := n0_; have BK227 := n1_; have GW227 := n2_; have GE227 := n3_; clear n0_ n1_ n2_ n3_; clear hb hbox hg; have hcz19_0 : w18.cell? ⟨gb227, 0, none⟩ = some (.int .i64 a0_0) := (blk_cell BK227.out 0).trans rfl; have hcz19_1 : w18.cell? ⟨gb227, 1, none⟩ = some (.int .i64 a0_1) := (blk_cell BK227.out 1).trans rfl; have hcz19_2 : w18.cell? ⟨gb227, 2, none⟩ = some (.string a0_2) := (blk_cell BK227.out 2).trans rfl; have hfz19_0 := blk_frozen BK227.out 0; have hfz19_1 := blk_frozen BK227.out 1; have hfz19_2 := blk_frozen BK227.out 2) | (go_at_call 107; (with_reducible refine (spec_l1GoodSym.calls k a0_2 t229 _ A17.out).mono ?_); rintro e w' ⟨rfl, ⟨nd, rfl⟩⟩))
    go_ret
    exact ⟨by first | rfl | (simp [errW_none, errW_some] <;> rfl) | (simp [*, errW_none, errW_some] <;> rfl), by repeat (first | (with_reducible first | exact HB.out | apply below_alloc | apply pw_below_drewN | apply below_drew1 | refine below_set ?_ GE227.out) | exact HB.out)⟩
   ·rw [if_neg c16] at H
    have c16b0 : (a0_1 == 0) = false := beq_eq_false_iff_ne.mpr c16
    have c16b1 : (a0_1 != 0) = true := bne_iff_ne.mpr c16
    obtain rfl := Option.some.inj H
    go_enter Try.func139, Try.ntmps139
    go_wp2_with (first | ((with_reducible refine gate_dst (N := 1) rfl ?_); refine box_event ?hg (N := 1) ?hd (cs := #[.int .i64 a0_0, .int .i64 a0_1, .string a0_2]) (t := 104) ?hr ?_; (case hd => rfl); (case hg => rfl); (case hr => first | (go_simp; done) | (go_simp; rfl)); intro gb227 hg w20 hbox hb; have n0_ := Aside0.mk (below_step (by repeat (first | (with_reducible first | exact HB.out | apply below_alloc | apply pw_below_drewN | apply below_drew1) | exact HB.out)) hb); have n1_ := Aside0.mk (hbox); have n2_ := Aside0.mk ((by rw [hg]; exact (below_size (by repeat (first | (with_reducible first | exact HB.out | apply below_alloc | apply pw_below_drewN | apply below_drew1) | exact HB.out))) : w.heap.size ≤ gb227)); have n3_ := Aside0.mk ((by rw [hg]; exact (below_size (by repeat (first | (with_reducible first | exact HB.out | apply below_alloc | apply pw_below_drewN | apply below_drew1) | exact HB.out))) : w.heap.size ≤ gb227)); clear HB; have HB := n0_; have BK227 := n1_; have GW227 := n2_; have GE227 := n3_; clear n0_ n1_ n2_ n3_; clear hb hbox hg; have hcz21_0 : w20.cell? ⟨gb227, 0, none⟩ = some (.int .i64 a0_0) := (blk_cell BK227.out 0).trans rfl; have hcz21_1 : w20.cell? ⟨gb227, 1, none⟩ = some (.int .i64 a0_1) := (blk_cell BK227.out 1).trans rfl; have hcz21_2 : w20.cell? ⟨gb227, 2, none⟩ = some (.string a0_2) := (blk_cell BK227.out 2).trans rfl; have hfz21_0 := blk_frozen BK227.out 0; have hfz21_1 := blk_frozen BK227.out 1; have hfz21_2 := blk_frozen BK227.out 2))
    go_ret
    exact ⟨by first | rfl | (simp [errW_none, errW_some] <;> rfl) | (simp [*, errW_none, errW_some] <;> rfl), by repeat (first | (with_reducible first | exact HB.out | apply below_alloc | apply pw_below_drewN | apply below_drew1 | refine below_set ?_ GE227.out) | exact HB.out)⟩
  ·rw [if_neg c15] at H
   have c15b0 : (a0_0 == 1) = false := beq_eq_false_iff_ne.mpr c15
   have c15b1 : (a0_0 != 1) = true := bne_iff_ne.mpr c15
   obtain rfl := Option.some.inj H
   go_enter Try.func139, Try.ntmps139
   go_wp2_with (first | ((with_reducible refine gate_dst (N := 1) rfl ?_); refine box_event ?hg (N := 1) ?hd (cs := #[.int .i64 a0_0, .int .i64 a0_1, .string a0_2]) (t := 104) ?hr ?_; (case hd => rfl); (case hg => rfl); (case hr => first | (go_simp; done) | (go_simp; rfl)); intro gb227 hg w22 hbox hb; have n0_ := Aside0.mk (below_step (by repeat (first | (with_reducible first | exact HB.out | apply below_alloc | apply pw_below_drewN | apply below_drew1) | exact HB.out)) hb); have n1_ := Aside0.mk (hbox); have n2_ := Aside0.mk ((by rw [hg]; exact (below_size (by repeat (first | (with_reducible first | exact HB.out | apply below_alloc | apply pw_below_drewN | apply below_drew1) | exact HB.out))) : w.heap.size ≤ gb227)); have n3_ := Aside0.mk ((by rw [hg]; exact (below_size (by repeat (first | (with_reducible first | exact HB.out | apply below_alloc | apply pw_below_drewN | apply below_drew1) | exact HB.out))) : w.heap.size ≤ gb227)); clear HB; have HB := n0_; have BK227 := n1_; have GW227 := n2_; have GE227 := n3_; clear n0_ n1_ n2_ n3_; clear hb hbox hg; have hcz23_0 : w22.cell? ⟨gb227, 0, none⟩ = some (.int .i64 a0_0) := (blk_cell BK227.out 0).trans rfl; have hcz23_1 : w22.cell? ⟨gb227, 1, none⟩ = some (.int .i64 a0_1) := (blk_cell BK227.out 1).trans rfl; have hcz23_2 : w22.cell? ⟨gb227, 2, none⟩ = some (.string a0_2) := (blk_cell BK227.out 2).trans rfl; have hfz23_0 := blk_frozen BK227.out 0; have hfz23_1 := blk_frozen BK227.out 1; have hfz23_2 := blk_frozen BK227.out 2))
   go_ret
   exact ⟨by first | rfl | (simp [errW_none, errW_some] <;> rfl) | (simp [*, errW_none, errW_some] <;> rfl), by repeat (first | (with_reducible first | exact HB.out | apply below_alloc | apply pw_below_drewN | apply below_drew1 | refine below_set ?_ GE227.out) | exact HB.out)⟩
def spec_l1GoodSlots.l0 : Nat → List (S104) → Int → Int → Option (Bool)
 | 0, _, _, _ => none
 | k + 1, x8, x9, x10 => if x10 < x9 then (if 0 ≤ x10 then (if x10 < (x8.length : Int) then ((spec_l1GoodVal.f k ((rd_T104 x8 x10).f0) ((rd_T104 x8 x10).f1) ((rd_T104 x8 x10).f2)).bind fun t232 => (if t232 = true then (spec_l1GoodSlots.l0 k x8 x9 (wrap64 (x10 + 1))) else (some false))) else (none)) else (none)) else (some true)
def spec_l1GoodSlots.f (k : Nat) (l0 : List (S104)) : Option (Bool) := if (l0.length : Int) > 6 then (some false) else (spec_l1GoodSlots.l0 k l0 (l0.length : Int) 0)
theorem spec_l1GoodSlots.mono_l : ∀ k, (∀ y0 y1 y2, LeO (spec_l1GoodSlots.l0 k y0 y1 y2) (spec_l1GoodSlots.l0 (k + 1) y0 y1 y2))
 | 0 => fun _ _ _ r h => by simp [spec_l1GoodSlots.l0] at h
 | k + 1 => by
  have ih0 := spec_l1GoodSlots.mono_l k
  ·intro y0 y1 y2
   unfold spec_l1GoodSlots.l0
   repeat' first
   | (with_reducible exact ih0 _ _ _)
   | (with_reducible exact spec_l1GoodVal.mono _ _ _ _)
   | (with_reducible exact LeO.refl _)
   | (with_reducible exact LeO.none _)
   | (with_reducible refine LeO.ite ?_ ?_)
   | (with_reducible refine LeO.bind ?_ (fun _ => ?_))
   | exact ih0 _ _ _
   | exact spec_l1GoodVal.mono _ _ _ _
   | exact LeO.none _
   | refine LeO.ite ?_ ?_
   | refine LeO.bind ?_ (fun _ => ?_)
theorem spec_l1GoodSlots.mono : ∀ a0 k, LeO (spec_l1GoodSlots.f k a0) (spec_l1GoodSlots.f (k + 1) a0) := by
 intro a0 k
 have ih0 := spec_l1GoodSlots.mono_l k
 unfold spec_l1GoodSlots.f
 repeat' first
   | (with_reducible exact ih0 _ _ _)
   | (with_reducible exact spec_l1GoodVal.mono _ _ _ _)
   | (with_reducible exact LeO.refl _)
   | (with_reducible exact LeO.none _)
   | (with_reducible refine LeO.ite ?_ ?_)
   | (with_reducible refine LeO.bind ?_ (fun _ => ?_))
   | exact ih0 _ _ _
   | exact spec_l1GoodVal.mono _ _ _ _
   | exact LeO.none _
   | refine LeO.ite ?_ ?_
   | refine LeO.bind ?_ (fun _ => ?_)
set_option maxHeartbeats 8000000 in
set_option maxRecDepth 100000 in
theorem spec_l1GoodSlots.calls (k : Nat) (A0 : Option Addr) (c0 : Nat) (l0 : List (S104)) (r : Bool) (w : World) (hr0 : Kd.C k104 w A0 l0.length l0) (hc0 : l0.length ≤ c0) (h : spec_l1GoodSlots.f k l0 = some r) :
  Calls Try.prog 108 #[.slice A0 l0.length c0] w fun e w' => e = .returned (.bool r) ∧ Below w.heap.size w w' := by
 have hu104 := Try.underlying104
 have HR0 := Aside0.mk hr0
 have HC0 := Aside0.mk hc0
 clear hr0 hc0
 have HB := Aside0.mk (Below.refl w.heap.size w)
 have H : (if (l0.length : Int) > 6 then (some false) else (spec_l1GoodSlots.l0 k l0 (l0.length : Int) 0)) = some r := h
 clear h
 by_cases c2 : (l0.length : Int) > 6
 ·rw [if_pos c2] at H
  have c2b0 : decide (6 < (l0.length : Int)) = true := decide_eq_true c2
  have c2b1 : decide (6 < l0.length) = true := decide_eq_true (by omega)
  clear c2
  obtain rfl := Option.some.inj H
  go_enter Try.func108, Try.ntmps108
  go_wp2
  go_ret
  exact ⟨by first | rfl | (simp [errW_none, errW_some] <;> rfl) | (simp [*, errW_none, errW_some] <;> rfl), by repeat (first | (with_reducible first | exact HB.out | apply below_alloc | apply pw_below_drewN | apply below_drew1) | exact HB.out)⟩
 ·rw [if_neg c2] at H
  have c2b0 : decide (6 < (l0.length : Int)) = false := decide_eq_false c2
  have c2b1 : decide (6 < l0.length) = false := decide_eq_false (by omega)
  clear c2
  have H' := Aside0.mk H
  clear H
  go_enter Try.func108, Try.ntmps108
  go_wp2
  go_loopg [10] k (fun kq v10 w' => ∃ (x10_1 : Int), v10 = .int .i64 x10_1 ∧ Aside0 (spec_l1GoodSlots.l0 kq l0 (l0.length : Int) x10_1 = some r) ∧ Aside0 (kq ≤ k) ∧ Aside0 (Below w.heap.size w w'))
  case atStart => exact ⟨(0), (by first | rfl | (simp; done) | (simp [*]; done)), H', ⟨Nat.le_refl _⟩, ⟨by repeat (first | (with_reducible first | exact HB.out | apply below_alloc | apply pw_below_drewN | apply below_drew1) | exact HB.out)⟩⟩
  case round =>
   clear H'
   try clear c1
   try clear c2
   try clear c2b0
   try clear c2b1
   try clear p2
   obtain ⟨x10_1, rfl, HA, HK1, HB⟩ := hrel
   cases gk with
   | zero => exact absurd HA.out (by simp [spec_l1GoodSlots.l0])
   | succ k1 =>
    have H := HA.out
    clear HA
    simp only [spec_l1GoodSlots.l0] at H
    by_cases c3 : x10_1 < (l0.length : Int)
    ·rw [if_pos c3] at H
     have c3b0 : decide (x10_1 < (l0.length : Int)) = true := decide_eq_true c3
     clear c3
     by_cases c4 : 0 ≤ x10_1
     ·rw [if_pos c4] at H
      have c4b0 : decide (0 ≤ x10_1) = true := decide_eq_true c4
      clear c4
      by_cases c5 : x10_1 < (l0.length : Int)
      ·rw [if_pos c5] at H
       have c5b0 : decide (x10_1 < (l0.length : Int)) = true := decide_eq_true c5
       clear c5
       replace H := Option.bind_eq_some_iff.mp H
       obtain ⟨t232, A60, H⟩ := H
       replace H : (if t232 = true then (spec_l1GoodSlots.l0 k1 l0 (l0.length : Int) (wrap64 (x10_1 + 1))) else (some false)) = some r := H
       have A6 := Aside0.mk A60
       clear A60
       by_cases c7 : t232 = true
       ·subst c7
        have H1 : (spec_l1GoodSlots.l0 k1 l0 (l0.length : Int) (wrap64 (x10_1 + 1))) = some r := by first | (rw [if_pos rfl] at H; exact H) | rfl
        clear H
        have H := H1
        clear H1
        have H' := Aside0.mk H
        clear H
        have p230 : 0 ≤ (x10_1 : Int) := of_decide_eq_true (by first | (with_reducible assumption) | assumption)
        have q230 : x10_1 < (l0.length : Int) := of_decide_eq_true (by first | (with_reducible assumption) | assumption)
        obtain ⟨ad230, e230, hx230_0, hx230_1, hx230_2⟩ := at_T104 HR0.out x10_1 p230 q230
        cases e230
        replace hx230_0 := (HB.out.cell (World.block_lt_of_cell? w _ hx230_0)).trans hx230_0
        replace hx230_1 := (HB.out.cell (World.block_lt_of_cell? w _ hx230_1)).trans hx230_1
        replace hx230_2 := (HB.out.cell (World.block_lt_of_cell? w _ hx230_2)).trans hx230_2
        replace p230 := eq_true p230
        replace q230 := eq_true q230
        go_wp2_with (first | ((with_reducible refine gate_dst (N := 4) rfl ?_); refine box_event ?hg (N := 4) ?hd (cs := #[.int .i64 0, .int .i64 0, .string (⟨#[]⟩ : ByteArray)]) (t := 104) ?hr ?_; (case hd => rfl); (case hg => rfl); (case hr => first | (go_simp; done) | (go_simp; rfl)); intro gb231 hg w8 hbox hb; have n0_ := Aside0.mk (below_step (by repeat (first | (with_reducible first | exact HB.out | apply below_alloc | apply pw_below_drewN | apply below_drew1) | exact HB.out)) hb); have n1_ := Aside0.mk (hbox); have n2_ := Aside0.mk ((by rw [hg]; exact (below_size (by repeat (first | (with_reducible first | exact HB.out | apply below_alloc | apply pw_below_drewN | apply below_drew1) | exact HB.out))) : w.heap.size ≤ gb231)); have n3_ := Aside0.mk ((by rw [hg]; exact (below_size (by repeat (first | (with_reducible first | exact HB.out | apply below_alloc | apply pw_below_drewN | apply below_drew1) | exact HB.out))) : w.heap.size ≤ gb231)); clear HB; have HB := n0_; have BK231 := n1_; have GW231 := n2_; have GE231 := n3_; clear n0_ n1_ n2_ n3_; clear hb hbox hg; have hcz9_0 : w8.cell? ⟨gb231, 0, none⟩ = some (.int .i64 0) := (blk_cell BK231.out 0).trans rfl; have hcz9_1 : w8.cell? ⟨gb231, 1, none⟩ = some (.int .i64 0) := (blk_cell BK231.out 1).trans rfl; have hcz9_2 : w8.cell? ⟨gb231, 2, none⟩ = some (.string (⟨#[]⟩ : ByteArray)) := (blk_cell BK231.out 2).trans rfl; have hfz9_0 := blk_frozen BK231.out 0; have hfz9_1 := blk_frozen BK231.out 1; have hfz9_2 := blk_frozen BK231.out 2) | ((with_reducible refine gate_callee (f := 139) rfl ?_); refine goesL_ (some 15) rfl rfl Try.func139 (by kernel_rfl) rfl #[.agg #[.int .i64 ((rd_T104 l0 x10_1).f0), .int .i64 ((rd_T104 l0 x10_1).f1), .string ((rd_T104 l0 x10_1).f2)]] rfl (by (try simp only [List.map_toArray, List.map_cons, List.map_nil]); first | done | rfl | (simp only [List.length_drop, List.length_take]; rfl)) ?_; (with_reducible refine (spec_l1GoodVal.calls k1 ((rd_T104 l0 x10_1).f0) ((rd_T104 l0 x10_1).f1) ((rd_T104 l0 x10_1).f2) true _ A6.out).mono ?_); rintro e w10 ⟨rfl, hb⟩; refine ⟨_, rfl, ?_⟩; have n0_ := Aside0.mk (blk_below (g := gb231) (o := .cells #[.int .i64 ((rd_T104 l0 x10_1).f0), .int .i64 ((rd_T104 l0 x10_1).f1), .string ((rd_T104 l0 x10_1).f2)] 104 (0, 0)) (by (with_reducible repeat (first | refine blk_drewN ?_ _ | refine blk_drew ?_ | refine blk_alloc ?_ _)); refine blk_put (cs := #[.int .i64 ((rd_T104 l0 x10_1).f0), .int .i64 ((rd_T104 l0 x10_1).f1), .string (⟨#[]⟩ : ByteArray)]) ?_ 2 _ rfl; (with_reducible repeat (first | refine blk_drewN ?_ _ | refine blk_drew ?_ | refine blk_alloc ?_ _)); refine blk_put (cs := #[.int .i64 ((rd_T104 l0 x10_1).f0), .int .i64 0, .string (⟨#[]⟩ : ByteArray)]) ?_ 1 _ rfl; (with_reducible repeat (first | refine blk_drewN ?_ _ | refine blk_drew ?_ | refine blk_alloc ?_ _)); refine blk_put (cs := #[.int .i64 0, .int .i64 0, .string (⟨#[]⟩ : ByteArray)]) ?_ 0 _ rfl; (with_reducible repeat (first | refine blk_drewN ?_ _ | refine blk_drew ?_ | refine blk_alloc ?_ _)); exact BK231.out) hb); have n1_ := Aside0.mk (below_step (by repeat (first | (with_reducible first | exact HB.out | apply below_alloc | apply pw_below_drewN | apply below_drew1 | refine below_set ?_ GE231.out) | exact HB.out)) hb); clear BK231; clear HB; have BK231 := n0_; have HB := n1_; clear n0_ n1_; (try clear hb); (try clear hb2); (try clear hk); (try clear hi)))
        go_roundg k1
        case measure => have := HK1.out; omega
        case rel => exact ⟨(wrap64 (x10_1 + 1)), (by first | rfl | (simp; done) | (simp [*]; done)), H', ⟨by have := HK1.out; omega⟩, ⟨by repeat (first | (with_reducible first | exact HB.out | apply below_alloc | apply pw_below_drewN | apply below_drew1 | refine below_set ?_ GE231.out) | exact HB.out)⟩⟩
       ·replace c7 := Bool.eq_false_iff.mpr c7
        subst c7
        have H1 : (some false) = some r := by first | (rw [if_neg (show ¬ (false = true) by decide)] at H; exact H) | rfl
        clear H
        have H := H1
        clear H1
        obtain rfl := Option.some.inj H
        have p230 : 0 ≤ (x10_1 : Int) := of_decide_eq_true (by first | (with_reducible assumption) | assumption)
        have q230 : x10_1 < (l0.length : Int) := of_decide_eq_true (by first | (with_reducible assumption) | assumption)
        obtain ⟨ad230, e230, hx230_0, hx230_1, hx230_2⟩ := at_T104 HR0.out x10_1 p230 q230
        cases e230
        replace hx230_0 := (HB.out.cell (World.block_lt_of_cell? w _ hx230_0)).trans hx230_0
        replace hx230_1 := (HB.out.cell (World.block_lt_of_cell? w _ hx230_1)).trans hx230_1
        replace hx230_2 := (HB.out.cell (World.block_lt_of_cell? w _ hx230_2)).trans hx230_2
        replace p230 := eq_true p230
        replace q230 := eq_true q230
        go_wp2_with (first | ((with_reducible refine gate_dst (N := 4) rfl ?_); refine box_event ?hg (N := 4) ?hd (cs := #[.int .i64 0, .int .i64 0, .string (⟨#[]⟩ : ByteArray)]) (t := 104) ?hr ?_; (case hd => rfl); (case hg => rfl); (case hr => first | (go_simp; done) | (go_simp; rfl)); intro gb231 hg w11 hbox hb; have n0_ := Aside0.mk (below_step (by repeat (first | (with_reducible first | exact HB.out | apply below_alloc | apply pw_below_drewN | apply below_drew1) | exact HB.out)) hb); have n1_ := Aside0.mk (hbox); have n2_ := Aside0.mk ((by rw [hg]; exact (below_size (by repeat (first | (with_reducible first | exact HB.out | apply below_alloc | apply pw_below_drewN | apply below_drew1) | exact HB.out))) : w.heap.size ≤ gb231)); have n3_ := Aside0.mk ((by rw [hg]; exact (below_size (by repeat (first | (with_reducible first | exact HB.out | apply below_alloc | apply pw_below_drewN | apply below_drew1) | exact HB.out))) : w.heap.size ≤ gb231)); clear HB; have HB := n0_; have BK231 := n1_; have GW231 := n2_; have GE231 := n3_; clear n0_ n1_ n2_ n3_; clear hb hbox hg; have hcz12_0 : w11.cell? ⟨gb231, 0, none⟩ = some (.int .i64 0) := (blk_cell BK231.out 0).trans rfl; have hcz12_1 : w11.cell? ⟨gb231, 1, none⟩ = some (.int .i64 0) := (blk_cell BK231.out 1).trans rfl; have hcz12_2 : w11.cell? ⟨gb231, 2, none⟩ = some (.string (⟨#[]⟩ : ByteArray)) := (blk_cell BK231.out 2).trans rfl; have hfz12_0 := blk_frozen BK231.out 0; have hfz12_1 := blk_frozen BK231.out 1; have hfz12_2 := blk_frozen BK231.out 2) | ((with_reducible refine gate_callee (f := 139) rfl ?_); refine goesL_ (some 15) rfl rfl Try.func139 (by kernel_rfl) rfl #[.agg #[.int .i64 ((rd_T104 l0 x10_1).f0), .int .i64 ((rd_T104 l0 x10_1).f1), .string ((rd_T104 l0 x10_1).f2)]] rfl (by (try simp only [List.map_toArray, List.map_cons, List.map_nil]); first | done | rfl | (simp only [List.length_drop, List.length_take]; rfl)) ?_; (with_reducible refine (spec_l1GoodVal.calls k1 ((rd_T104 l0 x10_1).f0) ((rd_T104 l0 x10_1).f1) ((rd_T104 l0 x10_1).f2) false _ A6.out).mono ?_); rintro e w13 ⟨rfl, hb⟩; refine ⟨_, rfl, ?_⟩; have n0_ := Aside0.mk (blk_below (g := gb231) (o := .cells #[.int .i64 ((rd_T104 l0 x10_1).f0), .int .i64 ((rd_T104 l0 x10_1).f1), .string ((rd_T104 l0 x10_1).f2)] 104 (0, 0)) (by (with_reducible repeat (first | refine blk_drewN ?_ _ | refine blk_drew ?_ | refine blk_alloc ?_ _)); refine blk_put (cs := #[.int .i64 ((rd_T104 l0 x10_1).f0), .int .i64 ((rd_T104 l0 x10_1).f1), .string (⟨#[]⟩ : ByteArray)]) ?_ 2 _ rfl; (with_reducible repeat (first | refine blk_drewN ?_ _ | refine blk_drew ?_ | refine blk_alloc ?_ _)); refine blk_put (cs := #[.int .i64 ((rd_T104 l0 x10_1).f0), .int .i64 0, .string (⟨#[]⟩ : ByteArray)]) ?_ 1 _ rfl; (with_reducible repeat (first | refine blk_drewN ?_ _ | refine blk_drew ?_ | refine blk_alloc ?_ _)); refine blk_put (cs := #[.int .i64 0, .int .i64 0, .string (⟨#[]⟩ : ByteArray)]) ?_ 0 _ rfl; (with_reducible repeat (first | refine blk_drewN ?_ _ | refine blk_drew ?_ | refine blk_alloc ?_ _)); exact BK231.out) hb); have n1_ := Aside0.mk (below_step (by repeat (first | (with_reducible first | exact HB.out | apply below_alloc | apply pw_below_drewN | apply below_drew1 | refine below_set ?_ GE231.out) | exact HB.out)) hb); clear BK231; clear HB; have BK231 := n0_; have HB := n1_; clear n0_ n1_; (try clear hb); (try clear hb2); (try clear hk); (try clear hi)))
        go_ret
        exact ⟨by first | rfl | (simp [errW_none, errW_some] <;> rfl) | (simp [*, errW_none, errW_some] <;> rfl), by repeat (first | (with_reducible first | exact HB.out | apply below_alloc | apply pw_below_drewN | apply below_drew1 | refine below_set ?_ GE231.out) | exact HB.out)⟩
      ·rw [if_neg c5] at H
       exact absurd H (by simp)
     ·rw [if_neg c4] at H
      exact absurd H (by simp)
    ·rw [if_neg c3] at H
     have c3b0 : decide (x10_1 < (l0.length : Int)) = false := decide_eq_false c3
     clear c3
     obtain rfl := Option.some.inj H
     go_wp2
     go_ret
     exact ⟨by first | rfl | (simp [errW_none, errW_some] <;> rfl) | (simp [*, errW_none, errW_some] <;> rfl), by repeat (first | (with_reducible first | exact HB.out | apply below_alloc | apply pw_below_drewN | apply below_drew1) | exact HB.out)⟩
def spec_l1GoodFacts.l0 : Nat → Int → List (S38) → Int → Int → Option (Bool)
 | 0, _, _, _, _ => none
 | k + 1, x3, x9, x10, x11 => if x11 < x10 then (if 0 ≤ x11 then (if x11 < (x9.length : Int) then (if ((rd_T38 x9 x11).f0) ≤ x3 then (some false) else (if ((rd_T38 x9 x11).f0) > 1000000 then (some false) else ((spec_l1GoodSym.f k ((rd_T38 x9 x11).f1)).bind fun t235 => (if t235 = true then ((spec_l1GoodSlots.f k ((rd_T38 x9 x11).f2)).bind fun t236 => (if t236 = true then (spec_l1GoodFacts.l0 k ((rd_T38 x9 x11).f0) x9 x10 (wrap64 (x11 + 1))) else (some false))) else (some false))))) else (none)) else (none)) else (some true)
def spec_l1GoodFacts.f (k : Nat) (l0 : List (S38)) : Option (Bool) := if (l0.length : Int) > 40 then (some false) else (spec_l1GoodFacts.l0 k 0 l0 (l0.length : Int) 0)
theorem spec_l1GoodFacts.mono_l : ∀ k, (∀ y0 y1 y2 y3, LeO (spec_l1GoodFacts.l0 k y0 y1 y2 y3) (spec_l1GoodFacts.l0 (k + 1) y0 y1 y2 y3))
 | 0 => fun _ _ _ _ r h => by simp [spec_l1GoodFacts.l0] at h
 | k + 1 => by
  have ih0 := spec_l1GoodFacts.mono_l k
  ·intro y0 y1 y2 y3
   unfold spec_l1GoodFacts.l0
   repeat' first
   | (with_reducible exact ih0 _ _ _ _)
   | (with_reducible exact spec_l1GoodSlots.mono _ _)
   | (with_reducible exact spec_l1GoodSym.mono _ _)
   | (with_reducible exact LeO.refl _)
   | (with_reducible exact LeO.none _)
   | (with_reducible refine LeO.ite ?_ ?_)
   | (with_reducible refine LeO.bind ?_ (fun _ => ?_))
   | exact ih0 _ _ _ _
   | exact spec_l1GoodSlots.mono _ _
   | exact spec_l1GoodSym.mono _ _
   | exact LeO.none _
   | refine LeO.ite ?_ ?_
   | refine LeO.bind ?_ (fun _ => ?_)
theorem spec_l1GoodFacts.mono : ∀ a0 k, LeO (spec_l1GoodFacts.f k a0) (spec_l1GoodFacts.f (k + 1) a0) := by
 intro a0 k
 have ih0 := spec_l1GoodFacts.mono_l k
 unfold spec_l1GoodFacts.f
 repeat' first
   | (with_reducible exact ih0 _ _ _ _)
   | (with_reducible exact spec_l1GoodSlots.mono _ _)
   | (with_reducible exact spec_l1GoodSym.mono _ _)
   | (with_reducible exact LeO.refl _)
   | (with_reducible exact LeO.none _)
   | (with_reducible refine LeO.ite ?_ ?_)
   | (with_reducible refine LeO.bind ?_ (fun _ => ?_))
   | exact ih0 _ _ _ _
   | exact spec_l1GoodSlots.mono _ _
   | exact spec_l1GoodSym.mono _ _
   | exact LeO.none _
   | refine LeO.ite ?_ ?_
   | refine LeO.bind ?_ (fun _ => ?_)
set_option maxHeartbeats 8000000 in
set_option maxRecDepth 100000 in
theorem spec_l1GoodFacts.calls (k : Nat) (A0 : Option Addr) (c0 : Nat) (l0 : List (S38)) (r : Bool) (w : World) (hr0 : Kd.C k38 w A0 l0.length l0) (hc0 : l0.length ≤ c0) (h : spec_l1GoodFacts.f k l0 = some r) :
  Calls Try.prog 66 #[.slice A0 l0.length c0] w fun e w' => e = .returned (.bool r) ∧ Below w.heap.size w w' := by
 have hu38 := Try.underlying38
 have HR0 := Aside0.mk hr0
 have HC0 := Aside0.mk hc0
 clear hr0 hc0
 have HB := Aside0.mk (Below.refl w.heap.size w)
 have H : (if (l0.length : Int) > 40 then (some false) else (spec_l1GoodFacts.l0 k 0 l0 (l0.length : Int) 0)) = some r := h
 clear h
 by_cases c2 : (l0.length : Int) > 40
 ·rw [if_pos c2] at H
  have c2b0 : decide (40 < (l0.length : Int)) = true := decide_eq_true c2
  have c2b1 : decide (40 < l0.length) = true := decide_eq_true (by omega)
  clear c2
  obtain rfl := Option.some.inj H
  go_enter Try.func66, Try.ntmps66
  go_wp2
  go_ret
  exact ⟨by first | rfl | (simp [errW_none, errW_some] <;> rfl) | (simp [*, errW_none, errW_some] <;> rfl), by repeat (first | (with_reducible first | exact HB.out | apply below_alloc | apply pw_below_drewN | apply below_drew1) | exact HB.out)⟩
 ·rw [if_neg c2] at H
  have c2b0 : decide (40 < (l0.length : Int)) = false := decide_eq_false c2
  have c2b1 : decide (40 < l0.length) = false := decide_eq_false (by omega)
  clear c2
  have H' := Aside0.mk H
  clear H
  go_enter Try.func66, Try.ntmps66
  go_wp2
  go_loopg [3, 11] k (fun kq v3 v11 w' => ∃ (x3_1 : Int) (x11_1 : Int), v3 = .int .i64 x3_1 ∧ v11 = .int .i64 x11_1 ∧ Aside0 (spec_l1GoodFacts.l0 kq x3_1 l0 (l0.length : Int) x11_1 = some r) ∧ Aside0 (kq ≤ k) ∧ Aside0 (Below w.heap.size w w'))
  case atStart => exact ⟨(0), (0), (by first | rfl | (simp; done) | (simp [*]; done)), (by first | rfl | (simp; done) | (simp [*]; done)), H', ⟨Nat.le_refl _⟩, ⟨by repeat (first | (with_reducible first | exact HB.out | apply below_alloc | apply pw_below_drewN | apply below_drew1) | exact HB.out)⟩⟩
  case round =>
   clear H'
   try clear c2
   try clear c2b0
   try clear c2b1
   try clear p2
   obtain ⟨x3_1, x11_1, rfl, rfl, HA, HK1, HB⟩ := hrel
   cases gk with
   | zero => exact absurd HA.out (by simp [spec_l1GoodFacts.l0])
   | succ k1 =>
    have H := HA.out
    clear HA
    simp only [spec_l1GoodFacts.l0] at H
    by_cases c3 : x11_1 < (l0.length : Int)
    ·rw [if_pos c3] at H
     have c3b0 : decide (x11_1 < (l0.length : Int)) = true := decide_eq_true c3
     clear c3
     by_cases c4 : 0 ≤ x11_1
     ·rw [if_pos c4] at H
      have c4b0 : decide (0 ≤ x11_1) = true := decide_eq_true c4
      clear c4
      by_cases c5 : x11_1 < (l0.length : Int)
      ·rw [if_pos c5] at H
       have c5b0 : decide (x11_1 < (l0.length : Int)) = true := decide_eq_true c5
       clear c5
       by_cases c6 : ((rd_T38 l0 x11_1).f0) ≤ x3_1
       ·rw [if_pos c6] at H
        have c6b0 : decide (((rd_T38 l0 x11_1).f0) ≤ x3_1) = true := decide_eq_true c6
        clear c6
        obtain rfl := Option.some.inj H
        have p233 : 0 ≤ (x11_1 : Int) := of_decide_eq_true (by first | (with_reducible assumption) | assumption)
        have q233 : x11_1 < (l0.length : Int) := of_decide_eq_true (by first | (with_reducible assumption) | assumption)
        obtain ⟨ad233, A233_2, c233_2, e233, hx233_0, hx233_1, hx233_2, hl233_2, hi233_2⟩ := at_T38 HR0.out x11_1 p233 q233
        cases e233
        replace hx233_0 := (HB.out.cell (World.block_lt_of_cell? w _ hx233_0)).trans hx233_0
        replace hx233_1 := (HB.out.cell (World.block_lt_of_cell? w _ hx233_1)).trans hx233_1
        replace hx233_2 := (HB.out.cell (World.block_lt_of_cell? w _ hx233_2)).trans hx233_2
        have HR233_2 := Aside0.mk hi233_2
        have HC233_2 := Aside0.mk hl233_2
        clear hi233_2 hl233_2
        replace p233 := eq_true p233
        replace q233 := eq_true q233
        go_wp2_with (first | ((with_reducible refine gate_dst (N := 5) rfl ?_); refine box_event ?hg (N := 5) ?hd (cs := #[.int .i64 0, .string (⟨#[]⟩ : ByteArray), .slice none 0 0]) (t := 38) ?hr ?_; (case hd => rfl); (case hg => rfl); (case hr => first | (go_simp; done) | (go_simp; rfl)); intro gb234 hg w7 hbox hb; have n0_ := Aside0.mk (below_step (by repeat (first | (with_reducible first | exact HB.out | apply below_alloc | apply pw_below_drewN | apply below_drew1) | exact HB.out)) hb); have n1_ := Aside0.mk (hbox); have n2_ := Aside0.mk ((by rw [hg]; exact (below_size (by repeat (first | (with_reducible first | exact HB.out | apply below_alloc | apply pw_below_drewN | apply below_drew1) | exact HB.out))) : w.heap.size ≤ gb234)); have n3_ := Aside0.mk ((by rw [hg]; exact (below_size (by repeat (first | (with_reducible first | exact HB.out | apply below_alloc | apply pw_below_drewN | apply below_drew1) | exact HB.out))) : w.heap.size ≤ gb234)); clear HB; have HB := n0_; have BK234 := n1_; have GW234 := n2_; have GE234 := n3_; clear n0_ n1_ n2_ n3_; clear hb hbox hg; have hcz8_0 : w7.cell? ⟨gb234, 0, none⟩ = some (.int .i64 0) := (blk_cell BK234.out 0).trans rfl; have hcz8_1 : w7.cell? ⟨gb234, 1, none⟩ = some (.string (⟨#[]⟩ : ByteArray)) := (blk_cell BK234.out 1).trans rfl; have hcz8_2 : w7.cell? ⟨gb234, 2, none⟩ = some (.slice none 0 0) := (blk_cell BK234.out 2).trans rfl; have hfz8_0 := blk_frozen BK234.out 0; have hfz8_1 := blk_frozen BK234.out 1; have hfz8_2 := blk_frozen BK234.out 2))
        go_ret
        exact ⟨by first | rfl | (simp [errW_none, errW_some] <;> rfl) | (simp [*, errW_none, errW_some] <;> rfl), by repeat (first | (with_reducible first | exact HB.out | apply below_alloc | apply pw_below_drewN | apply below_drew1 | refine below_set ?_ GE234.out) | exact HB.out)⟩
       ·rw [if_neg c6] at H
        have c6b0 : decide (((rd_T38 l0 x11_1).f0) ≤ x3_1) = false := decide_eq_false c6
        clear c6
        by_cases c9 : ((rd_T38 l0 x11_1).f0) > 1000000
        ·rw [if_pos c9] at H
         have c9b0 : decide (1000000 < ((rd_T38 l0 x11_1).f0)) = true := decide_eq_true c9
         clear c9
         obtain rfl := Option.some.inj H
         have p233 : 0 ≤ (x11_1 : Int) := of_decide_eq_true (by first | (with_reducible assumption) | assumption)
         have q233 : x11_1 < (l0.length : Int) := of_decide_eq_true (by first | (with_reducible assumption) | assumption)
         obtain ⟨ad233, A233_2, c233_2, e233, hx233_0, hx233_1, hx233_2, hl233_2, hi233_2⟩ := at_T38 HR0.out x11_1 p233 q233
         cases e233
         replace hx233_0 := (HB.out.cell (World.block_lt_of_cell? w _ hx233_0)).trans hx233_0
         replace hx233_1 := (HB.out.cell (World.block_lt_of_cell? w _ hx233_1)).trans hx233_1
         replace hx233_2 := (HB.out.cell (World.block_lt_of_cell? w _ hx233_2)).trans hx233_2
         have HR233_2 := Aside0.mk hi233_2
         have HC233_2 := Aside0.mk hl233_2
         clear hi233_2 hl233_2
         replace p233 := eq_true p233
         replace q233 := eq_true q233
         go_wp2_with (first | ((with_reducible refine gate_dst (N := 5) rfl ?_); refine box_event ?hg (N := 5) ?hd (cs := #[.int .i64 0, .string (⟨#[]⟩ : ByteArray), .slice none 0 0]) (t := 38) ?hr ?_; (case hd => rfl); (case hg => rfl); (case hr => first | (go_simp; done) | (go_simp; rfl)); intro gb234 hg w10 hbox hb; have n0_ := Aside0.mk (below_step (by repeat (first | (with_reducible first | exact HB.out | apply below_alloc | apply pw_below_drewN | apply below_drew1) | exact HB.out)) hb); have n1_ := Aside0.mk (hbox); have n2_ := Aside0.mk ((by rw [hg]; exact (below_size (by repeat (first | (with_reducible first | exact HB.out | apply below_alloc | apply pw_below_drewN | apply below_drew1) | exact HB.out))) : w.heap.size ≤ gb234)); have n3_ := Aside0.mk ((by rw [hg]; exact (below_size (by repeat (first | (with_reducible first | exact HB.out | apply below_alloc | apply pw_below_drewN | apply below_drew1) | exact HB.out))) : w.heap.size ≤ gb234)); clear HB; have HB := n0_; have BK234 := n1_; have GW234 := n2_; have GE234 := n3_; clear n0_ n1_ n2_ n3_; clear hb hbox hg; have hcz11_0 : w10.cell? ⟨gb234, 0, none⟩ = some (.int .i64 0) := (blk_cell BK234.out 0).trans rfl; have hcz11_1 : w10.cell? ⟨gb234, 1, none⟩ = some (.string (⟨#[]⟩ : ByteArray)) := (blk_cell BK234.out 1).trans rfl; have hcz11_2 : w10.cell? ⟨gb234, 2, none⟩ = some (.slice none 0 0) := (blk_cell BK234.out 2).trans rfl; have hfz11_0 := blk_frozen BK234.out 0; have hfz11_1 := blk_frozen BK234.out 1; have hfz11_2 := blk_frozen BK234.out 2))
         go_ret
         exact ⟨by first | rfl | (simp [errW_none, errW_some] <;> rfl) | (simp [*, errW_none, errW_some] <;> rfl), by repeat (first | (with_reducible first | exact HB.out | apply below_alloc | apply pw_below_drewN | apply below_drew1 | refine below_set ?_ GE234.out) | exact HB.out)⟩
        ·rw [if_neg c9] at H
         have c9b0 : decide (1000000 < ((rd_T38 l0 x11_1).f0)) = false := decide_eq_false c9
         clear c9
         replace H := Option.bind_eq_some_iff.mp H
         obtain ⟨t235, A120, H⟩ := H
         replace H : (if t235 = true then ((spec_l1GoodSlots.f k1 ((rd_T38 l0 x11_1).f2)).bind fun t236 => (if t236 = true then (spec_l1GoodFacts.l0 k1 ((rd_T38 l0 x11_1).f0) l0 (l0.length : Int) (wrap64 (x11_1 + 1))) else (some false))) else (some false)) = some r := H
         have A12 := Aside0.mk A120
         clear A120
         by_cases c13 : t235 = true
         ·subst c13
          have H1 : ((spec_l1GoodSlots.f k1 ((rd_T38 l0 x11_1).f2)).bind fun t236 => (if t236 = true then (spec_l1GoodFacts.l0 k1 ((rd_T38 l0 x11_1).f0) l0 (l0.length : Int) (wrap64 (x11_1 + 1))) else (some false))) = some r := by first | (rw [if_pos rfl] at H; exact H) | rfl
          clear H
          have H := H1
          clear H1
          replace H := Option.bind_eq_some_iff.mp H
          obtain ⟨t236, A140, H⟩ := H
          replace H : (if t236 = true then (spec_l1GoodFacts.l0 k1 ((rd_T38 l0 x11_1).f0) l0 (l0.length : Int) (wrap64 (x11_1 + 1))) else (some false)) = some r := H
          have A14 := Aside0.mk A140
          clear A140
          by_cases c15 : t236 = true
          ·subst c15
           have H1 : (spec_l1GoodFacts.l0 k1 ((rd_T38 l0 x11_1).f0) l0 (l0.length : Int) (wrap64 (x11_1 + 1))) = some r := by first | (rw [if_pos rfl] at H; exact H) | rfl
           clear H
           have H := H1
           clear H1
           have H' := Aside0.mk H
           clear H
           have p233 : 0 ≤ (x11_1 : Int) := of_decide_eq_true (by first | (with_reducible assumption) | assumption)
           have q233 : x11_1 < (l0.length : Int) := of_decide_eq_true (by first | (with_reducible assumption) | assumption)
           obtain ⟨ad233, A233_2, c233_2, e233, hx233_0, hx233_1, hx233_2, hl233_2, hi233_2⟩ := at_T38 HR0.out x11_1 p233 q233
           cases e233
           replace hx233_0 := (HB.out.cell (World.block_lt_of_cell? w _ hx233_0)).trans hx233_0
           replace hx233_1 := (HB.out.cell (World.block_lt_of_cell? w _ hx233_1)).trans hx233_1
           replace hx233_2 := (HB.out.cell (World.block_lt_of_cell? w _ hx233_2)).trans hx233_2
           have HR233_2 := Aside0.mk hi233_2
           have HC233_2 := Aside0.mk hl233_2
           clear hi233_2 hl233_2
           replace p233 := eq_true p233
           replace q233 := eq_true q233
           go_wp2_with (first | ((with_reducible refine gate_dst (N := 5) rfl ?_); refine box_event ?hg (N := 5) ?hd (cs := #[.int .i64 0, .string (⟨#[]⟩ : ByteArray), .slice none 0 0]) (t := 38) ?hr ?_; (case hd => rfl); (case hg => rfl); (case hr => first | (go_simp; done) | (go_simp; rfl)); intro gb234 hg w16 hbox hb; have n0_ := Aside0.mk (below_step (by repeat (first | (with_reducible first | exact HB.out | apply below_alloc | apply pw_below_drewN | apply below_drew1) | exact HB.out)) hb); have n1_ := Aside0.mk (hbox); have n2_ := Aside0.mk ((by rw [hg]; exact (below_size (by repeat (first | (with_reducible first | exact HB.out | apply below_alloc | apply pw_below_drewN | apply below_drew1) | exact HB.out))) : w.heap.size ≤ gb234)); have n3_ := Aside0.mk ((by rw [hg]; exact (below_size (by repeat (first | (with_reducible first | exact HB.out | apply below_alloc | apply pw_below_drewN | apply below_drew1) | exact HB.out))) : w.heap.size ≤ gb234)); clear HB; have HB := n0_; have BK234 := n1_; have GW234 := n2_; have GE234 := n3_; clear n0_ n1_ n2_ n3_; clear hb hbox hg; have hcz17_0 : w16.cell? ⟨gb234, 0, none⟩ = some (.int .i64 0) := (blk_cell BK234.out 0).trans rfl; have hcz17_1 : w16.cell? ⟨gb234, 1, none⟩ = some (.string (⟨#[]⟩ : ByteArray)) := (blk_cell BK234.out 1).trans rfl; have hcz17_2 : w16.cell? ⟨gb234, 2, none⟩ = some (.slice none 0 0) := (blk_cell BK234.out 2).trans rfl; have hfz17_0 := blk_frozen BK234.out 0; have hfz17_1 := blk_frozen BK234.out 1; have hfz17_2 := blk_frozen BK234.out 2) | (go_at_call 107; (with_reducible refine (spec_l1GoodSym.calls k1 ((rd_T38 l0 x11_1).f1) true _ A12.out).mono ?_); rintro e w' ⟨rfl, ⟨nd, rfl⟩⟩) | (go_at_call 108; (with_reducible refine (spec_l1GoodSlots.calls k1 _ _ ((rd_T38 l0 x11_1).f2) true _ ?side1 ?side2 A14.out).mono ?_); (case side1 => exact Kd.C_below HR233_2.out (by repeat (first | (with_reducible first | exact HB.out | apply below_alloc | apply pw_below_drewN | apply below_drew1 | refine below_set ?_ GE234.out) | exact HB.out))); (case side2 => exact HC233_2.out); rintro e w18 ⟨rfl, hb⟩; have n0_ := Aside0.mk (blk_below (g := gb234) (o := .cells #[.int .i64 ((rd_T38 l0 x11_1).f0), .string ((rd_T38 l0 x11_1).f1), .slice A233_2 ((rd_T38 l0 x11_1).f2).length c233_2] 38 (0, 0)) (by (with_reducible repeat (first | refine blk_drewN ?_ _ | refine blk_drew ?_ | refine blk_alloc ?_ _)); refine blk_put (cs := #[.int .i64 ((rd_T38 l0 x11_1).f0), .string ((rd_T38 l0 x11_1).f1), .slice none 0 0]) ?_ 2 _ rfl; (with_reducible repeat (first | refine blk_drewN ?_ _ | refine blk_drew ?_ | refine blk_alloc ?_ _)); refine blk_put (cs := #[.int .i64 ((rd_T38 l0 x11_1).f0), .string (⟨#[]⟩ : ByteArray), .slice none 0 0]) ?_ 1 _ rfl; (with_reducible repeat (first | refine blk_drewN ?_ _ | refine blk_drew ?_ | refine blk_alloc ?_ _)); refine blk_put (cs := #[.int .i64 0, .string (⟨#[]⟩ : ByteArray), .slice none 0 0]) ?_ 0 _ rfl; (with_reducible repeat (first | refine blk_drewN ?_ _ | refine blk_drew ?_ | refine blk_alloc ?_ _)); exact BK234.out) hb); have n1_ := Aside0.mk (below_step (by repeat (first | (with_reducible first | exact HB.out | apply below_alloc | apply pw_below_drewN | apply below_drew1 | refine below_set ?_ GE234.out) | exact HB.out)) hb); clear BK234; clear HB; have BK234 := n0_; have HB := n1_; clear n0_ n1_; (try clear hb); (try clear hb2); (try clear hk); (try clear hi); have hcz19_0 : w18.cell? ⟨gb234, 0, none⟩ = some (.int .i64 ((rd_T38 l0 x11_1).f0)) := (blk_cell BK234.out 0).trans rfl; have hcz19_1 : w18.cell? ⟨gb234, 1, none⟩ = some (.string ((rd_T38 l0 x11_1).f1)) := (blk_cell BK234.out 1).trans rfl; have hcz19_2 : w18.cell? ⟨gb234, 2, none⟩ = some (.slice A233_2 ((rd_T38 l0 x11_1).f2).length c233_2) := (blk_cell BK234.out 2).trans rfl; have hfz19_0 := blk_frozen BK234.out 0; have hfz19_1 := blk_frozen BK234.out 1; have hfz19_2 := blk_frozen BK234.out 2))
           go_roundg k1
           case measure => have := HK1.out; omega
           case rel => exact ⟨((rd_T38 l0 x11_1).f0), (wrap64 (x11_1 + 1)), (by first | rfl | (simp; done) | (simp [*]; done)), (by first | rfl | (simp; done) | (simp [*]; done)), H', ⟨by have := HK1.out; omega⟩, ⟨by repeat (first | (with_reducible first | exact HB.out | apply below_alloc | apply pw_below_drewN | apply below_drew1 | refine below_set ?_ GE234.out) | exact HB.out)⟩⟩
          ·replace c15 := Bool.eq_false_iff.mpr c15
           subst c15
           have H1 : (some false) = some r := by first | (rw [if_neg (show ¬ (false = true) by decide)] at H; exact H) | rfl
           clear H
           have H := H1
           clear H1
           obtain rfl := Option.some.inj H
           have p233 : 0 ≤ (x11_1 : Int) := of_decide_eq_true (by first | (with_reducible assumption) | assumption)
           have q233 : x11_1 < (l0.length : Int) := of_decide_eq_true (by first | (with_reducible assumption) | assumption)
           obtain ⟨ad233, A233_2, c233_2, e233, hx233_0, hx233_1, hx233_2, hl233_2, hi233_2⟩ := at_T38 HR0.out x11_1 p233 q233
           cases e233
           replace hx233_0 := (HB.out.cell (World.block_lt_of_cell? w _ hx233_0)).trans hx233_0
           replace hx233_1 := (HB.out.cell (World.block_lt_of_cell? w _ hx233_1)).trans hx233_1
           replace hx233_2 := (HB.out.cell (World.block_lt_of_cell? w _ hx233_2)).trans hx233_2
           have HR233_2 := Aside0.mk hi233_2
           have HC233_2 := Aside0.mk hl233_2
           clear hi233_2 hl233_2
           replace p233 := eq_true p233
           replace q233 := eq_true q233
           go_wp2_with (first | ((with_reducible refine gate_dst (N := 5) rfl ?_); refine box_event ?hg (N := 5) ?hd (cs := #[.int .i64 0, .string (⟨#[]⟩ : ByteArray), .slice none 0 0]) (t := 38) ?hr ?_; (case hd => rfl); (case hg => rfl); (case hr => first | (go_simp; done) | (go_simp; rfl)); intro gb234 hg w20 hbox hb; have n0_ := Aside0.mk (below_step (by repeat (first | (with_reducible first | exact HB.out | apply below_alloc | apply pw_below_drewN | apply below_drew1) | exact HB.out)) hb); have n1_ := Aside0.mk (hbox); have n2_ := Aside0.mk ((by rw [hg]; exact (below_size (by repeat (first | (with_reducible first | exact HB.out | apply below_alloc | apply pw_below_drewN | apply below_drew1) | exact HB.out))) : w.heap.size ≤ gb234)); have n3_ := Aside0.mk ((by rw [hg]; exact (below_size (by repeat (first | (with_reducible first | exact HB.out | apply below_alloc | apply pw_below_drewN | apply below_drew1) | exact HB.out))) : w.heap.size ≤ gb234)); clear HB; have HB := n0_; have BK234 := n1_; have GW234 := n2_; have GE234 := n3_; clear n0_ n1_ n2_ n3_; clear hb hbox hg; have hcz21_0 : w20.cell? ⟨gb234, 0, none⟩ = some (.int .i64 0) := (blk_cell BK234.out 0).trans rfl; have hcz21_1 : w20.cell? ⟨gb234, 1, none⟩ = some (.string (⟨#[]⟩ : ByteArray)) := (blk_cell BK234.out 1).trans rfl; have hcz21_2 : w20.cell? ⟨gb234, 2, none⟩ = some (.slice none 0 0) := (blk_cell BK234.out 2).trans rfl; have hfz21_0 := blk_frozen BK234.out 0; have hfz21_1 := blk_frozen BK234.out 1; have hfz21_2 := blk_frozen BK234.out 2) | (go_at_call 107; (with_reducible refine (spec_l1GoodSym.calls k1 ((rd_T38 l0 x11_1).f1) true _ A12.out).mono ?_); rintro e w' ⟨rfl, ⟨nd, rfl⟩⟩) | (go_at_call 108; (with_reducible refine (spec_l1GoodSlots.calls k1 _ _ ((rd_T38 l0 x11_1).f2) false _ ?side1 ?side2 A14.out).mono ?_); (case side1 => exact Kd.C_below HR233_2.out (by repeat (first | (with_reducible first | exact HB.out | apply below_alloc | apply pw_below_drewN | apply below_drew1 | refine below_set ?_ GE234.out) | exact HB.out))); (case side2 => exact HC233_2.out); rintro e w22 ⟨rfl, hb⟩; have n0_ := Aside0.mk (blk_below (g := gb234) (o := .cells #[.int .i64 ((rd_T38 l0 x11_1).f0), .string ((rd_T38 l0 x11_1).f1), .slice A233_2 ((rd_T38 l0 x11_1).f2).length c233_2] 38 (0, 0)) (by (with_reducible repeat (first | refine blk_drewN ?_ _ | refine blk_drew ?_ | refine blk_alloc ?_ _)); refine blk_put (cs := #[.int .i64 ((rd_T38 l0 x11_1).f0), .string ((rd_T38 l0 x11_1).f1), .slice none 0 0]) ?_ 2 _ rfl; (with_reducible repeat (first | refine blk_drewN ?_ _ | refine blk_drew ?_ | refine blk_alloc ?_ _)); refine blk_put (cs := #[.int .i64 ((rd_T38 l0 x11_1).f0), .string (⟨#[]⟩ : ByteArray), .slice none 0 0]) ?_ 1 _ rfl; (with_reducible repeat (first | refine blk_drewN ?_ _ | refine blk_drew ?_ | refine blk_alloc ?_ _)); refine blk_put (cs := #[.int .i64 0, .string (⟨#[]⟩ : ByteArray), .slice none 0 0]) ?_ 0 _ rfl; (with_reducible repeat (first | refine blk_drewN ?_ _ | refine blk_drew ?_ | refine blk_alloc ?_ _)); exact BK234.out) hb); have n1_ := Aside0.mk (below_step (by repeat (first | (with_reducible first | exact HB.out | apply below_alloc | apply pw_below_drewN | apply below_drew1 | refine below_set ?_ GE234.out) | exact HB.out)) hb); clear BK234; clear HB; have BK234 := n0_; have HB := n1_; clear n0_ n1_; (try clear hb); (try clear hb2); (try clear hk); (try clear hi)))
           go_ret
           exact ⟨by first | rfl | (simp [errW_none, errW_some] <;> rfl) | (simp [*, errW_none, errW_some] <;> rfl), by repeat (first | (with_reducible first | exact HB.out | apply below_alloc | apply pw_below_drewN | apply below_drew1 | refine below_set ?_ GE234.out) | exact HB.out)⟩
         ·replace c13 := Bool.eq_false_iff.mpr c13
          subst c13
          have H1 : (some false) = some r := by first | (rw [if_neg (show ¬ (false = true) by decide)] at H; exact H) | rfl
          clear H
          have H := H1
          clear H1
          obtain rfl := Option.some.inj H
          have p233 : 0 ≤ (x11_1 : Int) := of_decide_eq_true (by first | (with_reducible assumption) | assumption)
          have q233 : x11_1 < (l0.length : Int) := of_decide_eq_true (by first | (with_reducible assumption) | assumption)
          obtain ⟨ad233, A233_2, c233_2, e233, hx233_0, hx233_1, hx233_2, hl233_2, hi233_2⟩ := at_T38 HR0.out x11_1 p233 q233
          cases e233
          replace hx233_0 := (HB.out.cell (World.block_lt_of_cell? w _ hx233_0)).trans hx233_0
          replace hx233_1 := (HB.out.cell (World.block_lt_of_cell? w _ hx233_1)).trans hx233_1
          replace hx233_2 := (HB.out.cell (World.block_lt_of_cell? w _ hx233_2)).trans hx233_2
          have HR233_2 := Aside0.mk hi233_2
          have HC233_2 := Aside0.mk hl233_2
          clear hi233_2 hl233_2
          replace p233 := eq_true p233
          replace q233 := eq_true q233
          go_wp2_with (first | ((with_reducible refine gate_dst (N := 5) rfl ?_); refine box_event ?hg (N := 5) ?hd (cs := #[.int .i64 0, .string (⟨#[]⟩ : ByteArray), .slice none 0 0]) (t := 38) ?hr ?_; (case hd => rfl); (case hg => rfl); (case hr => first | (go_simp; done) | (go_simp; rfl)); intro gb234 hg w23 hbox hb; have n0_ := Aside0.mk (below_step (by repeat (first | (with_reducible first | exact HB.out | apply below_alloc | apply pw_below_drewN | apply below_drew1) | exact HB.out)) hb); have n1_ := Aside0.mk (hbox); have n2_ := Aside0.mk ((by rw [hg]; exact (below_size (by repeat (first | (with_reducible first | exact HB.out | apply below_alloc | apply pw_below_drewN | apply below_drew1) | exact HB.out))) : w.heap.size ≤ gb234)); have n3_ := Aside0.mk ((by rw [hg]; exact (below_size (by repeat (first | (with_reducible first | exact HB.out | apply below_alloc | apply pw_below_drewN | apply below_drew1) | exact HB.out))) : w.heap.size ≤ gb234)); clear HB; have HB := n0_; have BK234 := n1_; have GW234 := n2_; have GE234 := n3_; clear n0_ n1_ n2_ n3_; clear hb hbox hg; have hcz24_0 : w23.cell? ⟨gb234, 0, none⟩ = some (.int .i64 0) := (blk_cell BK234.out 0).trans rfl; have hcz24_1 : w23.cell? ⟨gb234, 1, none⟩ = some (.string (⟨#[]⟩ : ByteArray)) := (blk_cell BK234.out 1).trans rfl; have hcz24_2 : w23.cell? ⟨gb234, 2, none⟩ = some (.slice none 0 0) := (blk_cell BK234.out 2).trans rfl; have hfz24_0 := blk_frozen BK234.out 0; have hfz24_1 := blk_frozen BK234.out 1; have hfz24_2 := blk_frozen BK234.out 2) | (go_at_call 107; (with_reducible refine (spec_l1GoodSym.calls k1 ((rd_T38 l0 x11_1).f1) false _ A12.out).mono ?_); rintro e w' ⟨rfl, ⟨nd, rfl⟩⟩))
          go_ret
          exact ⟨by first | rfl | (simp [errW_none, errW_some] <;> rfl) | (simp [*, errW_none, errW_some] <;> rfl), by repeat (first | (with_reducible first | exact HB.out | apply below_alloc | apply pw_below_drewN | apply below_drew1 | refine below_set ?_ GE234.out) | exact HB.out)⟩
      ·rw [if_neg c5] at H
       exact absurd H (by simp)
     ·rw [if_neg c4] at H
      exact absurd H (by simp)
    ·rw [if_neg c3] at H
     have c3b0 : decide (x11_1 < (l0.length : Int)) = false := decide_eq_false c3
     clear c3
     obtain rfl := Option.some.inj H
     go_wp2
     go_ret
     exact ⟨by first | rfl | (simp [errW_none, errW_some] <;> rfl) | (simp [*, errW_none, errW_some] <;> rfl), by repeat (first | (with_reducible first | exact HB.out | apply below_alloc | apply pw_below_drewN | apply below_drew1) | exact HB.out)⟩
def spec_l1SameSlots.l0 : Nat → List (S104) → List (S104) → Int → Int → Option (Bool)
 | 0, _, _, _, _ => none
 | k + 1, x0, x1, x12, x13 => if x13 < x12 then (if 0 ≤ x13 then (if x13 < (x0.length : Int) then (if x13 < (x1.length : Int) then (if (!(((rd_T104 x0 x13).f0) == ((rd_T104 x1 x13).f0)) || (!(((rd_T104 x0 x13).f1) == ((rd_T104 x1 x13).f1)) || (!((((rd_T104 x0 x13).f2).toList) == (((rd_T104 x1 x13).f2).toList))))) = true then (some false) else (spec_l1SameSlots.l0 k x0 x1 x12 (wrap64 (x13 + 1)))) else (none)) else (none)) else (none)) else (some true)
def spec_l1SameSlots.f (k : Nat) (l0 : List (S104)) (l1 : List (S104)) : Option (Bool) := if (l0.length : Int) = (l1.length : Int) then (spec_l1SameSlots.l0 k l0 l1 (l0.length : Int) 0) else (some false)
theorem spec_l1SameSlots.mono_l : ∀ k, (∀ y0 y1 y2 y3, LeO (spec_l1SameSlots.l0 k y0 y1 y2 y3) (spec_l1SameSlots.l0 (k + 1) y0 y1 y2 y3))
 | 0 => fun _ _ _ _ r h => by simp [spec_l1SameSlots.l0] at h
 | k + 1 => by
  have ih0 := spec_l1SameSlots.mono_l k
  ·intro y0 y1 y2 y3
   unfold spec_l1SameSlots.l0
   repeat' first
   | (with_reducible exact ih0 _ _ _ _)
   | (with_reducible exact LeO.refl _)
   | (with_reducible exact LeO.none _)
   | (with_reducible refine LeO.ite ?_ ?_)
   | (with_reducible refine LeO.bind ?_ (fun _ => ?_))
   | exact ih0 _ _ _ _
   | exact LeO.none _
   | refine LeO.ite ?_ ?_
   | refine LeO.bind ?_ (fun _ => ?_)
theorem spec_l1SameSlots.mono : ∀ a0 a1 k, LeO (spec_l1SameSlots.f k a0 a1) (spec_l1SameSlots.f (k + 1) a0 a1) := by
 intro a0 a1 k
 have ih0 := spec_l1SameSlots.mono_l k
 unfold spec_l1SameSlots.f
 repeat' first
   | (with_reducible exact ih0 _ _ _ _)
   | (with_reducible exact LeO.refl _)
   | (with_reducible exact LeO.none _)
   | (with_reducible refine LeO.ite ?_ ?_)
   | (with_reducible refine LeO.bind ?_ (fun _ => ?_))
   | exact ih0 _ _ _ _
   | exact LeO.none _
   | refine LeO.ite ?_ ?_
   | refine LeO.bind ?_ (fun _ => ?_)
end Go.Proofs.Ytoncacdehhmpaaa.P
