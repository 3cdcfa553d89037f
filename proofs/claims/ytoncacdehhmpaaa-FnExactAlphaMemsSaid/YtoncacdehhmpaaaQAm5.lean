/- The row of the law FnExactAlphaMems: for every input the call returns true, and each argument reads behind it as it read before; no condition of ours. -/
import Derived.Sort.OwnSortedInts
import Derived.Lib.OwnBridge
import Derived.Test.YtoncacdehhmpaaaQAm4
namespace Go.Proofs.Ytoncacdehhmpaaa.P
open Go.RowKit Go.Proofs.YtoncacdehhmpaaaW.PrintWords Go.Proofs.YtoncacdehhmpaaaW.PrintLast Go.Proofs.YtoncacdehhmpaaaW.PrintMore
attribute [local go_sem] max2_int min2_int max_two min_two max_three min_three max_four min_four
set_option linter.unusedVariables false
set_option linter.unusedSimpArgs false
def laws_szAlphaS.l0 : Nat → List (S25) → Int → Int → Option (Int)
 | 0, _, _, _ => none
 | k + 1, x0, x1, x5 => if x5 < (x0.length : Int) then (if 0 ≤ x5 then ((laws_szAlpha.f k ((rd_T25 x0 x5).f0) ((rd_T25 x0 x5).f1) ((rd_T25 x0 x5).f2) x1).bind fun t655 => (if t655 < 0 then (some (-1)) else (laws_szAlphaS.l0 k x0 t655 (wrap64 (x5 + 1))))) else (none)) else (some x1)
def laws_szAlphaS.f (k : Nat) (l0 : List (S25)) (a1 : Int) : Option (Int) := if (wrap64 (a1 - (l0.length : Int))) < 0 then (some (-1)) else (laws_szAlphaS.l0 k l0 (wrap64 (a1 - (l0.length : Int))) 0)
theorem laws_szAlphaS.mono_l : ∀ k, (∀ y0 y1 y2, LeO (laws_szAlphaS.l0 k y0 y1 y2) (laws_szAlphaS.l0 (k + 1) y0 y1 y2))
 | 0 => fun _ _ _ r h => by simp [laws_szAlphaS.l0] at h
 | k + 1 => by
  have ih0 := laws_szAlphaS.mono_l k
  ·intro y0 y1 y2
   unfold laws_szAlphaS.l0
   repeat' first
   | (with_reducible exact ih0 _ _ _)
   | (with_reducible exact laws_szAlpha.mono _ _ _ _ _)
   | (with_reducible exact LeO.refl _)
   | (with_reducible exact LeO.none _)
   | (with_reducible refine LeO.ite ?_ ?_)
   | (with_reducible refine LeO.bind ?_ (fun _ => ?_))
   | exact ih0 _ _ _
   | exact laws_szAlpha.mono _ _ _ _ _
   | exact LeO.none _
   | refine LeO.ite ?_ ?_
   | refine LeO.bind ?_ (fun _ => ?_)
theorem laws_szAlphaS.mono : ∀ a0 a1 k, LeO (laws_szAlphaS.f k a0 a1) (laws_szAlphaS.f (k + 1) a0 a1) := by
 intro a0 a1 k
 have ih0 := laws_szAlphaS.mono_l k
 unfold laws_szAlphaS.f
 repeat' first
   | (with_reducible exact ih0 _ _ _)
   | (with_reducible exact laws_szAlpha.mono _ _ _ _ _)
   | (with_reducible exact LeO.refl _)
   | (with_reducible exact LeO.none _)
   | (with_reducible refine LeO.ite ?_ ?_)
   | (with_reducible refine LeO.bind ?_ (fun _ => ?_))
   | exact ih0 _ _ _
   | exact laws_szAlpha.mono _ _ _ _ _
   | exact LeO.none _
   | refine LeO.ite ?_ ?_
   | refine LeO.bind ?_ (fun _ => ?_)
set_option maxHeartbeats 8000000 in
set_option maxRecDepth 100000 in
theorem laws_szAlphaS.calls (k : Nat) (A0 : Option Addr) (c0 : Nat) (l0 : List (S25)) (a1 : Int) (r : Int) (w : World) (hr0 : Kd.C k25 w A0 l0.length l0) (hc0 : l0.length ≤ c0) (h : laws_szAlphaS.f k l0 a1 = some r) :
  Calls Try.prog 82 #[.slice A0 l0.length c0, .int .i64 a1] w fun e w' => e = .returned (.int .i64 r) ∧ Below w.heap.size w w' := by
 have hu25 := Try.underlying25
 have HR0 := Aside0.mk hr0
 have HC0 := Aside0.mk hc0
 clear hr0 hc0
 have HB := Aside0.mk (Below.refl w.heap.size w)
 have H : (if (wrap64 (a1 - (l0.length : Int))) < 0 then (some (-1)) else (laws_szAlphaS.l0 k l0 (wrap64 (a1 - (l0.length : Int))) 0)) = some r := h
 clear h
 by_cases c3 : (wrap64 (a1 - (l0.length : Int))) < 0
 ·rw [if_pos c3] at H
  have c3b0 : decide ((wrap64 (a1 - (l0.length : Int))) < 0) = true := decide_eq_true c3
  clear c3
  obtain rfl := Option.some.inj H
  go_enter Try.func82, Try.ntmps82
  go_wp2
  go_ret
  exact ⟨by first | rfl | (simp [errW_none, errW_some] <;> rfl) | (simp [*, errW_none, errW_some] <;> rfl), by repeat (first | (with_reducible first | exact HB.out | apply below_alloc | apply pw_below_drewN | apply below_drew1) | exact HB.out)⟩
 ·rw [if_neg c3] at H
  have c3b0 : decide ((wrap64 (a1 - (l0.length : Int))) < 0) = false := decide_eq_false c3
  clear c3
  have H' := Aside0.mk H
  clear H
  go_enter Try.func82, Try.ntmps82
  go_wp2
  go_loopg [1, 5] k (fun kq v1 v5 w' => ∃ (x1_1 : Int) (x5_1 : Int), v1 = .int .i64 x1_1 ∧ v5 = .int .i64 x5_1 ∧ Aside0 (laws_szAlphaS.l0 kq l0 x1_1 x5_1 = some r) ∧ Aside0 (kq ≤ k) ∧ Aside0 (Below w.heap.size w w'))
  case atStart => exact ⟨(wrap64 (a1 - (l0.length : Int))), (0), (by first | rfl | (simp; done) | (simp [*]; done)), (by first | rfl | (simp; done) | (simp [*]; done)), H', ⟨Nat.le_refl _⟩, ⟨by repeat (first | (with_reducible first | exact HB.out | apply below_alloc | apply pw_below_drewN | apply below_drew1) | exact HB.out)⟩⟩
  case round =>
   clear H'
   try clear p2
   try clear c3
   try clear c3b0
   obtain ⟨x1_1, x5_1, rfl, rfl, HA, HK1, HB⟩ := hrel
   cases gk with
   | zero => exact absurd HA.out (by simp [laws_szAlphaS.l0])
   | succ k1 =>
    have H := HA.out
    clear HA
    simp only [laws_szAlphaS.l0] at H
    by_cases c4 : x5_1 < (l0.length : Int)
    ·rw [if_pos c4] at H
     have c4b0 : decide (x5_1 < (l0.length : Int)) = true := decide_eq_true c4
     clear c4
     by_cases c5 : 0 ≤ x5_1
     ·rw [if_pos c5] at H
      have c5b0 : decide (0 ≤ x5_1) = true := decide_eq_true c5
      clear c5
      replace H := Option.bind_eq_some_iff.mp H
      obtain ⟨t655, A60, H⟩ := H
      replace H : (if t655 < 0 then (some (-1)) else (laws_szAlphaS.l0 k1 l0 t655 (wrap64 (x5_1 + 1)))) = some r := H
      have A6 := Aside0.mk A60
      clear A60
      by_cases c7 : t655 < 0
      ·rw [if_pos c7] at H
       have c7b0 : decide (t655 < 0) = true := decide_eq_true c7
       clear c7
       obtain rfl := Option.some.inj H
       have p654 : 0 ≤ (x5_1 : Int) := of_decide_eq_true (by first | (with_reducible assumption) | assumption)
       have q654 : x5_1 < (l0.length : Int) := of_decide_eq_true (by first | (with_reducible assumption) | assumption)
       obtain ⟨ad654, A654_2, c654_2, e654, hx654_0, hx654_1, hx654_2, hl654_2, hi654_2⟩ := at_T25 HR0.out x5_1 p654 q654
       cases e654
       replace hx654_0 := (HB.out.cell (World.block_lt_of_cell? w _ hx654_0)).trans hx654_0
       replace hx654_1 := (HB.out.cell (World.block_lt_of_cell? w _ hx654_1)).trans hx654_1
       replace hx654_2 := (HB.out.cell (World.block_lt_of_cell? w _ hx654_2)).trans hx654_2
       have HR654_2 := Aside0.mk hi654_2
       have HC654_2 := Aside0.mk hl654_2
       clear hi654_2 hl654_2
       replace p654 := eq_true p654
       replace q654 := eq_true q654
       go_wp2_with (first | ((with_reducible refine gate_callee (f := 10) rfl ?_); refine goesL_ (some 23) rfl rfl Try.func10 (by kernel_rfl) rfl #[.agg #[.string ((rd_T25 l0 x5_1).f0), .int .i64 ((rd_T25 l0 x5_1).f1), .slice A654_2 ((rd_T25 l0 x5_1).f2).length c654_2], .int .i64 x1_1] rfl (by (try simp only [List.map_toArray, List.map_cons, List.map_nil]); first | done | rfl | (simp only [List.length_drop, List.length_take]; rfl)) ?_; (with_reducible refine (laws_szAlpha.calls k1 ((rd_T25 l0 x5_1).f0) ((rd_T25 l0 x5_1).f1) _ _ ((rd_T25 l0 x5_1).f2) x1_1 t655 _ ?side1 ?side2 A6.out).mono ?_); (case side1 => repeat (first | exact (Kd.C_below HR654_2.out HB.out) | (with_reducible refine Kd.C_alloc ?_ _) | (with_reducible refine Kd.C_drewN ?_ _) | (with_reducible refine Kd.C_drew ?_))); (case side2 => exact HC654_2.out); rintro e w8 ⟨rfl, hb⟩; refine ⟨_, rfl, ?_⟩; have n0_ := Aside0.mk (below_step (by repeat (first | (with_reducible first | exact HB.out | apply below_alloc | apply pw_below_drewN | apply below_drew1) | exact HB.out)) hb); clear HB; have HB := n0_; clear n0_; (try clear hb); (try clear hb2); (try clear hk); (try clear hi)))
       go_ret
       exact ⟨by first | rfl | (simp [errW_none, errW_some] <;> rfl) | (simp [*, errW_none, errW_some] <;> rfl), by repeat (first | (with_reducible first | exact HB.out | apply below_alloc | apply pw_below_drewN | apply below_drew1) | exact HB.out)⟩
      ·rw [if_neg c7] at H
       have c7b0 : decide (t655 < 0) = false := decide_eq_false c7
       clear c7
       have H' := Aside0.mk H
       clear H
       have p654 : 0 ≤ (x5_1 : Int) := of_decide_eq_true (by first | (with_reducible assumption) | assumption)
       have q654 : x5_1 < (l0.length : Int) := of_decide_eq_true (by first | (with_reducible assumption) | assumption)
       obtain ⟨ad654, A654_2, c654_2, e654, hx654_0, hx654_1, hx654_2, hl654_2, hi654_2⟩ := at_T25 HR0.out x5_1 p654 q654
       cases e654
       replace hx654_0 := (HB.out.cell (World.block_lt_of_cell? w _ hx654_0)).trans hx654_0
       replace hx654_1 := (HB.out.cell (World.block_lt_of_cell? w _ hx654_1)).trans hx654_1
       replace hx654_2 := (HB.out.cell (World.block_lt_of_cell? w _ hx654_2)).trans hx654_2
       have HR654_2 := Aside0.mk hi654_2
       have HC654_2 := Aside0.mk hl654_2
       clear hi654_2 hl654_2
       replace p654 := eq_true p654
       replace q654 := eq_true q654
       go_wp2_with (first | ((with_reducible refine gate_callee (f := 10) rfl ?_); refine goesL_ (some 23) rfl rfl Try.func10 (by kernel_rfl) rfl #[.agg #[.string ((rd_T25 l0 x5_1).f0), .int .i64 ((rd_T25 l0 x5_1).f1), .slice A654_2 ((rd_T25 l0 x5_1).f2).length c654_2], .int .i64 x1_1] rfl (by (try simp only [List.map_toArray, List.map_cons, List.map_nil]); first | done | rfl | (simp only [List.length_drop, List.length_take]; rfl)) ?_; (with_reducible refine (laws_szAlpha.calls k1 ((rd_T25 l0 x5_1).f0) ((rd_T25 l0 x5_1).f1) _ _ ((rd_T25 l0 x5_1).f2) x1_1 t655 _ ?side1 ?side2 A6.out).mono ?_); (case side1 => repeat (first | exact (Kd.C_below HR654_2.out HB.out) | (with_reducible refine Kd.C_alloc ?_ _) | (with_reducible refine Kd.C_drewN ?_ _) | (with_reducible refine Kd.C_drew ?_))); (case side2 => exact HC654_2.out); rintro e w9 ⟨rfl, hb⟩; refine ⟨_, rfl, ?_⟩; have n0_ := Aside0.mk (below_step (by repeat (first | (with_reducible first | exact HB.out | apply below_alloc | apply pw_below_drewN | apply below_drew1) | exact HB.out)) hb); clear HB; have HB := n0_; clear n0_; (try clear hb); (try clear hb2); (try clear hk); (try clear hi)))
       go_roundg k1
       case measure => have := HK1.out; omega
       case rel => exact ⟨(t655), (wrap64 (x5_1 + 1)), (by first | rfl | (simp; done) | (simp [*]; done)), (by first | rfl | (simp; done) | (simp [*]; done)), H', ⟨by have := HK1.out; omega⟩, ⟨by repeat (first | (with_reducible first | exact HB.out | apply below_alloc | apply pw_below_drewN | apply below_drew1) | exact HB.out)⟩⟩
     ·rw [if_neg c5] at H
      exact absurd H (by simp)
    ·rw [if_neg c4] at H
     have c4b0 : decide (x5_1 < (l0.length : Int)) = false := decide_eq_false c4
     clear c4
     obtain rfl := Option.some.inj H
     go_wp2
     go_ret
     exact ⟨by first | rfl | (simp [errW_none, errW_some] <;> rfl) | (simp [*, errW_none, errW_some] <;> rfl), by repeat (first | (with_reducible first | exact HB.out | apply below_alloc | apply pw_below_drewN | apply below_drew1) | exact HB.out)⟩
def laws_szIntS.f (l0 : List Int) (a1 : Int) : Option (Int) := if (wrap64 (a1 - (l0.length : Int))) < 0 then (some (-1)) else (some (wrap64 (a1 - (l0.length : Int))))
set_option maxHeartbeats 8000000 in
set_option maxRecDepth 100000 in
theorem laws_szIntS.calls (A0 : Option Addr) (c0 : Nat) (l0 : List Int) (a1 : Int) (r : Int) (w : World) (hr0 : Kd.C (Kd.int .i64) w A0 l0.length l0) (hc0 : l0.length ≤ c0) (h : laws_szIntS.f l0 a1 = some r) :
  Calls Try.prog 123 #[.slice A0 l0.length c0, .int .i64 a1] w fun e w' => e = .returned (.int .i64 r) ∧ Drawn0 w w' := by
 have HR0 := Aside0.mk hr0
 have HC0 := Aside0.mk hc0
 clear hr0 hc0
 have H : (if (wrap64 (a1 - (l0.length : Int))) < 0 then (some (-1)) else (some (wrap64 (a1 - (l0.length : Int))))) = some r := h
 clear h
 by_cases c3 : (wrap64 (a1 - (l0.length : Int))) < 0
 ·rw [if_pos c3] at H
  have c3b0 : decide ((wrap64 (a1 - (l0.length : Int))) < 0) = true := decide_eq_true c3
  clear c3
  obtain rfl := Option.some.inj H
  go_enter Try.func123, Try.ntmps123
  go_wp2
  go_ret
  exact ⟨by first | rfl | (simp; done) | (simp [*]; done), by repeat (first | exact Drawn0.refl _ | apply Drawn0.step)⟩
 ·rw [if_neg c3] at H
  have c3b0 : decide ((wrap64 (a1 - (l0.length : Int))) < 0) = false := decide_eq_false c3
  clear c3
  obtain rfl := Option.some.inj H
  go_enter Try.func123, Try.ntmps123
  go_wp2
  go_ret
  exact ⟨by first | rfl | (simp; done) | (simp [*]; done), by repeat (first | exact Drawn0.refl _ | apply Drawn0.step)⟩
def laws_szIntSS.l0 : Nat → List (List Int) → Int → Int → Option (Int)
 | 0, _, _, _ => none
 | k + 1, x0, x1, x5 => if x5 < (x0.length : Int) then (if 0 ≤ x5 then ((laws_szIntS.f (rd_L18 x0 x5) x1).bind fun t657 => (if t657 < 0 then (some (-1)) else (laws_szIntSS.l0 k x0 t657 (wrap64 (x5 + 1))))) else (none)) else (some x1)
def laws_szIntSS.f (k : Nat) (l0 : List (List Int)) (a1 : Int) : Option (Int) := if (wrap64 (a1 - (l0.length : Int))) < 0 then (some (-1)) else (laws_szIntSS.l0 k l0 (wrap64 (a1 - (l0.length : Int))) 0)
theorem laws_szIntSS.mono_l : ∀ k, (∀ y0 y1 y2, LeO (laws_szIntSS.l0 k y0 y1 y2) (laws_szIntSS.l0 (k + 1) y0 y1 y2))
 | 0 => fun _ _ _ r h => by simp [laws_szIntSS.l0] at h
 | k + 1 => by
  have ih0 := laws_szIntSS.mono_l k
  ·intro y0 y1 y2
   unfold laws_szIntSS.l0
   repeat' first
   | (with_reducible exact ih0 _ _ _)
   | (with_reducible exact LeO.refl _)
   | (with_reducible exact LeO.none _)
   | (with_reducible refine LeO.ite ?_ ?_)
   | (with_reducible refine LeO.bind ?_ (fun _ => ?_))
   | exact ih0 _ _ _
   | exact LeO.none _
   | refine LeO.ite ?_ ?_
   | refine LeO.bind ?_ (fun _ => ?_)
theorem laws_szIntSS.mono : ∀ a0 a1 k, LeO (laws_szIntSS.f k a0 a1) (laws_szIntSS.f (k + 1) a0 a1) := by
 intro a0 a1 k
 have ih0 := laws_szIntSS.mono_l k
 unfold laws_szIntSS.f
 repeat' first
   | (with_reducible exact ih0 _ _ _)
   | (with_reducible exact LeO.refl _)
   | (with_reducible exact LeO.none _)
   | (with_reducible refine LeO.ite ?_ ?_)
   | (with_reducible refine LeO.bind ?_ (fun _ => ?_))
   | exact ih0 _ _ _
   | exact LeO.none _
   | refine LeO.ite ?_ ?_
   | refine LeO.bind ?_ (fun _ => ?_)
set_option maxHeartbeats 8000000 in
set_option maxRecDepth 100000 in
theorem laws_szIntSS.calls (k : Nat) (A0 : Option Addr) (c0 : Nat) (l0 : List (List Int)) (a1 : Int) (r : Int) (w : World) (hr0 : Kd.C (Kd.slice 3 (Kd.int .i64)) w A0 l0.length l0) (hc0 : l0.length ≤ c0) (h : laws_szIntSS.f k l0 a1 = some r) :
  Calls Try.prog 83 #[.slice A0 l0.length c0, .int .i64 a1] w fun e w' => e = .returned (.int .i64 r) ∧ Drawn0 w w' := by
 have HR0 := Aside0.mk hr0
 have HC0 := Aside0.mk hc0
 clear hr0 hc0
 have H : (if (wrap64 (a1 - (l0.length : Int))) < 0 then (some (-1)) else (laws_szIntSS.l0 k l0 (wrap64 (a1 - (l0.length : Int))) 0)) = some r := h
 clear h
 by_cases c3 : (wrap64 (a1 - (l0.length : Int))) < 0
 ·rw [if_pos c3] at H
  have c3b0 : decide ((wrap64 (a1 - (l0.length : Int))) < 0) = true := decide_eq_true c3
  clear c3
  obtain rfl := Option.some.inj H
  go_enter Try.func83, Try.ntmps83
  go_wp2
  go_ret
  exact ⟨by first | rfl | (simp; done) | (simp [*]; done), by repeat (first | exact Drawn0.refl _ | apply Drawn0.step)⟩
 ·rw [if_neg c3] at H
  have c3b0 : decide ((wrap64 (a1 - (l0.length : Int))) < 0) = false := decide_eq_false c3
  clear c3
  have H' := Aside0.mk H
  clear H
  go_enter Try.func83, Try.ntmps83
  go_wp2
  go_loopg [1, 5] k (fun kq v1 v5 w' => ∃ (x1_1 : Int) (x5_1 : Int), v1 = .int .i64 x1_1 ∧ v5 = .int .i64 x5_1 ∧ Aside0 (laws_szIntSS.l0 kq l0 x1_1 x5_1 = some r) ∧ Aside0 (kq ≤ k) ∧ Drawn0 w w')
  case atStart => exact ⟨(wrap64 (a1 - (l0.length : Int))), (0), (by first | rfl | (simp; done) | (simp [*]; done)), (by first | rfl | (simp; done) | (simp [*]; done)), H', ⟨Nat.le_refl _⟩, by repeat (first | exact Drawn0.refl _ | apply Drawn0.step)⟩
  case round =>
   clear H'
   try clear p2
   try clear c3
   try clear c3b0
   obtain ⟨x1_1, x5_1, rfl, rfl, HA, HK1, ⟨m1, rfl⟩⟩ := hrel
   cases gk with
   | zero => exact absurd HA.out (by simp [laws_szIntSS.l0])
   | succ k1 =>
    have H := HA.out
    clear HA
    simp only [laws_szIntSS.l0] at H
    by_cases c4 : x5_1 < (l0.length : Int)
    ·rw [if_pos c4] at H
     have c4b0 : decide (x5_1 < (l0.length : Int)) = true := decide_eq_true c4
     clear c4
     by_cases c5 : 0 ≤ x5_1
     ·rw [if_pos c5] at H
      have c5b0 : decide (0 ≤ x5_1) = true := decide_eq_true c5
      clear c5
      replace H := Option.bind_eq_some_iff.mp H
      obtain ⟨t657, A60, H⟩ := H
      replace H : (if t657 < 0 then (some (-1)) else (laws_szIntSS.l0 k1 l0 t657 (wrap64 (x5_1 + 1)))) = some r := H
      have A6 := Aside0.mk A60
      clear A60
      by_cases c7 : t657 < 0
      ·rw [if_pos c7] at H
       have c7b0 : decide (t657 < 0) = true := decide_eq_true c7
       clear c7
       obtain rfl := Option.some.inj H
       have p656 : 0 ≤ (x5_1 : Int) := of_decide_eq_true (by first | (with_reducible assumption) | assumption)
       have q656 : x5_1 < (l0.length : Int) := of_decide_eq_true (by first | (with_reducible assumption) | assumption)
       obtain ⟨ad656, A656_0, c656_0, e656, hx656_0, hl656_0, hi656_0⟩ := at_L18 HR0.out x5_1 p656 q656
       cases e656
       have HR656_0 := Aside0.mk hi656_0
       have HC656_0 := Aside0.mk hl656_0
       clear hi656_0 hl656_0
       replace p656 := eq_true p656
       replace q656 := eq_true q656
       go_wp2_with (first | ((with_reducible refine gate_callee (f := 123) rfl ?_); refine goesL_ (some 23) rfl rfl Try.func123 (by kernel_rfl) rfl #[.slice A656_0 (rd_L18 l0 x5_1).length c656_0, .int .i64 x1_1] rfl (by (try simp only [List.map_toArray, List.map_cons, List.map_nil]); first | done | rfl | (simp only [List.length_drop, List.length_take]; rfl)) ?_; (with_reducible refine (laws_szIntS.calls _ _ (rd_L18 l0 x5_1) x1_1 t657 _ ?side1 ?side2 A6.out).mono ?_); (case side1 => repeat (first | exact HR656_0.out | (with_reducible refine Kd.C_alloc ?_ _) | (with_reducible refine Kd.C_drewN ?_ _) | (with_reducible refine Kd.C_drew ?_))); (case side2 => exact HC656_0.out); rintro e w' ⟨rfl, ⟨nd, rfl⟩⟩; refine ⟨_, rfl, ?_⟩))
       go_ret
       exact ⟨by first | rfl | (simp; done) | (simp [*]; done), by repeat (first | exact Drawn0.refl _ | apply Drawn0.step)⟩
      ·rw [if_neg c7] at H
       have c7b0 : decide (t657 < 0) = false := decide_eq_false c7
       clear c7
       have H' := Aside0.mk H
       clear H
       have p656 : 0 ≤ (x5_1 : Int) := of_decide_eq_true (by first | (with_reducible assumption) | assumption)
       have q656 : x5_1 < (l0.length : Int) := of_decide_eq_true (by first | (with_reducible assumption) | assumption)
       obtain ⟨ad656, A656_0, c656_0, e656, hx656_0, hl656_0, hi656_0⟩ := at_L18 HR0.out x5_1 p656 q656
       cases e656
       have HR656_0 := Aside0.mk hi656_0
       have HC656_0 := Aside0.mk hl656_0
       clear hi656_0 hl656_0
       replace p656 := eq_true p656
       replace q656 := eq_true q656
       go_wp2_with (first | ((with_reducible refine gate_callee (f := 123) rfl ?_); refine goesL_ (some 23) rfl rfl Try.func123 (by kernel_rfl) rfl #[.slice A656_0 (rd_L18 l0 x5_1).length c656_0, .int .i64 x1_1] rfl (by (try simp only [List.map_toArray, List.map_cons, List.map_nil]); first | done | rfl | (simp only [List.length_drop, List.length_take]; rfl)) ?_; (with_reducible refine (laws_szIntS.calls _ _ (rd_L18 l0 x5_1) x1_1 t657 _ ?side1 ?side2 A6.out).mono ?_); (case side1 => repeat (first | exact HR656_0.out | (with_reducible refine Kd.C_alloc ?_ _) | (with_reducible refine Kd.C_drewN ?_ _) | (with_reducible refine Kd.C_drew ?_))); (case side2 => exact HC656_0.out); rintro e w' ⟨rfl, ⟨nd, rfl⟩⟩; refine ⟨_, rfl, ?_⟩))
       go_roundg k1
       case measure => have := HK1.out; omega
       case rel => exact ⟨(t657), (wrap64 (x5_1 + 1)), (by first | rfl | (simp; done) | (simp [*]; done)), (by first | rfl | (simp; done) | (simp [*]; done)), H', ⟨by have := HK1.out; omega⟩, by repeat (first | exact Drawn0.refl _ | apply Drawn0.step)⟩
     ·rw [if_neg c5] at H
      exact absurd H (by simp)
    ·rw [if_neg c4] at H
     have c4b0 : decide (x5_1 < (l0.length : Int)) = false := decide_eq_false c4
     clear c4
     obtain rfl := Option.some.inj H
     go_wp2
     go_ret
     exact ⟨by first | rfl | (simp; done) | (simp [*]; done), by repeat (first | exact Drawn0.refl _ | apply Drawn0.step)⟩
def laws_szNet.f (k : Nat) (l0_0 : List (S25)) (l0_1 : List (List Int)) (a1 : Int) : Option (Int) := (laws_szAlphaS.f k l0_0 a1).bind fun t659 => (if t659 < 0 then (some (-1)) else ((laws_szIntSS.f k l0_1 t659).bind fun t660 => (if t660 < 0 then (some (-1)) else (some t660))))
theorem laws_szNet.mono : ∀ a0 a1 a2 k, LeO (laws_szNet.f k a0 a1 a2) (laws_szNet.f (k + 1) a0 a1 a2) := by
 intro a0 a1 a2 k
 unfold laws_szNet.f
 repeat' first
   | (with_reducible exact laws_szAlphaS.mono _ _ _)
   | (with_reducible exact laws_szIntSS.mono _ _ _)
   | (with_reducible exact LeO.refl _)
   | (with_reducible exact LeO.none _)
   | (with_reducible refine LeO.ite ?_ ?_)
   | (with_reducible refine LeO.bind ?_ (fun _ => ?_))
   | exact laws_szAlphaS.mono _ _ _
   | exact laws_szIntSS.mono _ _ _
   | exact LeO.none _
   | refine LeO.ite ?_ ?_
   | refine LeO.bind ?_ (fun _ => ?_)
set_option maxHeartbeats 8000000 in
set_option maxRecDepth 100000 in
theorem laws_szNet.calls (k : Nat) (A0_0 : Option Addr) (c0_0 : Nat) (l0_0 : List (S25)) (A0_1 : Option Addr) (c0_1 : Nat) (l0_1 : List (List Int)) (a1 : Int) (r : Int) (w : World) (hr0_0 : Kd.C k25 w A0_0 l0_0.length l0_0) (hc0_0 : l0_0.length ≤ c0_0) (hr0_1 : Kd.C (Kd.slice 3 (Kd.int .i64)) w A0_1 l0_1.length l0_1) (hc0_1 : l0_1.length ≤ c0_1) (h : laws_szNet.f k l0_0 l0_1 a1 = some r) :
  Calls Try.prog 37 #[.agg #[.slice A0_0 l0_0.length c0_0, .slice A0_1 l0_1.length c0_1], .int .i64 a1] w fun e w' => e = .returned (.int .i64 r) ∧ Below w.heap.size w w' := by
 have hu75 := Try.underlying75
 have HR0_0 := Aside0.mk hr0_0
 have HC0_0 := Aside0.mk hc0_0
 clear hr0_0 hc0_0
 have HR0_1 := Aside0.mk hr0_1
 have HC0_1 := Aside0.mk hc0_1
 clear hr0_1 hc0_1
 have HB := Aside0.mk (Below.refl w.heap.size w)
 have H : ((laws_szAlphaS.f k l0_0 a1).bind fun t659 => (if t659 < 0 then (some (-1)) else ((laws_szIntSS.f k l0_1 t659).bind fun t660 => (if t660 < 0 then (some (-1)) else (some t660))))) = some r := h
 clear h
 replace H := Option.bind_eq_some_iff.mp H
 obtain ⟨t659, A30, H⟩ := H
 replace H : (if t659 < 0 then (some (-1)) else ((laws_szIntSS.f k l0_1 t659).bind fun t660 => (if t660 < 0 then (some (-1)) else (some t660)))) = some r := H
 have A3 := Aside0.mk A30
 clear A30
 by_cases c4 : t659 < 0
 ·rw [if_pos c4] at H
  have c4b0 : decide (t659 < 0) = true := decide_eq_true c4
  clear c4
  obtain rfl := Option.some.inj H
  go_enter Try.func37, Try.ntmps37
  go_wp2_with (first | ((with_reducible refine gate_dst (N := 2) rfl ?_); refine box_event ?hg (N := 2) ?hd (cs := #[.slice A0_0 l0_0.length c0_0, .slice A0_1 l0_1.length c0_1]) (t := 75) ?hr ?_; (case hd => rfl); (case hg => rfl); (case hr => first | (go_simp; done) | (go_simp; rfl)); intro gb658 hg w5 hbox hb; have n0_ := Aside0.mk (below_step (by repeat (first | (with_reducible first | exact HB.out | apply below_alloc | apply pw_below_drewN | apply below_drew1) | exact HB.out)) hb); have n1_ := Aside0.mk (hbox); have n2_ := Aside0.mk ((by rw [hg]; exact (below_size (by repeat (first | (with_reducible first | exact HB.out | apply below_alloc | apply pw_below_drewN | apply below_drew1) | exact HB.out))) : w.heap.size ≤ gb658)); have n3_ := Aside0.mk ((by rw [hg]; exact (below_size (by repeat (first | (with_reducible first | exact HB.out | apply below_alloc | apply pw_below_drewN | apply below_drew1) | exact HB.out))) : w.heap.size ≤ gb658)); clear HB; have HB := n0_; have BK658 := n1_; have GW658 := n2_; have GE658 := n3_; clear n0_ n1_ n2_ n3_; clear hb hbox hg; have hcz6_0 : w5.cell? ⟨gb658, 0, none⟩ = some (.slice A0_0 l0_0.length c0_0) := (blk_cell BK658.out 0).trans rfl; have hcz6_1 : w5.cell? ⟨gb658, 1, none⟩ = some (.slice A0_1 l0_1.length c0_1) := (blk_cell BK658.out 1).trans rfl; have hfz6_0 := blk_frozen BK658.out 0; have hfz6_1 := blk_frozen BK658.out 1) | ((with_reducible refine gate_callee (f := 82) rfl ?_); refine goesL_ (some 8) rfl rfl Try.func82 (by kernel_rfl) rfl #[.slice A0_0 l0_0.length c0_0, .int .i64 a1] rfl (by (try simp only [List.map_toArray, List.map_cons, List.map_nil]); first | done | rfl | (simp only [List.length_drop, List.length_take]; rfl)) ?_; (with_reducible refine (laws_szAlphaS.calls k _ _ l0_0 a1 t659 _ ?side1 ?side2 A3.out).mono ?_); (case side1 => repeat (first | exact (Kd.C_below HR0_0.out HB.out) | (with_reducible refine Kd.C_alloc ?_ _) | (with_reducible refine Kd.C_drewN ?_ _) | (with_reducible refine Kd.C_drew ?_))); (case side2 => exact HC0_0.out); rintro e w7 ⟨rfl, hb⟩; refine ⟨_, rfl, ?_⟩; have n0_ := Aside0.mk (blk_below (g := gb658) (o := .cells #[.slice A0_0 l0_0.length c0_0, .slice A0_1 l0_1.length c0_1] 75 (0, 0)) (by (with_reducible repeat (first | refine blk_drewN ?_ _ | refine blk_drew ?_ | refine blk_alloc ?_ _)); exact BK658.out) hb); have n1_ := Aside0.mk (below_step (by repeat (first | (with_reducible first | exact HB.out | apply below_alloc | apply pw_below_drewN | apply below_drew1 | refine below_set ?_ GE658.out) | exact HB.out)) hb); clear BK658; clear HB; have BK658 := n0_; have HB := n1_; clear n0_ n1_; (try clear hb); (try clear hb2); (try clear hk); (try clear hi)))
  go_ret
  exact ⟨by first | rfl | (simp [errW_none, errW_some] <;> rfl) | (simp [*, errW_none, errW_some] <;> rfl), by repeat (first | (with_reducible first | exact HB.out | apply below_alloc | apply pw_below_drewN | apply below_drew1 | refine below_set ?_ GE658.out) | exact HB.out)⟩
 ·rw [if_neg c4] at H
  have c4b0 : decide (t659 < 0) = false := decide_eq_false c4
  clear c4
  replace H := Option.bind_eq_some_iff.mp H
  obtain ⟨t660, A80, H⟩ := H
  replace H : (if t660 < 0 then (some (-1)) else (some t660)) = some r := H
  have A8 := Aside0.mk A80
  clear A80
  by_cases c9 : t660 < 0
  ·rw [if_pos c9] at H
   have c9b0 : decide (t660 < 0) = true := decide_eq_true c9
   clear c9
   obtain rfl := Option.some.inj H
   go_enter Try.func37, Try.ntmps37
   go_wp2_with (first | ((with_reducible refine gate_dst (N := 2) rfl ?_); refine box_event ?hg (N := 2) ?hd (cs := #[.slice A0_0 l0_0.length c0_0, .slice A0_1 l0_1.length c0_1]) (t := 75) ?hr ?_; (case hd => rfl); (case hg => rfl); (case hr => first | (go_simp; done) | (go_simp; rfl)); intro gb658 hg w10 hbox hb; have n0_ := Aside0.mk (below_step (by repeat (first | (with_reducible first | exact HB.out | apply below_alloc | apply pw_below_drewN | apply below_drew1) | exact HB.out)) hb); have n1_ := Aside0.mk (hbox); have n2_ := Aside0.mk ((by rw [hg]; exact (below_size (by repeat (first | (with_reducible first | exact HB.out | apply below_alloc | apply pw_below_drewN | apply below_drew1) | exact HB.out))) : w.heap.size ≤ gb658)); have n3_ := Aside0.mk ((by rw [hg]; exact (below_size (by repeat (first | (with_reducible first | exact HB.out | apply below_alloc | apply pw_below_drewN | apply below_drew1) | exact HB.out))) : w.heap.size ≤ gb658)); clear HB; have HB := n0_; have BK658 := n1_; have GW658 := n2_; have GE658 := n3_; clear n0_ n1_ n2_ n3_; clear hb hbox hg; have hcz11_0 : w10.cell? ⟨gb658, 0, none⟩ = some (.slice A0_0 l0_0.length c0_0) := (blk_cell BK658.out 0).trans rfl; have hcz11_1 : w10.cell? ⟨gb658, 1, none⟩ = some (.slice A0_1 l0_1.length c0_1) := (blk_cell BK658.out 1).trans rfl; have hfz11_0 := blk_frozen BK658.out 0; have hfz11_1 := blk_frozen BK658.out 1) | ((with_reducible refine gate_callee (f := 82) rfl ?_); refine goesL_ (some 8) rfl rfl Try.func82 (by kernel_rfl) rfl #[.slice A0_0 l0_0.length c0_0, .int .i64 a1] rfl (by (try simp only [List.map_toArray, List.map_cons, List.map_nil]); first | done | rfl | (simp only [List.length_drop, List.length_take]; rfl)) ?_; (with_reducible refine (laws_szAlphaS.calls k _ _ l0_0 a1 t659 _ ?side1 ?side2 A3.out).mono ?_); (case side1 => repeat (first | exact (Kd.C_below HR0_0.out HB.out) | (with_reducible refine Kd.C_alloc ?_ _) | (with_reducible refine Kd.C_drewN ?_ _) | (with_reducible refine Kd.C_drew ?_))); (case side2 => exact HC0_0.out); rintro e w12 ⟨rfl, hb⟩; refine ⟨_, rfl, ?_⟩; have n0_ := Aside0.mk (blk_below (g := gb658) (o := .cells #[.slice A0_0 l0_0.length c0_0, .slice A0_1 l0_1.length c0_1] 75 (0, 0)) (by (with_reducible repeat (first | refine blk_drewN ?_ _ | refine blk_drew ?_ | refine blk_alloc ?_ _)); exact BK658.out) hb); have n1_ := Aside0.mk (below_step (by repeat (first | (with_reducible first | exact HB.out | apply below_alloc | apply pw_below_drewN | apply below_drew1 | refine below_set ?_ GE658.out) | exact HB.out)) hb); clear BK658; clear HB; have BK658 := n0_; have HB := n1_; clear n0_ n1_; (try clear hb); (try clear hb2); (try clear hk); (try clear hi); have hcz13_0 : w12.cell? ⟨gb658, 0, none⟩ = some (.slice A0_0 l0_0.length c0_0) := (blk_cell BK658.out 0).trans rfl; have hcz13_1 : w12.cell? ⟨gb658, 1, none⟩ = some (.slice A0_1 l0_1.length c0_1) := (blk_cell BK658.out 1).trans rfl; have hfz13_0 := blk_frozen BK658.out 0; have hfz13_1 := blk_frozen BK658.out 1) | ((with_reducible refine gate_callee (f := 83) rfl ?_); refine goesL_ (some 14) rfl rfl Try.func83 (by kernel_rfl) rfl #[.slice A0_1 l0_1.length c0_1, .int .i64 t659] rfl (by (try simp only [List.map_toArray, List.map_cons, List.map_nil]); first | done | rfl | (simp only [List.length_drop, List.length_take]; rfl)) ?_; (with_reducible refine (laws_szIntSS.calls k _ _ l0_1 t659 t660 _ ?side1 ?side2 A8.out).mono ?_); (case side1 => repeat (first | exact (Kd.C_below HR0_1.out HB.out) | (with_reducible refine Kd.C_alloc ?_ _) | (with_reducible refine Kd.C_drewN ?_ _) | (with_reducible refine Kd.C_drew ?_))); (case side2 => exact HC0_1.out); rintro e w' ⟨rfl, ⟨nd, rfl⟩⟩; refine ⟨_, rfl, ?_⟩))
   go_ret
   exact ⟨by first | rfl | (simp [errW_none, errW_some] <;> rfl) | (simp [*, errW_none, errW_some] <;> rfl), by repeat (first | (with_reducible first | exact HB.out | apply below_alloc | apply pw_below_drewN | apply below_drew1 | refine below_set ?_ GE658.out) | exact HB.out)⟩
  ·rw [if_neg c9] at H
   have c9b0 : decide (t660 < 0) = false := decide_eq_false c9
   clear c9
   obtain rfl := Option.some.inj H
   go_enter Try.func37, Try.ntmps37
   go_wp2_with (first | ((with_reducible refine gate_dst (N := 2) rfl ?_); refine box_event ?hg (N := 2) ?hd (cs := #[.slice A0_0 l0_0.length c0_0, .slice A0_1 l0_1.length c0_1]) (t := 75) ?hr ?_; (case hd => rfl); (case hg => rfl); (case hr => first | (go_simp; done) | (go_simp; rfl)); intro gb658 hg w14 hbox hb; have n0_ := Aside0.mk (below_step (by repeat (first | (with_reducible first | exact HB.out | apply below_alloc | apply pw_below_drewN | apply below_drew1) | exact HB.out)) hb); have n1_ := Aside0.mk (hbox); have n2_ := Aside0.mk ((by rw [hg]; exact (below_size (by repeat (first | (with_reducible first | exact HB.out | apply below_alloc | apply pw_below_drewN | apply below_drew1) | exact HB.out))) : w.heap.size ≤ gb658)); have n3_ := Aside0.mk ((by rw [hg]; exact (below_size (by repeat (first | (with_reducible first | exact HB.out | apply below_alloc | apply pw_below_drewN | apply below_drew1) | exact HB.out))) : w.heap.size ≤ gb658)); clear HB; have HB := n0_; have BK658 := n1_; have GW658 := n2_; have GE658 := n3_; clear n0_ n1_ n2_ n3_; clear hb hbox hg; have hcz15_0 : w14.cell? ⟨gb658, 0, none⟩ = some (.slice A0_0 l0_0.length c0_0) := (blk_cell BK658.out 0).trans rfl; have hcz15_1 : w14.cell? ⟨gb658, 1, none⟩ = some (.slice A0_1 l0_1.length c0_1) := (blk_cell BK658.out 1).trans rfl; have hfz15_0 := blk_frozen BK658.out 0; have hfz15_1 := blk_frozen BK658.out 1) | ((with_reducible refine gate_callee (f := 82) rfl ?_); refine goesL_ (some 8) rfl rfl Try.func82 (by kernel_rfl) rfl #[.slice A0_0 l0_0.length c0_0, .int .i64 a1] rfl (by (try simp only [List.map_toArray, List.map_cons, List.map_nil]); first | done | rfl | (simp only [List.length_drop, List.length_take]; rfl)) ?_; (with_reducible refine (laws_szAlphaS.calls k _ _ l0_0 a1 t659 _ ?side1 ?side2 A3.out).mono ?_); (case side1 => repeat (first | exact (Kd.C_below HR0_0.out HB.out) | (with_reducible refine Kd.C_alloc ?_ _) | (with_reducible refine Kd.C_drewN ?_ _) | (with_reducible refine Kd.C_drew ?_))); (case side2 => exact HC0_0.out); rintro e w16 ⟨rfl, hb⟩; refine ⟨_, rfl, ?_⟩; have n0_ := Aside0.mk (blk_below (g := gb658) (o := .cells #[.slice A0_0 l0_0.length c0_0, .slice A0_1 l0_1.length c0_1] 75 (0, 0)) (by (with_reducible repeat (first | refine blk_drewN ?_ _ | refine blk_drew ?_ | refine blk_alloc ?_ _)); exact BK658.out) hb); have n1_ := Aside0.mk (below_step (by repeat (first | (with_reducible first | exact HB.out | apply below_alloc | apply pw_below_drewN | apply below_drew1 | refine below_set ?_ GE658.out) | exact HB.out)) hb); clear BK658; clear HB; have BK658 := n0_; have HB := n1_; clear n0_ n1_; (try clear hb); (try clear hb2); (try clear hk); (try clear hi); have hcz17_0 : w16.cell? ⟨gb658, 0, none⟩ = some (.slice A0_0 l0_0.length c0_0) := (blk_cell BK658.out 0).trans rfl; have hcz17_1 : w16.cell? ⟨gb658, 1, none⟩ = some (.slice A0_1 l0_1.length c0_1) := (blk_cell BK658.out 1).trans rfl; have hfz17_0 := blk_frozen BK658.out 0; have hfz17_1 := blk_frozen BK658.out 1) | ((with_reducible refine gate_callee (f := 83) rfl ?_); refine goesL_ (some 14) rfl rfl Try.func83 (by kernel_rfl) rfl #[.slice A0_1 l0_1.length c0_1, .int .i64 t659] rfl (by (try simp only [List.map_toArray, List.map_cons, List.map_nil]); first | done | rfl | (simp only [List.length_drop, List.length_take]; rfl)) ?_; (with_reducible refine (laws_szIntSS.calls k _ _ l0_1 t659 t660 _ ?side1 ?side2 A8.out).mono ?_); (case side1 => repeat (first | exact (Kd.C_below HR0_1.out HB.out) | (with_reducible refine Kd.C_alloc ?_ _) | (with_reducible refine Kd.C_drewN ?_ _) | (with_reducible refine Kd.C_drew ?_))); (case side2 => exact HC0_1.out); rintro e w' ⟨rfl, ⟨nd, rfl⟩⟩; refine ⟨_, rfl, ?_⟩))
   go_ret
   exact ⟨by first | rfl | (simp [errW_none, errW_some] <;> rfl) | (simp [*, errW_none, errW_some] <;> rfl), by repeat (first | (with_reducible first | exact HB.out | apply below_alloc | apply pw_below_drewN | apply below_drew1 | refine below_set ?_ GE658.out) | exact HB.out)⟩
mutual
def spec_AlphaMems.l0 : Nat → List (S38) → List (List Int) → List (S34) → Int → Int → Option ((List (List Int)))
 | 0, _, _, _, _, _ => none
 | k + 1, x1, x5, x15, x16, x17 => if x17 < x16 then (if 0 ≤ x17 then (if x17 < (x15.length : Int) then (spec_AlphaMems.l1 k x1 x5 ([] : List Int) x15 x16 x17 x1 (x1.length : Int) 0 ((rd_T34 x15 x17).f0) ((rd_T34 x15 x17).f1) ((rd_T34 x15 x17).f2)) else (none)) else (none)) else (some x5)
def spec_AlphaMems.l1 : Nat → List (S38) → List (List Int) → List Int → List (S34) → Int → Int → List (S38) → Int → Int → ByteArray → Int → List (S106) → Option ((List (List Int)))
 | 0, _, _, _, _, _, _, _, _, _, _, _, _ => none
 | k + 1, x1, x5, x8, x15, x16, x17, x21, x22, x23, x665000, x665001, x665002 => if x23 < x22 then (if 0 ≤ x23 then (if x23 < (x21.length : Int) then ((spec_AlphaPass.f k x665000 x665001 x665002 ((rd_T38 x21 x23).f0) ((rd_T38 x21 x23).f1) ((rd_T38 x21 x23).f2)).bind fun t667 => (if t667 = true then (if x8.length < 17592186044416 then (spec_AlphaMems.l1 k x1 x5 (x8 ++ [(rd_T38 x21 x23).f0]) x15 x16 x17 x21 x22 (wrap64 (x23 + 1)) x665000 x665001 x665002) else (none)) else (spec_AlphaMems.l1 k x1 x5 x8 x15 x16 x17 x21 x22 (wrap64 (x23 + 1)) x665000 x665001 x665002))) else (none)) else (none)) else (if x5.length < 5864062014805 then (spec_AlphaMems.l0 k x1 (x5 ++ [x8]) x15 x16 (wrap64 (x17 + 1))) else (none))
end
def spec_AlphaMems.f (k : Nat) (l0_0 : List (S34)) (l0_1 : List (List Int)) (l1 : List (S38)) : Option ((List (List Int))) := (spec_l1GoodFacts.f k l1).bind fun t662 => (if t662 = true then (spec_AlphaMems.l0 k l1 ([] : List (List Int)) l0_0 (l0_0.length : Int) 0) else (some ([] : List (List Int))))
theorem spec_AlphaMems.mono_l : ∀ k, (∀ y0 y1 y2 y3 y4, LeO (spec_AlphaMems.l0 k y0 y1 y2 y3 y4) (spec_AlphaMems.l0 (k + 1) y0 y1 y2 y3 y4)) ∧ (∀ y0 y1 y2 y3 y4 y5 y6 y7 y8 y9 y10 y11, LeO (spec_AlphaMems.l1 k y0 y1 y2 y3 y4 y5 y6 y7 y8 y9 y10 y11) (spec_AlphaMems.l1 (k + 1) y0 y1 y2 y3 y4 y5 y6 y7 y8 y9 y10 y11))
 | 0 => ⟨fun _ _ _ _ _ r h => by simp [spec_AlphaMems.l0] at h, fun _ _ _ _ _ _ _ _ _ _ _ _ r h => by simp [spec_AlphaMems.l1] at h⟩
 | k + 1 => by
  obtain ⟨ih0, ih1⟩ := spec_AlphaMems.mono_l k
  refine ⟨?_, ?_⟩
  ·intro y0 y1 y2 y3 y4
   unfold spec_AlphaMems.l0
   repeat' first
   | (with_reducible exact ih0 _ _ _ _ _)
   | (with_reducible exact ih1 _ _ _ _ _ _ _ _ _ _ _ _)
   | (with_reducible exact spec_AlphaPass.mono _ _ _ _ _ _ _)
   | (with_reducible exact spec_l1GoodFacts.mono _ _)
   | (with_reducible exact LeO.refl _)
   | (with_reducible exact LeO.none _)
   | (with_reducible refine LeO.ite ?_ ?_)
   | (with_reducible refine LeO.bind ?_ (fun _ => ?_))
   | exact ih0 _ _ _ _ _
   | exact ih1 _ _ _ _ _ _ _ _ _ _ _ _
   | exact spec_AlphaPass.mono _ _ _ _ _ _ _
   | exact spec_l1GoodFacts.mono _ _
   | exact LeO.none _
   | refine LeO.ite ?_ ?_
   | refine LeO.bind ?_ (fun _ => ?_)
  ·intro y0 y1 y2 y3 y4 y5 y6 y7 y8 y9 y10 y11
   unfold spec_AlphaMems.l1
   repeat' first
   | (with_reducible exact ih0 _ _ _ _ _)
   | (with_reducible exact ih1 _ _ _ _ _ _ _ _ _ _ _ _)
   | (with_reducible exact spec_AlphaPass.mono _ _ _ _ _ _ _)
   | (with_reducible exact spec_l1GoodFacts.mono _ _)
   | (with_reducible exact LeO.refl _)
   | (with_reducible exact LeO.none _)
   | (with_reducible refine LeO.ite ?_ ?_)
   | (with_reducible refine LeO.bind ?_ (fun _ => ?_))
   | exact ih0 _ _ _ _ _
   | exact ih1 _ _ _ _ _ _ _ _ _ _ _ _
   | exact spec_AlphaPass.mono _ _ _ _ _ _ _
   | exact spec_l1GoodFacts.mono _ _
   | exact LeO.none _
   | refine LeO.ite ?_ ?_
   | refine LeO.bind ?_ (fun _ => ?_)
theorem spec_AlphaMems.mono : ∀ a0 a1 a2 k, LeO (spec_AlphaMems.f k a0 a1 a2) (spec_AlphaMems.f (k + 1) a0 a1 a2) := by
 intro a0 a1 a2 k
 obtain ⟨ih0, ih1⟩ := spec_AlphaMems.mono_l k
 unfold spec_AlphaMems.f
 repeat' first
   | (with_reducible exact ih0 _ _ _ _ _)
   | (with_reducible exact ih1 _ _ _ _ _ _ _ _ _ _ _ _)
   | (with_reducible exact spec_AlphaPass.mono _ _ _ _ _ _ _)
   | (with_reducible exact spec_l1GoodFacts.mono _ _)
   | (with_reducible exact LeO.refl _)
   | (with_reducible exact LeO.none _)
   | (with_reducible refine LeO.ite ?_ ?_)
   | (with_reducible refine LeO.bind ?_ (fun _ => ?_))
   | exact ih0 _ _ _ _ _
   | exact ih1 _ _ _ _ _ _ _ _ _ _ _ _
   | exact spec_AlphaPass.mono _ _ _ _ _ _ _
   | exact spec_l1GoodFacts.mono _ _
   | exact LeO.none _
   | refine LeO.ite ?_ ?_
   | refine LeO.bind ?_ (fun _ => ?_)
set_option maxHeartbeats 8000000 in
set_option maxRecDepth 100000 in
theorem spec_AlphaMems.calls (k : Nat) (A0_0 : Option Addr) (c0_0 : Nat) (l0_0 : List (S34)) (A0_1 : Option Addr) (c0_1 : Nat) (l0_1 : List (List Int)) (A1 : Option Addr) (c1 : Nat) (l1 : List (S38)) (r : List (List Int)) (w : World) (hr0_0 : Kd.C k34 w A0_0 l0_0.length l0_0) (hc0_0 : l0_0.length ≤ c0_0) (hr0_1 : Kd.C (Kd.slice 3 (Kd.int .i64)) w A0_1 l0_1.length l0_1) (hc0_1 : l0_1.length ≤ c0_1) (hr1 : Kd.C k38 w A1 l1.length l1) (hc1 : l1.length ≤ c1) (h : spec_AlphaMems.f k l0_0 l0_1 l1 = some r) :
  Calls Try.prog 39 #[.agg #[.slice A0_0 l0_0.length c0_0, .slice A0_1 l0_1.length c0_1], .slice A1 l1.length c1] w fun e w' => ∃ v0_ : Value, e = .returned (v0_) ∧ Kd.S (Kd.slice 3 (Kd.int .i64)) 67 w' w.heap.size (fun _ => True) v0_ r ∧ Below w.heap.size w w' := by
 have hu81 := Try.underlying81
 have hu34 := Try.underlying34
 have hu38 := Try.underlying38
 have HR0_0 := Aside0.mk hr0_0
 have HC0_0 := Aside0.mk hc0_0
 clear hr0_0 hc0_0
 have HR0_1 := Aside0.mk hr0_1
 have HC0_1 := Aside0.mk hc0_1
 clear hr0_1 hc0_1
 have HR1 := Aside0.mk hr1
 have HC1 := Aside0.mk hc1
 clear hr1 hc1
 have HB := Aside0.mk (Below.refl w.heap.size w)
 have H : ((spec_l1GoodFacts.f k l1).bind fun t662 => (if t662 = true then (spec_AlphaMems.l0 k l1 ([] : List (List Int)) l0_0 (l0_0.length : Int) 0) else (some ([] : List (List Int))))) = some r := h
 clear h
 replace H := Option.bind_eq_some_iff.mp H
 obtain ⟨t662, A30, H⟩ := H
 replace H : (if t662 = true then (spec_AlphaMems.l0 k l1 ([] : List (List Int)) l0_0 (l0_0.length : Int) 0) else (some ([] : List (List Int)))) = some r := H
 have A3 := Aside0.mk A30
 clear A30
 by_cases c4 : t662 = true
 ·subst c4
  have H1 : (spec_AlphaMems.l0 k l1 ([] : List (List Int)) l0_0 (l0_0.length : Int) 0) = some r := by first | (rw [if_pos rfl] at H; exact H) | rfl
  clear H
  have H := H1
  clear H1
  have H' := Aside0.mk H
  clear H
  go_enter Try.func39, Try.ntmps39
  go_wp2_with (first | ((with_reducible refine gate_dst (N := 2) rfl ?_); refine box_event ?hg (N := 2) ?hd (cs := #[.slice A0_0 l0_0.length c0_0, .slice A0_1 l0_1.length c0_1]) (t := 81) ?hr ?_; (case hd => rfl); (case hg => rfl); (case hr => first | (go_simp; done) | (go_simp; rfl)); intro gb661 hg w5 hbox hb; have n0_ := Aside0.mk (below_step (by repeat (first | (with_reducible first | exact HB.out | apply below_alloc | apply pw_below_drewN | apply below_drew1) | exact HB.out)) hb); have n1_ := Aside0.mk (hbox); have n2_ := Aside0.mk ((by rw [hg]; exact (below_size (by repeat (first | (with_reducible first | exact HB.out | apply below_alloc | apply pw_below_drewN | apply below_drew1) | exact HB.out))) : w.heap.size ≤ gb661)); have n3_ := Aside0.mk ((by rw [hg]; exact (below_size (by repeat (first | (with_reducible first | exact HB.out | apply below_alloc | apply pw_below_drewN | apply below_drew1) | exact HB.out))) : w.heap.size ≤ gb661)); clear HB; have HB := n0_; have BK661 := n1_; have GW661 := n2_; have GE661 := n3_; clear n0_ n1_ n2_ n3_; clear hb hbox hg) | ((with_reducible refine gate_callee (f := 66) rfl ?_); refine goesL_ (some 12) rfl rfl Try.func66 (by kernel_rfl) rfl #[.slice A1 l1.length c1] rfl (by (try simp only [List.map_toArray, List.map_cons, List.map_nil]); first | done | rfl | (simp only [List.length_drop, List.length_take]; rfl)) ?_; (with_reducible refine (spec_l1GoodFacts.calls k _ _ l1 true _ ?side1 ?side2 A3.out).mono ?_); (case side1 => repeat (first | exact (Kd.C_below HR1.out HB.out) | (with_reducible refine Kd.C_alloc ?_ _) | (with_reducible refine Kd.C_drewN ?_ _) | (with_reducible refine Kd.C_drew ?_))); (case side2 => exact HC1.out); rintro e w6 ⟨rfl, hb⟩; refine ⟨_, rfl, ?_⟩; have n0_ := Aside0.mk (blk_below (g := gb661) (o := .cells #[.slice A0_0 l0_0.length c0_0, .slice A0_1 l0_1.length c0_1] 81 (0, 0)) (by (with_reducible repeat (first | refine blk_drewN ?_ _ | refine blk_drew ?_ | refine blk_alloc ?_ _)); exact BK661.out) hb); have n1_ := Aside0.mk (below_step (by repeat (first | (with_reducible first | exact HB.out | apply below_alloc | apply pw_below_drewN | apply below_drew1 | refine below_set ?_ GE661.out) | exact HB.out)) hb); clear BK661; clear HB; have BK661 := n0_; have HB := n1_; clear n0_ n1_; (try clear hb); (try clear hb2); (try clear hk); (try clear hi); have hcz7_0 : w6.cell? ⟨gb661, 0, none⟩ = some (.slice A0_0 l0_0.length c0_0) := (blk_cell BK661.out 0).trans rfl; have hcz7_1 : w6.cell? ⟨gb661, 1, none⟩ = some (.slice A0_1 l0_1.length c0_1) := (blk_cell BK661.out 1).trans rfl; have hfz7_0 := blk_frozen BK661.out 0; have hfz7_1 := blk_frozen BK661.out 1))
  go_loopg [5, 17] k (fun kq v5 v17 w' => ∃ (x5_1 : List (List Int)) (x17_1 : Int), v17 = .int .i64 x17_1 ∧ Aside0 (spec_AlphaMems.l0 kq l1 x5_1 l0_0 (l0_0.length : Int) x17_1 = some r) ∧ Aside0 (kq ≤ k) ∧ Aside0 (Kd.S (Kd.slice 3 (Kd.int .i64)) 67 w' w.heap.size (fun _ => True) v5 x5_1) ∧ Aside0 (w'.heap[gb661]? = some (.cells #[(.slice A0_0 l0_0.length c0_0), (.slice A0_1 l0_1.length c0_1)] 81 (0, 0))) ∧ Aside0 (Below w.heap.size w w'))
  case atStart => exact ⟨(([] : List (List Int))), (0), (by first | rfl | (simp; done) | (simp [*]; done)), H', ⟨Nat.le_refl _⟩, ⟨by first | exact Kd.S_nil _ _ _ _ _ | exact Kd.N_nil _ _ _ _ _ | exact Kd.V_nil _ _ _ _ _ | exact Kd.Q_nil _ _ _ _ _ | exact Kd.R_nil _ _ _ _ _⟩, ⟨by (with_reducible repeat (first | refine blk_drewN ?_ _ | refine blk_drew ?_ | refine blk_alloc ?_ _)); exact BK661.out⟩, ⟨by repeat (first | (with_reducible first | exact HB.out | apply below_alloc | apply pw_below_drewN | apply below_drew1 | refine below_set ?_ GE661.out) | exact HB.out)⟩⟩
  case round =>
   clear H'
   try clear c1
   try clear p2
   try clear c3
   try clear c4
   try clear c6
   try clear hcz7_0
   try clear hcz7_1
   try clear hfz7_0
   try clear hfz7_1
   obtain ⟨x5_1, x17_1, rfl, HA, HK1, HO_5, BK661, HB⟩ := hrel
   cases gk with
   | zero => exact absurd HA.out (by simp [spec_AlphaMems.l0])
   | succ k1 =>
    have H := HA.out
    clear HA
    simp only [spec_AlphaMems.l0] at H
    by_cases c8 : x17_1 < (l0_0.length : Int)
    ·rw [if_pos c8] at H
     have c8b0 : decide (x17_1 < (l0_0.length : Int)) = true := decide_eq_true c8
     clear c8
     by_cases c9 : 0 ≤ x17_1
     ·rw [if_pos c9] at H
      have c9b0 : decide (0 ≤ x17_1) = true := decide_eq_true c9
      clear c9
      by_cases c10 : x17_1 < (l0_0.length : Int)
      ·rw [if_pos c10] at H
       have c10b0 : decide (x17_1 < (l0_0.length : Int)) = true := decide_eq_true c10
       clear c10
       have H' := Aside0.mk H
       clear H
       have p663 : 0 ≤ (x17_1 : Int) := of_decide_eq_true (by first | (with_reducible assumption) | assumption)
       have q663 : x17_1 < (l0_0.length : Int) := of_decide_eq_true (by first | (with_reducible assumption) | assumption)
       obtain ⟨ad663, A663_2, c663_2, e663, hx663_0, hx663_1, hx663_2, hl663_2, hi663_2⟩ := at_T34 HR0_0.out x17_1 p663 q663
       cases e663
       replace hx663_0 := (HB.out.cell (World.block_lt_of_cell? w _ hx663_0)).trans hx663_0
       replace hx663_1 := (HB.out.cell (World.block_lt_of_cell? w _ hx663_1)).trans hx663_1
       replace hx663_2 := (HB.out.cell (World.block_lt_of_cell? w _ hx663_2)).trans hx663_2
       have HR663_2 := Aside0.mk hi663_2
       have HC663_2 := Aside0.mk hl663_2
       clear hi663_2 hl663_2
       replace p663 := eq_true p663
       replace q663 := eq_true q663
       go_wp2_with (first | ((with_reducible refine gate_dst (N := 7) rfl ?_); refine box_event ?hg (N := 7) ?hd (cs := #[.string (⟨#[]⟩ : ByteArray), .int .i64 0, .slice none 0 0]) (t := 34) ?hr ?_; (case hd => rfl); (case hg => rfl); (case hr => first | (go_simp; done) | (go_simp; rfl)); intro gb664 hg w11 hbox hb; have n0_ := Aside0.mk (Kd.S_below (by (with_reducible repeat (first | apply Kd.S_alloc | apply Kd.S_drewN | apply Kd.S_drew)); exact HO_5.out) hb); have n1_ := Aside0.mk (blk_below (g := gb661) (o := .cells #[.slice (some ad663) l0_0.length c0_0, .slice A0_1 l0_1.length c0_1] 81 (0, 0)) (by (with_reducible repeat (first | refine blk_drewN ?_ _ | refine blk_drew ?_ | refine blk_alloc ?_ _)); exact BK661.out) hb); have n2_ := Aside0.mk (below_step (by repeat (first | (with_reducible first | exact HB.out | apply below_alloc | apply pw_below_drewN | apply below_drew1 | refine below_set ?_ GE661.out) | exact HB.out)) hb); have n3_ := Aside0.mk (hbox); have n4_ := Aside0.mk ((by rw [hg]; exact (below_size (by repeat (first | (with_reducible first | exact HB.out | apply below_alloc | apply pw_below_drewN | apply below_drew1 | refine below_set ?_ GE661.out) | exact HB.out))) : w.heap.size ≤ gb664)); have n5_ := Aside0.mk ((by rw [hg]; exact (below_size (by repeat (first | (with_reducible first | exact HB.out | apply below_alloc | apply pw_below_drewN | apply below_drew1 | refine below_set ?_ GE661.out) | exact HB.out))) : w.heap.size ≤ gb664)); have n6_ := Aside0.mk ((by rw [hg]; exact Nat.ne_of_lt (blk_lt (g := gb661) (o := .cells #[.slice (some ad663) l0_0.length c0_0, .slice A0_1 l0_1.length c0_1] 81 (0, 0)) (by (with_reducible repeat (first | refine blk_drewN ?_ _ | refine blk_drew ?_ | refine blk_alloc ?_ _)); exact BK661.out)) : gb661 ≠ gb664)); have n7_ := Aside0.mk ((by rw [hg]; exact Nat.ne_of_gt (blk_lt (g := gb661) (o := .cells #[.slice (some ad663) l0_0.length c0_0, .slice A0_1 l0_1.length c0_1] 81 (0, 0)) (by (with_reducible repeat (first | refine blk_drewN ?_ _ | refine blk_drew ?_ | refine blk_alloc ?_ _)); exact BK661.out)) : gb664 ≠ gb661)); clear HO_5; clear BK661; clear HB; have HO_5 := n0_; have BK661 := n1_; have HB := n2_; have BK664 := n3_; have GW664 := n4_; have GE664 := n5_; have NB661_664 := n6_; have NB664_661 := n7_; clear n0_ n1_ n2_ n3_ n4_ n5_ n6_ n7_; clear hb hbox hg; have hnb12 := NB664_661.out; have hnc12 := NB661_664.out; have hcz13_0 : w11.cell? ⟨gb664, 0, none⟩ = some (.string (⟨#[]⟩ : ByteArray)) := (blk_cell BK664.out 0).trans rfl; have hcz13_1 : w11.cell? ⟨gb664, 1, none⟩ = some (.int .i64 0) := (blk_cell BK664.out 1).trans rfl; have hcz13_2 : w11.cell? ⟨gb664, 2, none⟩ = some (.slice none 0 0) := (blk_cell BK664.out 2).trans rfl; have hfz13_0 := blk_frozen BK664.out 0; have hfz13_1 := blk_frozen BK664.out 1; have hfz13_2 := blk_frozen BK664.out 2))
       go_loopg [8, 23] k1 (fun kq v8 v23 w' => ∃ (x8_2 : List Int) (x23_2 : Int), v23 = .int .i64 x23_2 ∧ Aside0 (spec_AlphaMems.l1 kq l1 x5_1 x8_2 l0_0 (l0_0.length : Int) x17_1 l1 (l1.length : Int) x23_2 ((rd_T34 l0_0 x17_1).f0) ((rd_T34 l0_0 x17_1).f1) ((rd_T34 l0_0 x17_1).f2) = some r) ∧ Aside0 (kq ≤ k1) ∧ Aside0 (Kd.S (Kd.slice 3 (Kd.int .i64)) 67 w' w.heap.size (fun k_ => some k_ ≠ (v8 : Value).ownBlock) u5 x5_1) ∧ Aside0 (Kd.R (Kd.int .i64) 3 w' w.heap.size (fun _ => True) v8 x8_2) ∧ Aside0 (w'.heap[gb661]? = some (.cells #[(.slice (some ad663) l0_0.length c0_0), (.slice A0_1 l0_1.length c0_1)] 81 (0, 0))) ∧ Aside0 (w'.heap[gb664]? = some (.cells #[.string ((rd_T34 l0_0 x17_1).f0), .int .i64 ((rd_T34 l0_0 x17_1).f1), (.slice A663_2 ((rd_T34 l0_0 x17_1).f2).length c663_2)] 34 (0, 0))) ∧ Aside0 (Below w.heap.size w w'))
       case atStart => exact ⟨(([] : List Int)), (0), (by first | rfl | (simp; done) | (simp [*]; done)), H', ⟨Nat.le_refl _⟩, ⟨by (with_reducible repeat (first | apply Kd.S_alloc | apply Kd.S_drewN | apply Kd.S_drew)); exact Kd.S_mono (Kd.S_far (p := ⟨gb664, 2, none⟩) (Kd.S_far (p := ⟨gb664, 1, none⟩) (Kd.S_far (p := ⟨gb664, 0, none⟩) (Kd.S_types HO_5.out BK664.out (by decide)) (fun _ hk => hk.2) (.string ((rd_T34 l0_0 x17_1).f0))) (fun _ hk => hk.2) (.int .i64 ((rd_T34 l0_0 x17_1).f1))) (fun _ hk => hk.2) (.slice A663_2 ((rd_T34 l0_0 x17_1).f2).length c663_2)) (fun _ hk => (by simp [Value.ownBlock]))⟩, ⟨by first | exact Kd.R_nil _ _ _ _ _ | exact Kd.N_nil _ _ _ _ _ | exact Kd.V_nil _ _ _ _ _ | exact Kd.Q_nil _ _ _ _ _ | exact Kd.S_nil _ _ _ _ _⟩, ⟨by (with_reducible repeat (first | refine blk_drewN ?_ _ | refine blk_drew ?_ | refine blk_alloc ?_ _)); refine blk_far ?_ NB661_664.out _; (with_reducible repeat (first | refine blk_drewN ?_ _ | refine blk_drew ?_ | refine blk_alloc ?_ _)); refine blk_far ?_ NB661_664.out _; (with_reducible repeat (first | refine blk_drewN ?_ _ | refine blk_drew ?_ | refine blk_alloc ?_ _)); refine blk_far ?_ NB661_664.out _; (with_reducible repeat (first | refine blk_drewN ?_ _ | refine blk_drew ?_ | refine blk_alloc ?_ _)); exact BK661.out⟩, ⟨by (with_reducible repeat (first | refine blk_drewN ?_ _ | refine blk_drew ?_ | refine blk_alloc ?_ _)); refine blk_put (cs := #[.string ((rd_T34 l0_0 x17_1).f0), .int .i64 ((rd_T34 l0_0 x17_1).f1), .slice none 0 0]) ?_ 2 _ rfl; (with_reducible repeat (first | refine blk_drewN ?_ _ | refine blk_drew ?_ | refine blk_alloc ?_ _)); refine blk_put (cs := #[.string ((rd_T34 l0_0 x17_1).f0), .int .i64 0, .slice none 0 0]) ?_ 1 _ rfl; (with_reducible repeat (first | refine blk_drewN ?_ _ | refine blk_drew ?_ | refine blk_alloc ?_ _)); refine blk_put (cs := #[.string (⟨#[]⟩ : ByteArray), .int .i64 0, .slice none 0 0]) ?_ 0 _ rfl; (with_reducible repeat (first | refine blk_drewN ?_ _ | refine blk_drew ?_ | refine blk_alloc ?_ _)); exact BK664.out⟩, ⟨by repeat (first | (with_reducible first | exact HB.out | apply below_alloc | apply pw_below_drewN | apply below_drew1 | refine below_set ?_ GE661.out | refine below_set ?_ GE664.out) | exact HB.out)⟩⟩
       case round =>
        clear H'
        try clear c1
        try clear p2
        try clear c3
        try clear c4
        try clear c6
        try clear p6
        try clear q6
        try clear hx6
        try clear c8
        try clear c8b0
        try clear c9
        try clear c9b0
        try clear c10
        try clear c10b0
        try clear c12
        try clear hcz13_0
        try clear hcz13_1
        try clear hcz13_2
        try clear hcz7_0
        try clear hcz7_1
        try clear hfz13_0
        try clear hfz13_1
        try clear hfz13_2
        try clear hfz7_0
        try clear hfz7_1
        try clear hx663_0
        try clear hx663_1
        try clear hx663_2
        try clear p2
        try clear p663
        try clear q663
        obtain ⟨x8_2, x23_2, rfl, HA, HK2, HO_5, HO_8, BK661, BK664, HB⟩ := hrel
        cases gk with
        | zero => exact absurd HA.out (by simp [spec_AlphaMems.l1])
        | succ k2 =>
         have H := HA.out
         clear HA
         simp only [spec_AlphaMems.l1] at H
         by_cases c14 : x23_2 < (l1.length : Int)
         ·rw [if_pos c14] at H
          have c14b0 : decide (x23_2 < (l1.length : Int)) = true := decide_eq_true c14
          clear c14
          by_cases c15 : 0 ≤ x23_2
          ·rw [if_pos c15] at H
           have c15b0 : decide (0 ≤ x23_2) = true := decide_eq_true c15
           clear c15
           by_cases c16 : x23_2 < (l1.length : Int)
           ·rw [if_pos c16] at H
            have c16b0 : decide (x23_2 < (l1.length : Int)) = true := decide_eq_true c16
            clear c16
            replace H := Option.bind_eq_some_iff.mp H
            obtain ⟨t667, A170, H⟩ := H
            replace H : (if t667 = true then (if x8_2.length < 17592186044416 then (spec_AlphaMems.l1 k2 l1 x5_1 (x8_2 ++ [(rd_T38 l1 x23_2).f0]) l0_0 (l0_0.length : Int) x17_1 l1 (l1.length : Int) (wrap64 (x23_2 + 1)) ((rd_T34 l0_0 x17_1).f0) ((rd_T34 l0_0 x17_1).f1) ((rd_T34 l0_0 x17_1).f2)) else (none)) else (spec_AlphaMems.l1 k2 l1 x5_1 x8_2 l0_0 (l0_0.length : Int) x17_1 l1 (l1.length : Int) (wrap64 (x23_2 + 1)) ((rd_T34 l0_0 x17_1).f0) ((rd_T34 l0_0 x17_1).f1) ((rd_T34 l0_0 x17_1).f2))) = some r := H
            have A17 := Aside0.mk A170
            clear A170
            by_cases c18 : t667 = true
            ·subst c18
             have H1 : (if x8_2.length < 17592186044416 then (spec_AlphaMems.l1 k2 l1 x5_1 (x8_2 ++ [(rd_T38 l1 x23_2).f0]) l0_0 (l0_0.length : Int) x17_1 l1 (l1.length : Int) (wrap64 (x23_2 + 1)) ((rd_T34 l0_0 x17_1).f0) ((rd_T34 l0_0 x17_1).f1) ((rd_T34 l0_0 x17_1).f2)) else (none)) = some r := by first | (rw [if_pos rfl] at H; exact H) | rfl
             clear H
             have H := H1
             clear H1
             by_cases c19 : x8_2.length < 17592186044416
             ·rw [if_pos c19] at H
              have LMc19 := Aside0.mk c19
              clear c19
              obtain ⟨y668, hy668⟩ : ∃ y_ : List Int, y_ = (x8_2 ++ [(rd_T38 l1 x23_2).f0]) := ⟨_, rfl⟩
              replace H : (spec_AlphaMems.l1 k2 l1 x5_1 y668 l0_0 (l0_0.length : Int) x17_1 l1 (l1.length : Int) (wrap64 (x23_2 + 1)) ((rd_T34 l0_0 x17_1).f0) ((rd_T34 l0_0 x17_1).f1) ((rd_T34 l0_0 x17_1).f2)) = some r := by first | (rw [hy668]; with_reducible exact H) | (have H2_ := (Option.bind_some _ _).symm.trans H; rw [hy668]; with_reducible exact H2_) | (have H2_ := (Option.bind_some _ _).symm.trans H; with_reducible exact H2_) | with_reducible exact H | (rw [hy668]; exact H) | exact H
              have Ny668 := Aside0.mk hy668
              clear hy668
              have H' := Aside0.mk H
              clear H
              have p665 : 0 ≤ (x23_2 : Int) := of_decide_eq_true (by first | (with_reducible assumption) | assumption)
              have q665 : x23_2 < (l1.length : Int) := of_decide_eq_true (by first | (with_reducible assumption) | assumption)
              obtain ⟨ad665, A665_2, c665_2, e665, hx665_0, hx665_1, hx665_2, hl665_2, hi665_2⟩ := at_T38 HR1.out x23_2 p665 q665
              cases e665
              replace hx665_0 := (HB.out.cell (World.block_lt_of_cell? w _ hx665_0)).trans hx665_0
              replace hx665_1 := (HB.out.cell (World.block_lt_of_cell? w _ hx665_1)).trans hx665_1
              replace hx665_2 := (HB.out.cell (World.block_lt_of_cell? w _ hx665_2)).trans hx665_2
              have HR665_2 := Aside0.mk hi665_2
              have HC665_2 := Aside0.mk hl665_2
              clear hi665_2 hl665_2
              replace p665 := eq_true p665
              replace q665 := eq_true q665
              go_wp2_with (first | ((with_reducible refine gate_dst (N := 10) rfl ?_); refine box_event ?hg (N := 10) ?hd (cs := #[.int .i64 0, .string (⟨#[]⟩ : ByteArray), .slice none 0 0]) (t := 38) ?hr ?_; (case hd => rfl); (case hg => rfl); (case hr => first | (go_simp; done) | (go_simp; rfl)); intro gb666 hg w20 hbox hb; have n0_ := Aside0.mk (Kd.S_below (by (with_reducible repeat (first | apply Kd.S_alloc | apply Kd.S_drewN | apply Kd.S_drew)); exact HO_5.out) hb); have n1_ := Aside0.mk (Kd.R_below (by (with_reducible repeat (first | apply Kd.R_alloc | apply Kd.R_drewN | apply Kd.R_drew)); exact HO_8.out) hb); have n2_ := Aside0.mk (blk_below (g := gb661) (o := .cells #[.slice (some ad663) l0_0.length c0_0, .slice A0_1 l0_1.length c0_1] 81 (0, 0)) (by (with_reducible repeat (first | refine blk_drewN ?_ _ | refine blk_drew ?_ | refine blk_alloc ?_ _)); exact BK661.out) hb); have n3_ := Aside0.mk (blk_below (g := gb664) (o := .cells #[.string ((rd_T34 l0_0 x17_1).f0), .int .i64 ((rd_T34 l0_0 x17_1).f1), .slice A663_2 ((rd_T34 l0_0 x17_1).f2).length c663_2] 34 (0, 0)) (by (with_reducible repeat (first | refine blk_drewN ?_ _ | refine blk_drew ?_ | refine blk_alloc ?_ _)); exact BK664.out) hb); have n4_ := Aside0.mk (below_step (by repeat (first | (with_reducible first | exact HB.out | apply below_alloc | apply pw_below_drewN | apply below_drew1 | refine below_set ?_ GE661.out | refine below_set ?_ GE664.out) | exact HB.out)) hb); have n5_ := Aside0.mk (hbox); have n6_ := Aside0.mk ((by rw [hg]; exact (below_size (by repeat (first | (with_reducible first | exact HB.out | apply below_alloc | apply pw_below_drewN | apply below_drew1 | refine below_set ?_ GE661.out | refine below_set ?_ GE664.out) | exact HB.out))) : w.heap.size ≤ gb666)); have n7_ := Aside0.mk ((by rw [hg]; exact (below_size (by repeat (first | (with_reducible first | exact HB.out | apply below_alloc | apply pw_below_drewN | apply below_drew1 | refine below_set ?_ GE661.out | refine below_set ?_ GE664.out) | exact HB.out))) : w.heap.size ≤ gb666)); have n8_ := Aside0.mk ((by rw [hg]; exact Nat.ne_of_lt (blk_lt (g := gb661) (o := .cells #[.slice (some ad663) l0_0.length c0_0, .slice A0_1 l0_1.length c0_1] 81 (0, 0)) (by (with_reducible repeat (first | refine blk_drewN ?_ _ | refine blk_drew ?_ | refine blk_alloc ?_ _)); exact BK661.out)) : gb661 ≠ gb666)); have n9_ := Aside0.mk ((by rw [hg]; exact Nat.ne_of_gt (blk_lt (g := gb661) (o := .cells #[.slice (some ad663) l0_0.length c0_0, .slice A0_1 l0_1.length c0_1] 81 (0, 0)) (by (with_reducible repeat (first | refine blk_drewN ?_ _ | refine blk_drew ?_ | refine blk_alloc ?_ _)); exact BK661.out)) : gb666 ≠ gb661)); have n10_ := Aside0.mk ((by rw [hg]; exact Nat.ne_of_lt (blk_lt (g := gb664) (o := .cells #[.string ((rd_T34 l0_0 x17_1).f0), .int .i64 ((rd_T34 l0_0 x17_1).f1), .slice A663_2 ((rd_T34 l0_0 x17_1).f2).length c663_2] 34 (0, 0)) (by (with_reducible repeat (first | refine blk_drewN ?_ _ | refine blk_drew ?_ | refine blk_alloc ?_ _)); exact BK664.out)) : gb664 ≠ gb666)); have n11_ := Aside0.mk ((by rw [hg]; exact Nat.ne_of_gt (blk_lt (g := gb664) (o := .cells #[.string ((rd_T34 l0_0 x17_1).f0), .int .i64 ((rd_T34 l0_0 x17_1).f1), .slice A663_2 ((rd_T34 l0_0 x17_1).f2).length c663_2] 34 (0, 0)) (by (with_reducible repeat (first | refine blk_drewN ?_ _ | refine blk_drew ?_ | refine blk_alloc ?_ _)); exact BK664.out)) : gb666 ≠ gb664)); clear HO_5; clear HO_8; clear BK661; clear BK664; clear HB; have HO_5 := n0_; have HO_8 := n1_; have BK661 := n2_; have BK664 := n3_; have HB := n4_; have BK666 := n5_; have GW666 := n6_; have GE666 := n7_; have NB661_666 := n8_; have NB666_661 := n9_; have NB664_666 := n10_; have NB666_664 := n11_; clear n0_ n1_ n2_ n3_ n4_ n5_ n6_ n7_ n8_ n9_ n10_ n11_; clear hb hbox hg; have hnb21 := NB666_661.out; have hnc21 := NB661_666.out; have hnb22 := NB666_664.out; have hnc22 := NB664_666.out; have hcz23_0 : w20.cell? ⟨gb666, 0, none⟩ = some (.int .i64 0) := (blk_cell BK666.out 0).trans rfl; have hcz23_1 : w20.cell? ⟨gb666, 1, none⟩ = some (.string (⟨#[]⟩ : ByteArray)) := (blk_cell BK666.out 1).trans rfl; have hcz23_2 : w20.cell? ⟨gb666, 2, none⟩ = some (.slice none 0 0) := (blk_cell BK666.out 2).trans rfl; have hfz23_0 := blk_frozen BK666.out 0; have hfz23_1 := blk_frozen BK666.out 1; have hfz23_2 := blk_frozen BK666.out 2; have hnb24 := NB664_661.out; have hnc24 := NB661_664.out; have hcz25_0 : w20.cell? ⟨gb664, 0, none⟩ = some (.string ((rd_T34 l0_0 x17_1).f0)) := (blk_cell BK664.out 0).trans rfl; have hcz25_1 : w20.cell? ⟨gb664, 1, none⟩ = some (.int .i64 ((rd_T34 l0_0 x17_1).f1)) := (blk_cell BK664.out 1).trans rfl; have hcz25_2 : w20.cell? ⟨gb664, 2, none⟩ = some (.slice A663_2 ((rd_T34 l0_0 x17_1).f2).length c663_2) := (blk_cell BK664.out 2).trans rfl; have hfz25_0 := blk_frozen BK664.out 0; have hfz25_1 := blk_frozen BK664.out 1; have hfz25_2 := blk_frozen BK664.out 2) | ((with_reducible refine gate_callee (f := 12) rfl ?_); refine goesL_ (some 29) rfl rfl Try.func12 (by kernel_rfl) rfl #[.agg #[.string ((rd_T34 l0_0 x17_1).f0), .int .i64 ((rd_T34 l0_0 x17_1).f1), .slice A663_2 ((rd_T34 l0_0 x17_1).f2).length c663_2], .agg #[.int .i64 ((rd_T38 l1 x23_2).f0), .string ((rd_T38 l1 x23_2).f1), .slice A665_2 ((rd_T38 l1 x23_2).f2).length c665_2]] rfl (by (try simp only [List.map_toArray, List.map_cons, List.map_nil]); first | done | rfl | (simp only [List.length_drop, List.length_take]; rfl)) ?_; (with_reducible refine (spec_AlphaPass.calls k2 ((rd_T34 l0_0 x17_1).f0) ((rd_T34 l0_0 x17_1).f1) _ _ ((rd_T34 l0_0 x17_1).f2) ((rd_T38 l1 x23_2).f0) ((rd_T38 l1 x23_2).f1) _ _ ((rd_T38 l1 x23_2).f2) true _ ?side1 ?side2 ?side3 ?side4 A17.out).mono ?_); (case side1 => exact Kd.C_below HR663_2.out (by repeat (first | (with_reducible first | exact HB.out | apply below_alloc | apply pw_below_drewN | apply below_drew1 | refine below_set ?_ GE661.out | refine below_set ?_ GE664.out | refine below_set ?_ GE666.out) | exact HB.out))); (case side2 => exact HC663_2.out); (case side3 => exact Kd.C_below HR665_2.out (by repeat (first | (with_reducible first | exact HB.out | apply below_alloc | apply pw_below_drewN | apply below_drew1 | refine below_set ?_ GE661.out | refine below_set ?_ GE664.out | refine below_set ?_ GE666.out) | exact HB.out))); (case side4 => exact HC665_2.out); rintro e w26 ⟨rfl, hb⟩; refine ⟨_, rfl, ?_⟩; have n0_ := Aside0.mk (Kd.S_below (by (with_reducible repeat (first | apply Kd.S_alloc | apply Kd.S_drewN | apply Kd.S_drew)); exact (Kd.S_mono (Kd.S_far (p := ⟨gb666, 2, none⟩) (Kd.S_far (p := ⟨gb666, 1, none⟩) (Kd.S_far (p := ⟨gb666, 0, none⟩) (Kd.S_types HO_5.out BK666.out (by decide)) (fun _ hk => hk.2) (.int .i64 ((rd_T38 l1 x23_2).f0))) (fun _ hk => hk.2) (.string ((rd_T38 l1 x23_2).f1))) (fun _ hk => hk.2) (.slice A665_2 ((rd_T38 l1 x23_2).f2).length c665_2)) (fun _ h_ => h_.1))) hb); have n1_ := Aside0.mk (Kd.R_below (by (with_reducible repeat (first | apply Kd.R_alloc | apply Kd.R_drewN | apply Kd.R_drew)); exact (Kd.R_mono (Kd.R_far (p := ⟨gb666, 2, none⟩) (Kd.R_far (p := ⟨gb666, 1, none⟩) (Kd.R_far (p := ⟨gb666, 0, none⟩) (Kd.R_types HO_8.out BK666.out (by decide)) (fun _ hk => hk.2) (.int .i64 ((rd_T38 l1 x23_2).f0))) (fun _ hk => hk.2) (.string ((rd_T38 l1 x23_2).f1))) (fun _ hk => hk.2) (.slice A665_2 ((rd_T38 l1 x23_2).f2).length c665_2)) (fun _ h_ => h_.1))) hb); have n2_ := Aside0.mk (blk_below (g := gb661) (o := .cells #[.slice (some ad663) l0_0.length c0_0, .slice A0_1 l0_1.length c0_1] 81 (0, 0)) (by (with_reducible repeat (first | refine blk_drewN ?_ _ | refine blk_drew ?_ | refine blk_alloc ?_ _)); refine blk_far ?_ NB661_666.out _; (with_reducible repeat (first | refine blk_drewN ?_ _ | refine blk_drew ?_ | refine blk_alloc ?_ _)); refine blk_far ?_ NB661_666.out _; (with_reducible repeat (first | refine blk_drewN ?_ _ | refine blk_drew ?_ | refine blk_alloc ?_ _)); refine blk_far ?_ NB661_666.out _; (with_reducible repeat (first | refine blk_drewN ?_ _ | refine blk_drew ?_ | refine blk_alloc ?_ _)); exact BK661.out) hb); have n3_ := Aside0.mk (blk_below (g := gb664) (o := .cells #[.string ((rd_T34 l0_0 x17_1).f0), .int .i64 ((rd_T34 l0_0 x17_1).f1), .slice A663_2 ((rd_T34 l0_0 x17_1).f2).length c663_2] 34 (0, 0)) (by (with_reducible repeat (first | refine blk_drewN ?_ _ | refine blk_drew ?_ | refine blk_alloc ?_ _)); refine blk_far ?_ NB664_666.out _; (with_reducible repeat (first | refine blk_drewN ?_ _ | refine blk_drew ?_ | refine blk_alloc ?_ _)); refine blk_far ?_ NB664_666.out _; (with_reducible repeat (first | refine blk_drewN ?_ _ | refine blk_drew ?_ | refine blk_alloc ?_ _)); refine blk_far ?_ NB664_666.out _; (with_reducible repeat (first | refine blk_drewN ?_ _ | refine blk_drew ?_ | refine blk_alloc ?_ _)); exact BK664.out) hb); have n4_ := Aside0.mk (blk_below (g := gb666) (o := .cells #[.int .i64 ((rd_T38 l1 x23_2).f0), .string ((rd_T38 l1 x23_2).f1), .slice A665_2 ((rd_T38 l1 x23_2).f2).length c665_2] 38 (0, 0)) (by (with_reducible repeat (first | refine blk_drewN ?_ _ | refine blk_drew ?_ | refine blk_alloc ?_ _)); refine blk_put (cs := #[.int .i64 ((rd_T38 l1 x23_2).f0), .string ((rd_T38 l1 x23_2).f1), .slice none 0 0]) ?_ 2 _ rfl; (with_reducible repeat (first | refine blk_drewN ?_ _ | refine blk_drew ?_ | refine blk_alloc ?_ _)); refine blk_put (cs := #[.int .i64 ((rd_T38 l1 x23_2).f0), .string (⟨#[]⟩ : ByteArray), .slice none 0 0]) ?_ 1 _ rfl; (with_reducible repeat (first | refine blk_drewN ?_ _ | refine blk_drew ?_ | refine blk_alloc ?_ _)); refine blk_put (cs := #[.int .i64 0, .string (⟨#[]⟩ : ByteArray), .slice none 0 0]) ?_ 0 _ rfl; (with_reducible repeat (first | refine blk_drewN ?_ _ | refine blk_drew ?_ | refine blk_alloc ?_ _)); exact BK666.out) hb); have n5_ := Aside0.mk (below_step (by repeat (first | (with_reducible first | exact HB.out | apply below_alloc | apply pw_below_drewN | apply below_drew1 | refine below_set ?_ GE661.out | refine below_set ?_ GE664.out | refine below_set ?_ GE666.out) | exact HB.out)) hb); clear HO_5; clear HO_8; clear BK661; clear BK664; clear BK666; clear HB; have HO_5 := n0_; have HO_8 := n1_; have BK661 := n2_; have BK664 := n3_; have BK666 := n4_; have HB := n5_; clear n0_ n1_ n2_ n3_ n4_ n5_; (try clear hb); (try clear hb2); (try clear hk); (try clear hi); have hcz27_0 : w26.cell? ⟨gb666, 0, none⟩ = some (.int .i64 ((rd_T38 l1 x23_2).f0)) := (blk_cell BK666.out 0).trans rfl; have hcz27_1 : w26.cell? ⟨gb666, 1, none⟩ = some (.string ((rd_T38 l1 x23_2).f1)) := (blk_cell BK666.out 1).trans rfl; have hcz27_2 : w26.cell? ⟨gb666, 2, none⟩ = some (.slice A665_2 ((rd_T38 l1 x23_2).f2).length c665_2) := (blk_cell BK666.out 2).trans rfl; have hfz27_0 := blk_frozen BK666.out 0; have hfz27_1 := blk_frozen BK666.out 1; have hfz27_2 := blk_frozen BK666.out 2) | ((with_reducible refine gate_builtin (b := .append) (xs := #[.tmp 30, .tmp 33]) rfl ?_); at_builtin; refine Kd.R_append (Kd.int .i64) (w0 := w) w.heap.size rfl (.tmp 30) (.tmp 33) 67 3 (.int .i64 0) 8 rfl Try.underlying67 info3 rfl (by decide) (by omega) u8 x8_2 ((rd_T38 l1 x23_2).f0) [.int .i64 ((rd_T38 l1 x23_2).f0)] (fun _ => True) (fun _ => False) rfl rfl ?aP (fun _ hk => hk.elim) ?aF ?aO ?aB ?aS ?aL ?_; (case aP => exact rfl); (case aB => exact (by repeat (first | (with_reducible first | exact HB.out | apply below_alloc | apply pw_below_drewN | apply below_drew1 | refine below_set ?_ GE661.out | refine below_set ?_ GE664.out | refine below_set ?_ GE666.out) | exact HB.out))); (case aF => exact (fun _ _ => trivial)); (case aO => exact (by (with_reducible repeat (first | apply Kd.R_alloc | apply Kd.R_drewN | apply Kd.R_drew)); exact HO_8.out)); (case aS => exact (below_size (by repeat (first | (with_reducible first | exact HB.out | apply below_alloc | apply pw_below_drewN | apply below_drew1 | refine below_set ?_ GE661.out | refine below_set ?_ GE664.out | refine below_set ?_ GE666.out) | exact HB.out)))); (case aL => have := LMc19.out; omega); intro v669 w28 ho hb hg hat; rw [← Ny668.out] at ho; have n0_ := Aside0.mk (Kd.S_after (ok := (fun _ => True)) (by (with_reducible repeat (first | apply Kd.S_alloc | apply Kd.S_drewN | apply Kd.S_drew)); exact Kd.S_mono HO_5.out (fun _ hk => ⟨trivial, hk⟩)) hg hat); have n1_ := Aside0.mk (blk_grown (g := gb661) (o := .cells #[.slice (some ad663) l0_0.length c0_0, .slice A0_1 l0_1.length c0_1] 81 (0, 0)) (by (with_reducible repeat (first | refine blk_drewN ?_ _ | refine blk_drew ?_ | refine blk_alloc ?_ _)); exact BK661.out) hg (Kd.R_ne HO_8.out BK661.out (by decide))); have n2_ := Aside0.mk (blk_grown (g := gb664) (o := .cells #[.string ((rd_T34 l0_0 x17_1).f0), .int .i64 ((rd_T34 l0_0 x17_1).f1), .slice A663_2 ((rd_T34 l0_0 x17_1).f2).length c663_2] 34 (0, 0)) (by (with_reducible repeat (first | refine blk_drewN ?_ _ | refine blk_drew ?_ | refine blk_alloc ?_ _)); exact BK664.out) hg (Kd.R_ne HO_8.out BK664.out (by decide))); have n3_ := Aside0.mk (blk_grown (g := gb666) (o := .cells #[.int .i64 ((rd_T38 l1 x23_2).f0), .string ((rd_T38 l1 x23_2).f1), .slice A665_2 ((rd_T38 l1 x23_2).f2).length c665_2] 38 (0, 0)) (by (with_reducible repeat (first | refine blk_drewN ?_ _ | refine blk_drew ?_ | refine blk_alloc ?_ _)); exact BK666.out) hg (Kd.R_ne HO_8.out BK666.out (by decide))); have n4_ := Aside0.mk (hb); have n5_ := Aside0.mk (ho); clear HO_5; clear BK661; clear BK664; clear BK666; clear HB; clear HO_8; have HO_5 := n0_; have BK661 := n1_; have BK664 := n2_; have BK666 := n3_; have HB := n4_; have HO670 := n5_; clear n0_ n1_ n2_ n3_ n4_ n5_; clear ho hb hg hat))
              go_roundg k2
              case measure => have := HK1.out; have := HK2.out; omega
              case rel => exact ⟨(y668), (wrap64 (x23_2 + 1)), (by first | rfl | (simp; done) | (simp [*]; done)), H', ⟨by have := HK1.out; have := HK2.out; omega⟩, ⟨by (with_reducible repeat (first | apply Kd.S_alloc | apply Kd.S_drewN | apply Kd.S_drew)); exact Kd.S_mono HO_5.out (fun _ hk => hk.2)⟩, ⟨by (with_reducible repeat (first | apply Kd.R_alloc | apply Kd.R_drewN | apply Kd.R_drew)); exact HO670.out⟩, ⟨by (with_reducible repeat (first | refine blk_drewN ?_ _ | refine blk_drew ?_ | refine blk_alloc ?_ _)); exact BK661.out⟩, ⟨by (with_reducible repeat (first | refine blk_drewN ?_ _ | refine blk_drew ?_ | refine blk_alloc ?_ _)); exact BK664.out⟩, ⟨by repeat (first | (with_reducible first | exact HB.out | apply below_alloc | apply pw_below_drewN | apply below_drew1 | refine below_set ?_ GE661.out | refine below_set ?_ GE664.out | refine below_set ?_ GE666.out) | exact HB.out)⟩⟩
             ·rw [if_neg c19] at H
              exact absurd H (by simp)
            ·replace c18 := Bool.eq_false_iff.mpr c18
             subst c18
             have H1 : (spec_AlphaMems.l1 k2 l1 x5_1 x8_2 l0_0 (l0_0.length : Int) x17_1 l1 (l1.length : Int) (wrap64 (x23_2 + 1)) ((rd_T34 l0_0 x17_1).f0) ((rd_T34 l0_0 x17_1).f1) ((rd_T34 l0_0 x17_1).f2)) = some r := by first | (rw [if_neg (show ¬ (false = true) by decide)] at H; exact H) | rfl
             clear H
             have H := H1
             clear H1
             have H' := Aside0.mk H
             clear H
             have p665 : 0 ≤ (x23_2 : Int) := of_decide_eq_true (by first | (with_reducible assumption) | assumption)
             have q665 : x23_2 < (l1.length : Int) := of_decide_eq_true (by first | (with_reducible assumption) | assumption)
             obtain ⟨ad665, A665_2, c665_2, e665, hx665_0, hx665_1, hx665_2, hl665_2, hi665_2⟩ := at_T38 HR1.out x23_2 p665 q665
             cases e665
             replace hx665_0 := (HB.out.cell (World.block_lt_of_cell? w _ hx665_0)).trans hx665_0
             replace hx665_1 := (HB.out.cell (World.block_lt_of_cell? w _ hx665_1)).trans hx665_1
             replace hx665_2 := (HB.out.cell (World.block_lt_of_cell? w _ hx665_2)).trans hx665_2
             have HR665_2 := Aside0.mk hi665_2
             have HC665_2 := Aside0.mk hl665_2
             clear hi665_2 hl665_2
             replace p665 := eq_true p665
             replace q665 := eq_true q665
             go_wp2_with (first | ((with_reducible refine gate_dst (N := 10) rfl ?_); refine box_event ?hg (N := 10) ?hd (cs := #[.int .i64 0, .string (⟨#[]⟩ : ByteArray), .slice none 0 0]) (t := 38) ?hr ?_; (case hd => rfl); (case hg => rfl); (case hr => first | (go_simp; done) | (go_simp; rfl)); intro gb666 hg w29 hbox hb; have n0_ := Aside0.mk (Kd.S_below (by (with_reducible repeat (first | apply Kd.S_alloc | apply Kd.S_drewN | apply Kd.S_drew)); exact HO_5.out) hb); have n1_ := Aside0.mk (Kd.R_below (by (with_reducible repeat (first | apply Kd.R_alloc | apply Kd.R_drewN | apply Kd.R_drew)); exact HO_8.out) hb); have n2_ := Aside0.mk (blk_below (g := gb661) (o := .cells #[.slice (some ad663) l0_0.length c0_0, .slice A0_1 l0_1.length c0_1] 81 (0, 0)) (by (with_reducible repeat (first | refine blk_drewN ?_ _ | refine blk_drew ?_ | refine blk_alloc ?_ _)); exact BK661.out) hb); have n3_ := Aside0.mk (blk_below (g := gb664) (o := .cells #[.string ((rd_T34 l0_0 x17_1).f0), .int .i64 ((rd_T34 l0_0 x17_1).f1), .slice A663_2 ((rd_T34 l0_0 x17_1).f2).length c663_2] 34 (0, 0)) (by (with_reducible repeat (first | refine blk_drewN ?_ _ | refine blk_drew ?_ | refine blk_alloc ?_ _)); exact BK664.out) hb); have n4_ := Aside0.mk (below_step (by repeat (first | (with_reducible first | exact HB.out | apply below_alloc | apply pw_below_drewN | apply below_drew1 | refine below_set ?_ GE661.out | refine below_set ?_ GE664.out) | exact HB.out)) hb); have n5_ := Aside0.mk (hbox); have n6_ := Aside0.mk ((by rw [hg]; exact (below_size (by repeat (first | (with_reducible first | exact HB.out | apply below_alloc | apply pw_below_drewN | apply below_drew1 | refine below_set ?_ GE661.out | refine below_set ?_ GE664.out) | exact HB.out))) : w.heap.size ≤ gb666)); have n7_ := Aside0.mk ((by rw [hg]; exact (below_size (by repeat (first | (with_reducible first | exact HB.out | apply below_alloc | apply pw_below_drewN | apply below_drew1 | refine below_set ?_ GE661.out | refine below_set ?_ GE664.out) | exact HB.out))) : w.heap.size ≤ gb666)); have n8_ := Aside0.mk ((by rw [hg]; exact Nat.ne_of_lt (blk_lt (g := gb661) (o := .cells #[.slice (some ad663) l0_0.length c0_0, .slice A0_1 l0_1.length c0_1] 81 (0, 0)) (by (with_reducible repeat (first | refine blk_drewN ?_ _ | refine blk_drew ?_ | refine blk_alloc ?_ _)); exact BK661.out)) : gb661 ≠ gb666)); have n9_ := Aside0.mk ((by rw [hg]; exact Nat.ne_of_gt (blk_lt (g := gb661) (o := .cells #[.slice (some ad663) l0_0.length c0_0, .slice A0_1 l0_1.length c0_1] 81 (0, 0)) (by (with_reducible repeat (first | refine blk_drewN ?_ _ | refine blk_drew ?_ | refine blk_alloc ?_ _)); exact BK661.out)) : gb666 ≠ gb661)); have n10_ := Aside0.mk ((by rw [hg]; exact Nat.ne_of_lt (blk_lt (g := gb664) (o := .cells #[.string ((rd_T34 l0_0 x17_1).f0), .int .i64 ((rd_T34 l0_0 x17_1).f1), .slice A663_2 ((rd_T34 l0_0 x17_1).f2).length c663_2] 34 (0, 0)) (by (with_reducible repeat (first | refine blk_drewN ?_ _ | refine blk_drew ?_ | refine blk_alloc ?_ _)); exact BK664.out)) : gb664 ≠ gb666)); have n11_ := Aside0.mk ((by rw [hg]; exact Nat.ne_of_gt (blk_lt (g := gb664) (o := .cells #[.string ((rd_T34 l0_0 x17_1).f0), .int .i64 ((rd_T34 l0_0 x17_1).f1), .slice A663_2 ((rd_T34 l0_0 x17_1).f2).length c663_2] 34 (0, 0)) (by (with_reducible repeat (first | refine blk_drewN ?_ _ | refine blk_drew ?_ | refine blk_alloc ?_ _)); exact BK664.out)) : gb666 ≠ gb664)); clear HO_5; clear HO_8; clear BK661; clear BK664; clear HB; have HO_5 := n0_; have HO_8 := n1_; have BK661 := n2_; have BK664 := n3_; have HB := n4_; have BK666 := n5_; have GW666 := n6_; have GE666 := n7_; have NB661_666 := n8_; have NB666_661 := n9_; have NB664_666 := n10_; have NB666_664 := n11_; clear n0_ n1_ n2_ n3_ n4_ n5_ n6_ n7_ n8_ n9_ n10_ n11_; clear hb hbox hg; have hnb30 := NB666_661.out; have hnc30 := NB661_666.out; have hnb31 := NB666_664.out; have hnc31 := NB664_666.out; have hcz32_0 : w29.cell? ⟨gb666, 0, none⟩ = some (.int .i64 0) := (blk_cell BK666.out 0).trans rfl; have hcz32_1 : w29.cell? ⟨gb666, 1, none⟩ = some (.string (⟨#[]⟩ : ByteArray)) := (blk_cell BK666.out 1).trans rfl; have hcz32_2 : w29.cell? ⟨gb666, 2, none⟩ = some (.slice none 0 0) := (blk_cell BK666.out 2).trans rfl; have hfz32_0 := blk_frozen BK666.out 0; have hfz32_1 := blk_frozen BK666.out 1; have hfz32_2 := blk_frozen BK666.out 2; have hnb33 := NB664_661.out; have hnc33 := NB661_664.out; have hcz34_0 : w29.cell? ⟨gb664, 0, none⟩ = some (.string ((rd_T34 l0_0 x17_1).f0)) := (blk_cell BK664.out 0).trans rfl; have hcz34_1 : w29.cell? ⟨gb664, 1, none⟩ = some (.int .i64 ((rd_T34 l0_0 x17_1).f1)) := (blk_cell BK664.out 1).trans rfl; have hcz34_2 : w29.cell? ⟨gb664, 2, none⟩ = some (.slice A663_2 ((rd_T34 l0_0 x17_1).f2).length c663_2) := (blk_cell BK664.out 2).trans rfl; have hfz34_0 := blk_frozen BK664.out 0; have hfz34_1 := blk_frozen BK664.out 1; have hfz34_2 := blk_frozen BK664.out 2) | ((with_reducible refine gate_callee (f := 12) rfl ?_); refine goesL_ (some 29) rfl rfl Try.func12 (by kernel_rfl) rfl #[.agg #[.string ((rd_T34 l0_0 x17_1).f0), .int .i64 ((rd_T34 l0_0 x17_1).f1), .slice A663_2 ((rd_T34 l0_0 x17_1).f2).length c663_2], .agg #[.int .i64 ((rd_T38 l1 x23_2).f0), .string ((rd_T38 l1 x23_2).f1), .slice A665_2 ((rd_T38 l1 x23_2).f2).length c665_2]] rfl (by (try simp only [List.map_toArray, List.map_cons, List.map_nil]); first | done | rfl | (simp only [List.length_drop, List.length_take]; rfl)) ?_; (with_reducible refine (spec_AlphaPass.calls k2 ((rd_T34 l0_0 x17_1).f0) ((rd_T34 l0_0 x17_1).f1) _ _ ((rd_T34 l0_0 x17_1).f2) ((rd_T38 l1 x23_2).f0) ((rd_T38 l1 x23_2).f1) _ _ ((rd_T38 l1 x23_2).f2) false _ ?side1 ?side2 ?side3 ?side4 A17.out).mono ?_); (case side1 => exact Kd.C_below HR663_2.out (by repeat (first | (with_reducible first | exact HB.out | apply below_alloc | apply pw_below_drewN | apply below_drew1 | refine below_set ?_ GE661.out | refine below_set ?_ GE664.out | refine below_set ?_ GE666.out) | exact HB.out))); (case side2 => exact HC663_2.out); (case side3 => exact Kd.C_below HR665_2.out (by repeat (first | (with_reducible first | exact HB.out | apply below_alloc | apply pw_below_drewN | apply below_drew1 | refine below_set ?_ GE661.out | refine below_set ?_ GE664.out | refine below_set ?_ GE666.out) | exact HB.out))); (case side4 => exact HC665_2.out); rintro e w35 ⟨rfl, hb⟩; refine ⟨_, rfl, ?_⟩; have n0_ := Aside0.mk (Kd.S_below (by (with_reducible repeat (first | apply Kd.S_alloc | apply Kd.S_drewN | apply Kd.S_drew)); exact (Kd.S_mono (Kd.S_far (p := ⟨gb666, 2, none⟩) (Kd.S_far (p := ⟨gb666, 1, none⟩) (Kd.S_far (p := ⟨gb666, 0, none⟩) (Kd.S_types HO_5.out BK666.out (by decide)) (fun _ hk => hk.2) (.int .i64 ((rd_T38 l1 x23_2).f0))) (fun _ hk => hk.2) (.string ((rd_T38 l1 x23_2).f1))) (fun _ hk => hk.2) (.slice A665_2 ((rd_T38 l1 x23_2).f2).length c665_2)) (fun _ h_ => h_.1))) hb); have n1_ := Aside0.mk (Kd.R_below (by (with_reducible repeat (first | apply Kd.R_alloc | apply Kd.R_drewN | apply Kd.R_drew)); exact (Kd.R_mono (Kd.R_far (p := ⟨gb666, 2, none⟩) (Kd.R_far (p := ⟨gb666, 1, none⟩) (Kd.R_far (p := ⟨gb666, 0, none⟩) (Kd.R_types HO_8.out BK666.out (by decide)) (fun _ hk => hk.2) (.int .i64 ((rd_T38 l1 x23_2).f0))) (fun _ hk => hk.2) (.string ((rd_T38 l1 x23_2).f1))) (fun _ hk => hk.2) (.slice A665_2 ((rd_T38 l1 x23_2).f2).length c665_2)) (fun _ h_ => h_.1))) hb); have n2_ := Aside0.mk (blk_below (g := gb661) (o := .cells #[.slice (some ad663) l0_0.length c0_0, .slice A0_1 l0_1.length c0_1] 81 (0, 0)) (by (with_reducible repeat (first | refine blk_drewN ?_ _ | refine blk_drew ?_ | refine blk_alloc ?_ _)); refine blk_far ?_ NB661_666.out _; (with_reducible repeat (first | refine blk_drewN ?_ _ | refine blk_drew ?_ | refine blk_alloc ?_ _)); refine blk_far ?_ NB661_666.out _; (with_reducible repeat (first | refine blk_drewN ?_ _ | refine blk_drew ?_ | refine blk_alloc ?_ _)); refine blk_far ?_ NB661_666.out _; (with_reducible repeat (first | refine blk_drewN ?_ _ | refine blk_drew ?_ | refine blk_alloc ?_ _)); exact BK661.out) hb); have n3_ := Aside0.mk (blk_below (g := gb664) (o := .cells #[.string ((rd_T34 l0_0 x17_1).f0), .int .i64 ((rd_T34 l0_0 x17_1).f1), .slice A663_2 ((rd_T34 l0_0 x17_1).f2).length c663_2] 34 (0, 0)) (by (with_reducible repeat (first | refine blk_drewN ?_ _ | refine blk_drew ?_ | refine blk_alloc ?_ _)); refine blk_far ?_ NB664_666.out _; (with_reducible repeat (first | refine blk_drewN ?_ _ | refine blk_drew ?_ | refine blk_alloc ?_ _)); refine blk_far ?_ NB664_666.out _; (with_reducible repeat (first | refine blk_drewN ?_ _ | refine blk_drew ?_ | refine blk_alloc ?_ _)); refine blk_far ?_ NB664_666.out _; (with_reducible repeat (first | refine blk_drewN ?_ _ | refine blk_drew ?_ | refine blk_alloc ?_ _)); exact BK664.out) hb); have n4_ := Aside0.mk (blk_below (g := gb666) (o := .cells #[.int .i64 ((rd_T38 l1 x23_2).f0), .string ((rd_T38 l1 x23_2).f1), .slice A665_2 ((rd_T38 l1 x23_2).f2).length c665_2] 38 (0, 0)) (by (with_reducible repeat (first | refine blk_drewN ?_ _ | refine blk_drew ?_ | refine blk_alloc ?_ _)); refine blk_put (cs := #[.int .i64 ((rd_T38 l1 x23_2).f0), .string ((rd_T38 l1 x23_2).f1), .slice none 0 0]) ?_ 2 _ rfl; (with_reducible repeat (first | refine blk_drewN ?_ _ | refine blk_drew ?_ | refine blk_alloc ?_ _)); refine blk_put (cs := #[.int .i64 ((rd_T38 l1 x23_2).f0), .string (⟨#[]⟩ : ByteArray), .slice none 0 0]) ?_ 1 _ rfl; (with_reducible repeat (first | refine blk_drewN ?_ _ | refine blk_drew ?_ | refine blk_alloc ?_ _)); refine blk_put (cs := #[.int .i64 0, .string (⟨#[]⟩ : ByteArray), .slice none 0 0]) ?_ 0 _ rfl; (with_reducible repeat (first | refine blk_drewN ?_ _ | refine blk_drew ?_ | refine blk_alloc ?_ _)); exact BK666.out) hb); have n5_ := Aside0.mk (below_step (by repeat (first | (with_reducible first | exact HB.out | apply below_alloc | apply pw_below_drewN | apply below_drew1 | refine below_set ?_ GE661.out | refine below_set ?_ GE664.out | refine below_set ?_ GE666.out) | exact HB.out)) hb); clear HO_5; clear HO_8; clear BK661; clear BK664; clear BK666; clear HB; have HO_5 := n0_; have HO_8 := n1_; have BK661 := n2_; have BK664 := n3_; have BK666 := n4_; have HB := n5_; clear n0_ n1_ n2_ n3_ n4_ n5_; (try clear hb); (try clear hb2); (try clear hk); (try clear hi)))
             go_roundg k2
             case measure => have := HK1.out; have := HK2.out; omega
             case rel => exact ⟨(x8_2), (wrap64 (x23_2 + 1)), (by first | rfl | (simp; done) | (simp [*]; done)), H', ⟨by have := HK1.out; have := HK2.out; omega⟩, ⟨by (with_reducible repeat (first | apply Kd.S_alloc | apply Kd.S_drewN | apply Kd.S_drew)); exact HO_5.out⟩, ⟨by (with_reducible repeat (first | apply Kd.R_alloc | apply Kd.R_drewN | apply Kd.R_drew)); exact HO_8.out⟩, ⟨by (with_reducible repeat (first | refine blk_drewN ?_ _ | refine blk_drew ?_ | refine blk_alloc ?_ _)); exact BK661.out⟩, ⟨by (with_reducible repeat (first | refine blk_drewN ?_ _ | refine blk_drew ?_ | refine blk_alloc ?_ _)); exact BK664.out⟩, ⟨by repeat (first | (with_reducible first | exact HB.out | apply below_alloc | apply pw_below_drewN | apply below_drew1 | refine below_set ?_ GE661.out | refine below_set ?_ GE664.out | refine below_set ?_ GE666.out) | exact HB.out)⟩⟩
           ·rw [if_neg c16] at H
            exact absurd H (by simp)
          ·rw [if_neg c15] at H
           exact absurd H (by simp)
         ·rw [if_neg c14] at H
          have c14b0 : decide (x23_2 < (l1.length : Int)) = false := decide_eq_false c14
          clear c14
          by_cases c36 : x5_1.length < 5864062014805
          ·rw [if_pos c36] at H
           have LMc36 := Aside0.mk c36
           clear c36
           obtain ⟨y671, hy671⟩ : ∃ y_ : List (List Int), y_ = (x5_1 ++ [x8_2]) := ⟨_, rfl⟩
           replace H : (spec_AlphaMems.l0 k2 l1 y671 l0_0 (l0_0.length : Int) (wrap64 (x17_1 + 1))) = some r := by first | (rw [hy671]; with_reducible exact H) | (have H2_ := (Option.bind_some _ _).symm.trans H; rw [hy671]; with_reducible exact H2_) | (have H2_ := (Option.bind_some _ _).symm.trans H; with_reducible exact H2_) | with_reducible exact H | (rw [hy671]; exact H) | exact H
           have Ny671 := Aside0.mk hy671
           clear hy671
           have H' := Aside0.mk H
           clear H
           obtain ⟨Ao38, co38, eo38⟩ := Kd.R_slice HO_8.out
           subst eo38
           go_wp2_with (first | ((with_reducible refine gate_builtin (b := .append) (xs := #[.tmp 36, .tmp 38]) rfl ?_); at_builtin; refine Kd.S_append (Kd.slice 3 (Kd.int .i64)) (w0 := w) w.heap.size rfl (.tmp 36) (.tmp 38) 73 67 (.slice none 0 0) 24 rfl Try.underlying73 info67 rfl (by decide) (by omega) u5 x5_1 x8_2 [.slice Ao38 x8_2.length co38] (fun _ => True) (fun k_ => some k_ = (.slice Ao38 x8_2.length co38 : Value).ownBlock) rfl rfl ?aP (fun k_ hk_ => ((Kd.R_mono (ok' := fun k_ => ((fun _ => True)) k_ ∧ some k_ ≠ (u5 : Value).ownBlock) (Kd.R_apart' (HO_8.out) (Kd.S_typed HO_5.out) (by decide)) (fun k_ hk => ⟨trivial, hk.2⟩))).1 k_ hk_.symm) ?aF ?aO ?aB ?aS ?aL ?_; (case aP => exact Kd.M_row (Kd.R_mono (Kd.R_tight rfl (Kd.R_mono (ok' := fun k_ => ((fun _ => True)) k_ ∧ some k_ ≠ (u5 : Value).ownBlock) (Kd.R_apart' (HO_8.out) (Kd.S_typed HO_5.out) (by decide)) (fun k_ hk => ⟨trivial, hk.2⟩))) (fun _ h_ => h_))); (case aB => exact (by repeat (first | (with_reducible first | exact HB.out | apply below_alloc | apply pw_below_drewN | apply below_drew1 | refine below_set ?_ GE661.out | refine below_set ?_ GE664.out) | exact HB.out))); (case aF => exact (fun _ _ => trivial)); (case aO => exact (by (with_reducible repeat (first | apply Kd.S_alloc | apply Kd.S_drewN | apply Kd.S_drew)); exact Kd.S_mono HO_5.out (fun k_ hk => ⟨trivial, fun e_ => hk e_⟩))); (case aS => exact (below_size (by repeat (first | (with_reducible first | exact HB.out | apply below_alloc | apply pw_below_drewN | apply below_drew1 | refine below_set ?_ GE661.out | refine below_set ?_ GE664.out) | exact HB.out)))); (case aL => have := LMc36.out; omega); intro v672 w37 ho hb hg hat; rw [← Ny671.out] at ho; have n0_ := Aside0.mk (blk_grown (g := gb661) (o := .cells #[.slice (some ad663) l0_0.length c0_0, .slice A0_1 l0_1.length c0_1] 81 (0, 0)) (by (with_reducible repeat (first | refine blk_drewN ?_ _ | refine blk_drew ?_ | refine blk_alloc ?_ _)); exact BK661.out) hg (Kd.S_ne HO_5.out BK661.out (by decide))); have n1_ := Aside0.mk (blk_grown (g := gb664) (o := .cells #[.string ((rd_T34 l0_0 x17_1).f0), .int .i64 ((rd_T34 l0_0 x17_1).f1), .slice A663_2 ((rd_T34 l0_0 x17_1).f2).length c663_2] 34 (0, 0)) (by (with_reducible repeat (first | refine blk_drewN ?_ _ | refine blk_drew ?_ | refine blk_alloc ?_ _)); exact BK664.out) hg (Kd.S_ne HO_5.out BK664.out (by decide))); have n2_ := Aside0.mk (hb); have n3_ := Aside0.mk (ho); clear BK661; clear BK664; clear HB; clear HO_5; clear HO_8; have BK661 := n0_; have BK664 := n1_; have HB := n2_; have HO673 := n3_; clear n0_ n1_ n2_ n3_; clear ho hb hg hat))
           go_roundg k2
           case measure => have := HK1.out; have := HK2.out; omega
           case rel => exact ⟨(y671), (wrap64 (x17_1 + 1)), (by first | rfl | (simp; done) | (simp [*]; done)), H', ⟨by have := HK1.out; have := HK2.out; omega⟩, ⟨by (with_reducible repeat (first | apply Kd.S_alloc | apply Kd.S_drewN | apply Kd.S_drew)); exact HO673.out⟩, ⟨by (with_reducible repeat (first | refine blk_drewN ?_ _ | refine blk_drew ?_ | refine blk_alloc ?_ _)); exact BK661.out⟩, ⟨by repeat (first | (with_reducible first | exact HB.out | apply below_alloc | apply pw_below_drewN | apply below_drew1 | refine below_set ?_ GE661.out | refine below_set ?_ GE664.out) | exact HB.out)⟩⟩
          ·rw [if_neg c36] at H
           exact absurd H (by simp)
      ·rw [if_neg c10] at H
       exact absurd H (by simp)
     ·rw [if_neg c9] at H
      exact absurd H (by simp)
    ·rw [if_neg c8] at H
     have c8b0 : decide (x17_1 < (l0_0.length : Int)) = false := decide_eq_false c8
     clear c8
     obtain rfl := Option.some.inj H
     go_wp2
     go_ret
     exact ⟨_, by first | rfl | (simp [errW_none, errW_some] <;> rfl) | (simp [*, errW_none, errW_some] <;> rfl), by (with_reducible repeat (first | apply Kd.S_alloc | apply Kd.S_drewN | apply Kd.S_drew)); exact HO_5.out, by repeat (first | (with_reducible first | exact HB.out | apply below_alloc | apply pw_below_drewN | apply below_drew1 | refine below_set ?_ GE661.out) | exact HB.out)⟩
 ·replace c4 := Bool.eq_false_iff.mpr c4
  subst c4
  have H1 : (some ([] : List (List Int))) = some r := by first | (rw [if_neg (show ¬ (false = true) by decide)] at H; exact H) | rfl
  clear H
  have H := H1
  clear H1
  obtain rfl := Option.some.inj H
  go_enter Try.func39, Try.ntmps39
  go_wp2_with (first | ((with_reducible refine gate_dst (N := 2) rfl ?_); refine box_event ?hg (N := 2) ?hd (cs := #[.slice A0_0 l0_0.length c0_0, .slice A0_1 l0_1.length c0_1]) (t := 81) ?hr ?_; (case hd => rfl); (case hg => rfl); (case hr => first | (go_simp; done) | (go_simp; rfl)); intro gb661 hg w39 hbox hb; have n0_ := Aside0.mk (below_step (by repeat (first | (with_reducible first | exact HB.out | apply below_alloc | apply pw_below_drewN | apply below_drew1) | exact HB.out)) hb); have n1_ := Aside0.mk (hbox); have n2_ := Aside0.mk ((by rw [hg]; exact (below_size (by repeat (first | (with_reducible first | exact HB.out | apply below_alloc | apply pw_below_drewN | apply below_drew1) | exact HB.out))) : w.heap.size ≤ gb661)); have n3_ := Aside0.mk ((by rw [hg]; exact (below_size (by repeat (first | (with_reducible first | exact HB.out | apply below_alloc | apply pw_below_drewN | apply below_drew1) | exact HB.out))) : w.heap.size ≤ gb661)); clear HB; have HB := n0_; have BK661 := n1_; have GW661 := n2_; have GE661 := n3_; clear n0_ n1_ n2_ n3_; clear hb hbox hg) | ((with_reducible refine gate_callee (f := 66) rfl ?_); refine goesL_ (some 12) rfl rfl Try.func66 (by kernel_rfl) rfl #[.slice A1 l1.length c1] rfl (by (try simp only [List.map_toArray, List.map_cons, List.map_nil]); first | done | rfl | (simp only [List.length_drop, List.length_take]; rfl)) ?_; (with_reducible refine (spec_l1GoodFacts.calls k _ _ l1 false _ ?side1 ?side2 A3.out).mono ?_); (case side1 => repeat (first | exact (Kd.C_below HR1.out HB.out) | (with_reducible refine Kd.C_alloc ?_ _) | (with_reducible refine Kd.C_drewN ?_ _) | (with_reducible refine Kd.C_drew ?_))); (case side2 => exact HC1.out); rintro e w40 ⟨rfl, hb⟩; refine ⟨_, rfl, ?_⟩; have n0_ := Aside0.mk (blk_below (g := gb661) (o := .cells #[.slice A0_0 l0_0.length c0_0, .slice A0_1 l0_1.length c0_1] 81 (0, 0)) (by (with_reducible repeat (first | refine blk_drewN ?_ _ | refine blk_drew ?_ | refine blk_alloc ?_ _)); exact BK661.out) hb); have n1_ := Aside0.mk (below_step (by repeat (first | (with_reducible first | exact HB.out | apply below_alloc | apply pw_below_drewN | apply below_drew1 | refine below_set ?_ GE661.out) | exact HB.out)) hb); clear BK661; clear HB; have BK661 := n0_; have HB := n1_; clear n0_ n1_; (try clear hb); (try clear hb2); (try clear hk); (try clear hi)))
  go_ret
  exact ⟨_, by first | rfl | (simp [errW_none, errW_some] <;> rfl) | (simp [*, errW_none, errW_some] <;> rfl), by first | exact Kd.S_nil _ _ _ _ _ | exact Kd.N_nil _ _ _ _ _ | exact Kd.V_nil _ _ _ _ _ | exact Kd.Q_nil _ _ _ _ _ | exact Kd.R_nil _ _ _ _ _, by repeat (first | (with_reducible first | exact HB.out | apply below_alloc | apply pw_below_drewN | apply below_drew1 | refine below_set ?_ GE661.out) | exact HB.out)⟩
end Go.Proofs.Ytoncacdehhmpaaa.P
namespace Go.Proofs.Ytoncacdehhmpaaa.P
open Go.RowKit Go.Proofs.YtoncacdehhmpaaaW.PrintWords Go.Proofs.YtoncacdehhmpaaaW.PrintLast Go.Proofs.YtoncacdehhmpaaaW.PrintMore
attribute [local go_sem] max2_int min2_int max_two min_two max_three min_three max_four min_four
set_option linter.unusedVariables false
set_option linter.unusedSimpArgs false
mutual
def spec_Recency.l0 : Nat → List Int → List Int → Int → Int → Option (List Int)
 | 0, _, _, _, _ => none
 | k + 1, x3, x11, x12, x13 => if x13 < x12 then (if 0 ≤ x13 then (if x13 < (x11.length : Int) then (spec_Recency.l1 k x3 (rd x11 x13) (x3.length : Int) x11 x12 x13) else (none)) else (none)) else (some x3)
def spec_Recency.l1 : Nat → List Int → Int → Int → List Int → Int → Int → Option (List Int)
 | 0, _, _, _, _, _, _ => none
 | k + 1, x3, x5, x6, x11, x12, x13 => if x6 > 0 then (if 0 ≤ (wrap64 (x6 - 1)) then (if (wrap64 (x6 - 1)) < (x3.length : Int) then (if (rd x3 (wrap64 (x6 - 1))) < x5 then (spec_Recency.l1 k x3 x5 (wrap64 (x6 - 1)) x11 x12 x13) else (if 0 ≤ x6 then (if x6 ≤ (x3.length : Int) then ((some (x3.take (x6 : Int).toNat : List Int)).bind fun y456 => (if ([] : List Int).length + y456.length < 17592186044416 then ((some (([] : List Int) ++ y456 : List Int)).bind fun y460 => (if y460.length < 17592186044416 then ((some (y460 ++ [x5] : List Int)).bind fun y463 => ((some (x3.drop (x6 : Int).toNat : List Int)).bind fun y466 => (if y463.length + y466.length < 17592186044416 then (spec_Recency.l0 k (y463 ++ y466) x11 x12 (wrap64 (x13 + 1))) else (none)))) else (none))) else (none))) else (none)) else (none))) else (none)) else (none)) else (if 0 ≤ x6 then (if x6 ≤ (x3.length : Int) then ((some (x3.take (x6 : Int).toNat : List Int)).bind fun y473 => (if ([] : List Int).length + y473.length < 17592186044416 then ((some (([] : List Int) ++ y473 : List Int)).bind fun y477 => (if y477.length < 17592186044416 then ((some (y477 ++ [x5] : List Int)).bind fun y480 => ((some (x3.drop (x6 : Int).toNat : List Int)).bind fun y483 => (if y480.length + y483.length < 17592186044416 then (spec_Recency.l0 k (y480 ++ y483) x11 x12 (wrap64 (x13 + 1))) else (none)))) else (none))) else (none))) else (none)) else (none))
end
def spec_Recency.f (k : Nat) (l0 : List Int) : Option (List Int) := if (l0.length : Int) > 1000 then (some ([] : List Int)) else (spec_Recency.l0 k ([] : List Int) l0 (l0.length : Int) 0)
theorem spec_Recency.mono_l : ∀ k, (∀ y0 y1 y2 y3, LeO (spec_Recency.l0 k y0 y1 y2 y3) (spec_Recency.l0 (k + 1) y0 y1 y2 y3)) ∧ (∀ y0 y1 y2 y3 y4 y5, LeO (spec_Recency.l1 k y0 y1 y2 y3 y4 y5) (spec_Recency.l1 (k + 1) y0 y1 y2 y3 y4 y5))
 | 0 => ⟨fun _ _ _ _ r h => by simp [spec_Recency.l0] at h, fun _ _ _ _ _ _ r h => by simp [spec_Recency.l1] at h⟩
 | k + 1 => by
  obtain ⟨ih0, ih1⟩ := spec_Recency.mono_l k
  refine ⟨?_, ?_⟩
  ·intro y0 y1 y2 y3
   unfold spec_Recency.l0
   repeat' first
   | (with_reducible exact ih0 _ _ _ _)
   | (with_reducible exact ih1 _ _ _ _ _ _)
   | (with_reducible exact LeO.refl _)
   | (with_reducible exact LeO.none _)
   | (with_reducible refine LeO.ite ?_ ?_)
   | (with_reducible refine LeO.bind ?_ (fun _ => ?_))
   | exact ih0 _ _ _ _
   | exact ih1 _ _ _ _ _ _
   | exact LeO.none _
   | refine LeO.ite ?_ ?_
   | refine LeO.bind ?_ (fun _ => ?_)
  ·intro y0 y1 y2 y3 y4 y5
   unfold spec_Recency.l1
   repeat' first
   | (with_reducible exact ih0 _ _ _ _)
   | (with_reducible exact ih1 _ _ _ _ _ _)
   | (with_reducible exact LeO.refl _)
   | (with_reducible exact LeO.none _)
   | (with_reducible refine LeO.ite ?_ ?_)
   | (with_reducible refine LeO.bind ?_ (fun _ => ?_))
   | exact ih0 _ _ _ _
   | exact ih1 _ _ _ _ _ _
   | exact LeO.none _
   | refine LeO.ite ?_ ?_
   | refine LeO.bind ?_ (fun _ => ?_)
theorem spec_Recency.mono : ∀ a0 k, LeO (spec_Recency.f k a0) (spec_Recency.f (k + 1) a0) := by
 intro a0 k
 obtain ⟨ih0, ih1⟩ := spec_Recency.mono_l k
 unfold spec_Recency.f
 repeat' first
   | (with_reducible exact ih0 _ _ _ _)
   | (with_reducible exact ih1 _ _ _ _ _ _)
   | (with_reducible exact LeO.refl _)
   | (with_reducible exact LeO.none _)
   | (with_reducible refine LeO.ite ?_ ?_)
   | (with_reducible refine LeO.bind ?_ (fun _ => ?_))
   | exact ih0 _ _ _ _
   | exact ih1 _ _ _ _ _ _
   | exact LeO.none _
   | refine LeO.ite ?_ ?_
   | refine LeO.bind ?_ (fun _ => ?_)
def laws_toIntS.l0 : Nat → List Int → List Int → Int → Option (List Int)
 | 0, _, _, _ => none
 | k + 1, x0, x3, x4 => if x4 < (x0.length : Int) then (if 0 ≤ x4 then (if x4 < (x3.length : Int) then (laws_toIntS.l0 k x0 (x3.set (x4 : Int).toNat (rd x0 x4)) (wrap64 (x4 + 1))) else (none)) else (none)) else (some x3)
def laws_toIntS.f (k : Nat) (l0 : List Int) : Option (List Int) := if 0 ≤ (l0.length : Int) then (if ((l0.length : Int) : Int).toNat ≤ 35184372088832 then (laws_toIntS.l0 k l0 (List.replicate ((l0.length : Int) : Int).toNat 0) 0) else (none)) else (none)
theorem laws_toIntS.mono_l : ∀ k, (∀ y0 y1 y2, LeO (laws_toIntS.l0 k y0 y1 y2) (laws_toIntS.l0 (k + 1) y0 y1 y2))
 | 0 => fun _ _ _ r h => by simp [laws_toIntS.l0] at h
 | k + 1 => by
  have ih0 := laws_toIntS.mono_l k
  ·intro y0 y1 y2
   unfold laws_toIntS.l0
   repeat' first
   | (with_reducible exact ih0 _ _ _)
   | (with_reducible exact LeO.refl _)
   | (with_reducible exact LeO.none _)
   | (with_reducible refine LeO.ite ?_ ?_)
   | (with_reducible refine LeO.bind ?_ (fun _ => ?_))
   | exact ih0 _ _ _
   | exact LeO.none _
   | refine LeO.ite ?_ ?_
   | refine LeO.bind ?_ (fun _ => ?_)
theorem laws_toIntS.mono : ∀ a0 k, LeO (laws_toIntS.f k a0) (laws_toIntS.f (k + 1) a0) := by
 intro a0 k
 have ih0 := laws_toIntS.mono_l k
 unfold laws_toIntS.f
 repeat' first
   | (with_reducible exact ih0 _ _ _)
   | (with_reducible exact LeO.refl _)
   | (with_reducible exact LeO.none _)
   | (with_reducible refine LeO.ite ?_ ?_)
   | (with_reducible refine LeO.bind ?_ (fun _ => ?_))
   | exact ih0 _ _ _
   | exact LeO.none _
   | refine LeO.ite ?_ ?_
   | refine LeO.bind ?_ (fun _ => ?_)
set_option maxHeartbeats 8000000 in
set_option maxRecDepth 100000 in
theorem laws_toIntS.calls (k : Nat) (A0 : Option Addr) (c0 : Nat) (l0 : List Int) (r : List Int) (w : World) (hr0 : Kd.C (Kd.int .i64) w A0 l0.length l0) (hc0 : l0.length ≤ c0) (h : laws_toIntS.f k l0 = some r) :
  Calls Try.prog 32 #[.slice A0 l0.length c0] w fun e w' => ∃ v0_ : Value, e = .returned (v0_) ∧ Kd.R (Kd.int .i64) 3 w' w.heap.size (fun _ => True) v0_ r ∧ Below w.heap.size w w' := by
 have HR0 := Aside0.mk hr0
 have HC0 := Aside0.mk hc0
 clear hr0 hc0
 have HB := Aside0.mk (Below.refl w.heap.size w)
 have H : (if 0 ≤ (l0.length : Int) then (if ((l0.length : Int) : Int).toNat ≤ 35184372088832 then (laws_toIntS.l0 k l0 (List.replicate ((l0.length : Int) : Int).toNat 0) 0) else (none)) else (none)) = some r := h
 clear h
 by_cases c2 : 0 ≤ (l0.length : Int)
 ·rw [if_pos c2] at H
  have c2b0 := eq_true c2
  have c2b1 : decide (0 ≤ (l0.length : Int)) = true := decide_eq_true c2
  clear c2
  by_cases c3 : ((l0.length : Int) : Int).toNat ≤ 35184372088832
  ·rw [if_pos c3] at H
   have c3b0 := eq_true c3
   have c3b1 : decide (((l0.length : Int) : Int).toNat ≤ 35184372088832) = true := decide_eq_true c3
   clear c3
   obtain ⟨y490, hy490⟩ : ∃ y_ : List Int, y_ = (List.replicate ((l0.length : Int) : Int).toNat 0) := ⟨_, rfl⟩
   replace H : (laws_toIntS.l0 k l0 y490 0) = some r := by first | (rw [hy490]; with_reducible exact H) | (have H2_ := (Option.bind_some _ _).symm.trans H; rw [hy490]; with_reducible exact H2_) | (have H2_ := (Option.bind_some _ _).symm.trans H; with_reducible exact H2_) | with_reducible exact H | (rw [hy490]; exact H) | exact H
   have Ny490 := Aside0.mk hy490
   clear hy490
   have H' := Aside0.mk H
   clear H
   go_enter Try.func32, Try.ntmps32
   go_wp2_with (first | ((with_reducible refine gate_dst (N := 7) rfl ?_); refine Kd.R_make (Kd.int .i64) _ 3 rfl (N := 7) rfl 67 _ _ rfl (l0.length : Int) rfl rfl Try.underlying67 (.int .i64 0) 8 info3 rfl (by decide) (by omega) 0 (ok := fun _ => True) (okp := fun _ => True) rfl (fun _ hk => hk) trivial (of_decide_eq_true (by first | (with_reducible assumption) | assumption)) (Nat.le_trans (Nat.mul_le_mul_right _ (of_decide_eq_true (by first | (with_reducible assumption) | assumption) : (l0.length : Int).toNat ≤ 35184372088832)) (by omega)) (Below.refl _ _) (Nat.le_refl _) ?_; intro v491 w4 ho5 hb hg_ hnew_; clear hg_ hnew_; (first | rw [← Ny490.out] at ho5 | (simp only [Int.reduceToNat] at ho5; rw [← Ny490.out] at ho5)); have n0_ := Aside0.mk (Kd.R_lower ho5 (below_size (by repeat (first | (with_reducible first | exact HB.out | apply below_alloc | apply pw_below_drewN | apply below_drew1) | exact HB.out)))); have n1_ := Aside0.mk (below_step (by repeat (first | (with_reducible first | exact HB.out | apply below_alloc | apply pw_below_drewN | apply below_drew1) | exact HB.out)) hb); clear HB; have HO492 := n0_; have HB := n1_; clear n0_ n1_; clear hb ho5))
   go_loopg [4] k (fun kq v4 w' => ∃ (x3_1 : List Int) (x4_1 : Int), v4 = .int .i64 x4_1 ∧ Aside0 (laws_toIntS.l0 kq l0 x3_1 x4_1 = some r) ∧ Aside0 (kq ≤ k) ∧ Aside0 (Kd.R (Kd.int .i64) 3 w' w.heap.size (fun _ => True) v491 x3_1) ∧ Aside0 (Below w.heap.size w w'))
   case atStart => exact ⟨(y490), (0), (by first | rfl | (simp; done) | (simp [*]; done)), H', ⟨Nat.le_refl _⟩, ⟨by (with_reducible repeat (first | apply Kd.R_alloc | apply Kd.R_drewN | apply Kd.R_drew)); exact HO492.out⟩, ⟨by repeat (first | (with_reducible first | exact HB.out | apply below_alloc | apply pw_below_drewN | apply below_drew1) | exact HB.out)⟩⟩
   case round =>
    clear H'
    try clear c2
    try clear c2b0
    try clear c2b1
    try clear p2
    try clear c3
    try clear c3b0
    try clear c3b1
    obtain ⟨x3_1, x4_1, rfl, HA, HK1, HO_3, HB⟩ := hrel
    cases gk with
    | zero => exact absurd HA.out (by simp [laws_toIntS.l0])
    | succ k1 =>
     have H := HA.out
     clear HA
     simp only [laws_toIntS.l0] at H
     by_cases c6 : x4_1 < (l0.length : Int)
     ·rw [if_pos c6] at H
      have c6b0 : decide (x4_1 < (l0.length : Int)) = true := decide_eq_true c6
      clear c6
      by_cases c7 : 0 ≤ x4_1
      ·rw [if_pos c7] at H
       have c7b0 : decide (0 ≤ x4_1) = true := decide_eq_true c7
       clear c7
       by_cases c8 : x4_1 < (x3_1.length : Int)
       ·rw [if_pos c8] at H
        have c8b0 : decide (x4_1 < (x3_1.length : Int)) = true := decide_eq_true c8
        clear c8
        obtain ⟨y494, hy494⟩ : ∃ y_ : List Int, y_ = (x3_1.set (x4_1 : Int).toNat (rd l0 x4_1)) := ⟨_, rfl⟩
        replace H : (laws_toIntS.l0 k1 l0 y494 (wrap64 (x4_1 + 1))) = some r := by first | (rw [hy494]; with_reducible exact H) | (have H2_ := (Option.bind_some _ _).symm.trans H; rw [hy494]; with_reducible exact H2_) | (have H2_ := (Option.bind_some _ _).symm.trans H; with_reducible exact H2_) | with_reducible exact H | (rw [hy494]; exact H) | exact H
        have Ny494 := Aside0.mk hy494
        clear hy494
        have H' := Aside0.mk H
        clear H
        have p493 : 0 ≤ (x4_1 : Int) := of_decide_eq_true (by first | (with_reducible assumption) | assumption)
        have q493 : x4_1 < (l0.length : Int) := of_decide_eq_true (by first | (with_reducible assumption) | assumption)
        obtain ⟨ad493, e493, hx493_0⟩ := Kd.at_int HR0.out x4_1 p493 q493
        cases e493
        replace hx493_0 := (HB.out.cell (World.block_lt_of_cell? w _ hx493_0)).trans hx493_0
        replace p493 := eq_true p493
        replace q493 := eq_true q493
        have p9 : 0 ≤ (x4_1 : Int) := of_decide_eq_true (by first | (with_reducible assumption) | assumption)
        have q9 : (x4_1 : Int) < ((x3_1.length : Int) : Int) := of_decide_eq_true (by first | (with_reducible assumption) | assumption)
        obtain ⟨go9, co9, eo9, gb9, gl9, cl9, HG9⟩ := Kd.R_form HO_3.out (by omega)
        (first | cases eo9 | (injection eo9 with ea_ en_ ec_; (first | subst ea_ | (injection ea_ with ea_; subst ea_)); subst ec_; clear en_))
        have GB9 := Aside0.mk gb9
        have GG9 := Aside0.mk HG9
        clear gb9 gl9 HG9
        obtain ⟨hx9_0, hf9_0⟩ := Kd.R_celln 0 HO_3.out (x4_1 : Int) p9 q9
        replace p9 := eq_true p9
        replace q9 := eq_true q9
        have HP10 := Kd.R_putg HO_3.out (x4_1 : Int) (rd l0 x4_1)
        go_wp2_with (first | ((with_reducible refine gate_store (t := 3) (p := 20) rfl ?_); refine store_event (t := 3) (p := 20) (v := ?vo_w11) (w1 := (wr.setCell ⟨go9, (x4_1 : Int).toNat, none⟩ (.int .i64 (rd l0 x4_1)))) ?hg ?ho ?hn ?hr ?_; (case ho => rfl); (case hg => rfl); (case hn => rfl); (case hr => first | (go_simp; done) | (go_simp; rfl)); intro w11 hw; have hg : wr.grownBy w11 (some go9) := (by rw [hw]; exact HP10.2); have hp_ : Kd.R (Kd.int .i64) 3 w11 w.heap.size (fun _ => True) (.slice (some ⟨go9, 0, none⟩) x3_1.length co9) y494 := (by rw [hw, Ny494.out]; exact HP10.1); clear HP10; have n0_ := Aside0.mk (hp_); have n1_ := Aside0.mk ((by rw [hw]; exact below_set (HB.out) GB9.out : Below w.heap.size w w11)); clear HO_3; clear HB; have HO_3 := n0_; have HB := n1_; clear n0_ n1_; clear hg hw hp_))
        go_roundg k1
        case measure => have := HK1.out; omega
        case rel => exact ⟨(y494), (wrap64 (x4_1 + 1)), (by first | rfl | (simp; done) | (simp [*]; done)), H', ⟨by have := HK1.out; omega⟩, ⟨by (with_reducible repeat (first | apply Kd.R_alloc | apply Kd.R_drewN | apply Kd.R_drew)); exact HO_3.out⟩, ⟨by repeat (first | (with_reducible first | exact HB.out | apply below_alloc | apply pw_below_drewN | apply below_drew1) | exact HB.out)⟩⟩
       ·rw [if_neg c8] at H
        exact absurd H (by simp)
      ·rw [if_neg c7] at H
       exact absurd H (by simp)
     ·rw [if_neg c6] at H
      have c6b0 : decide (x4_1 < (l0.length : Int)) = false := decide_eq_false c6
      clear c6
      obtain rfl := Option.some.inj H
      go_wp2
      go_ret
      exact ⟨_, by first | rfl | (simp [errW_none, errW_some] <;> rfl) | (simp [*, errW_none, errW_some] <;> rfl), by (with_reducible repeat (first | apply Kd.R_alloc | apply Kd.R_drewN | apply Kd.R_drew)); exact HO_3.out, by repeat (first | (with_reducible first | exact HB.out | apply below_alloc | apply pw_below_drewN | apply below_drew1) | exact HB.out)⟩
  ·rw [if_neg c3] at H
   exact absurd H (by simp)
 ·rw [if_neg c2] at H
  exact absurd H (by simp)
def cmp_isNaN_int.f (a0 : Int) : Option (Bool) := some (a0 != a0)
def cmp_Less_int.f (a0 : Int) (a1 : Int) : Option (Bool) := (cmp_isNaN_int.f a0).bind fun t495 => (if t495 = true then ((cmp_isNaN_int.f a1).bind fun t496 => (if t496 = true then (some (decide (a0 < a1))) else (some true))) else (some (decide (a0 < a1))))
end Go.Proofs.Ytoncacdehhmpaaa.P
namespace Go.Proofs.Ytoncacdehhmpaaa.P
open Go.RowKit Go.Proofs.YtoncacdehhmpaaaW.PrintWords Go.Proofs.YtoncacdehhmpaaaW.PrintLast Go.Proofs.YtoncacdehhmpaaaW.PrintMore
attribute [local go_sem] max2_int min2_int max_two min_two max_three min_three max_four min_four
set_option linter.unusedVariables false
set_option linter.unusedSimpArgs false
def laws_toAlphaS.l0 : Nat → List (S25) → List (S34) → Int → Option ((List (S34)))
 | 0, _, _, _ => none
 | k + 1, x0, x3, x4 => if x4 < (x0.length : Int) then (if 0 ≤ x4 then ((laws_toAlpha.f k ((rd_T25 x0 x4).f0) ((rd_T25 x0 x4).f1) ((rd_T25 x0 x4).f2)).bind fun bt678 => (if x4 < (x3.length : Int) then (laws_toAlphaS.l0 k x0 (x3.set (x4 : Int).toNat (⟨bt678.1, bt678.2.1, bt678.2.2⟩ : S34)) (wrap64 (x4 + 1))) else (none))) else (none)) else (some x3)
def laws_toAlphaS.f (k : Nat) (l0 : List (S25)) : Option ((List (S34))) := if 0 ≤ (l0.length : Int) then (if ((l0.length : Int) : Int).toNat ≤ 5864062014805 then (laws_toAlphaS.l0 k l0 (List.replicate ((l0.length : Int) : Int).toNat z34) 0) else (none)) else (none)
theorem laws_toAlphaS.mono_l : ∀ k, (∀ y0 y1 y2, LeO (laws_toAlphaS.l0 k y0 y1 y2) (laws_toAlphaS.l0 (k + 1) y0 y1 y2))
 | 0 => fun _ _ _ r h => by simp [laws_toAlphaS.l0] at h
 | k + 1 => by
  have ih0 := laws_toAlphaS.mono_l k
  ·intro y0 y1 y2
   unfold laws_toAlphaS.l0
   repeat' first
   | (with_reducible exact ih0 _ _ _)
   | (with_reducible exact laws_toAlpha.mono _ _ _ _)
   | (with_reducible exact LeO.refl _)
   | (with_reducible exact LeO.none _)
   | (with_reducible refine LeO.ite ?_ ?_)
   | (with_reducible refine LeO.bind ?_ (fun _ => ?_))
   | exact ih0 _ _ _
   | exact laws_toAlpha.mono _ _ _ _
   | exact LeO.none _
   | refine LeO.ite ?_ ?_
   | refine LeO.bind ?_ (fun _ => ?_)
theorem laws_toAlphaS.mono : ∀ a0 k, LeO (laws_toAlphaS.f k a0) (laws_toAlphaS.f (k + 1) a0) := by
 intro a0 k
 have ih0 := laws_toAlphaS.mono_l k
 unfold laws_toAlphaS.f
 repeat' first
   | (with_reducible exact ih0 _ _ _)
   | (with_reducible exact laws_toAlpha.mono _ _ _ _)
   | (with_reducible exact LeO.refl _)
   | (with_reducible exact LeO.none _)
   | (with_reducible refine LeO.ite ?_ ?_)
   | (with_reducible refine LeO.bind ?_ (fun _ => ?_))
   | exact ih0 _ _ _
   | exact laws_toAlpha.mono _ _ _ _
   | exact LeO.none _
   | refine LeO.ite ?_ ?_
   | refine LeO.bind ?_ (fun _ => ?_)
set_option maxHeartbeats 8000000 in
set_option maxRecDepth 100000 in
theorem laws_toAlphaS.calls (k : Nat) (A0 : Option Addr) (c0 : Nat) (l0 : List (S25)) (r : List (S34)) (w : World) (hr0 : Kd.C k25 w A0 l0.length l0) (hc0 : l0.length ≤ c0) (h : laws_toAlphaS.f k l0 = some r) :
  Calls Try.prog 84 #[.slice A0 l0.length c0] w fun e w' => ∃ v0_ : Value, e = .returned (v0_) ∧ Kd.S k34 34 w' w.heap.size (fun _ => True) v0_ r ∧ Below w.heap.size w w' := by
 have hu25 := Try.underlying25
 have hu34 := Try.underlying34
 have HR0 := Aside0.mk hr0
 have HC0 := Aside0.mk hc0
 clear hr0 hc0
 have HB := Aside0.mk (Below.refl w.heap.size w)
 have H : (if 0 ≤ (l0.length : Int) then (if ((l0.length : Int) : Int).toNat ≤ 5864062014805 then (laws_toAlphaS.l0 k l0 (List.replicate ((l0.length : Int) : Int).toNat z34) 0) else (none)) else (none)) = some r := h
 clear h
 by_cases c2 : 0 ≤ (l0.length : Int)
 ·rw [if_pos c2] at H
  have c2b0 := eq_true c2
  have c2b1 : decide (0 ≤ (l0.length : Int)) = true := decide_eq_true c2
  clear c2
  by_cases c3 : ((l0.length : Int) : Int).toNat ≤ 5864062014805
  ·rw [if_pos c3] at H
   have c3b0 := eq_true c3
   have c3b1 : decide (((l0.length : Int) : Int).toNat ≤ 5864062014805) = true := decide_eq_true c3
   clear c3
   obtain ⟨y674, hy674⟩ : ∃ y_ : List (S34), y_ = (List.replicate ((l0.length : Int) : Int).toNat z34) := ⟨_, rfl⟩
   replace H : (laws_toAlphaS.l0 k l0 y674 0) = some r := by first | (rw [hy674]; with_reducible exact H) | (have H2_ := (Option.bind_some _ _).symm.trans H; rw [hy674]; with_reducible exact H2_) | (have H2_ := (Option.bind_some _ _).symm.trans H; with_reducible exact H2_) | with_reducible exact H | (rw [hy674]; exact H) | exact H
   have Ny674 := Aside0.mk hy674
   clear hy674
   have H' := Aside0.mk H
   clear H
   go_enter Try.func84, Try.ntmps84
   go_wp2_with (first | ((with_reducible refine gate_dst (N := 7) rfl ?_); refine Kd.S_make k34 _ 34 rfl (N := 7) rfl 79 _ _ rfl (l0.length : Int) rfl rfl Try.underlying79 (.agg #[(.string ⟨#[]⟩), (.int .i64 0), (.slice none 0 0)]) 48 info34 rfl (by decide) (by omega) z34 (ok := fun _ => True) (okp := fun _ => True) (k34_mkM _ _ _ z34 (Kd.R_nil _ _ _ _ _)) (fun _ hk => hk) trivial (of_decide_eq_true (by first | (with_reducible assumption) | assumption)) (Nat.le_trans (Nat.mul_le_mul_right _ (of_decide_eq_true (by first | (with_reducible assumption) | assumption) : (l0.length : Int).toNat ≤ 5864062014805)) (by omega)) (Below.refl _ _) (Nat.le_refl _) ?_; intro v675 w4 ho5 hb hg_ hnew_; clear hg_ hnew_; (first | rw [← Ny674.out] at ho5 | (simp only [Int.reduceToNat] at ho5; rw [← Ny674.out] at ho5)); have n0_ := Aside0.mk (Kd.S_lower ho5 (below_size (by repeat (first | (with_reducible first | exact HB.out | apply below_alloc | apply pw_below_drewN | apply below_drew1) | exact HB.out)))); have n1_ := Aside0.mk (below_step (by repeat (first | (with_reducible first | exact HB.out | apply below_alloc | apply pw_below_drewN | apply below_drew1) | exact HB.out)) hb); clear HB; have HO676 := n0_; have HB := n1_; clear n0_ n1_; clear hb ho5))
   go_loopg [4] k (fun kq v4 w' => ∃ (x3_1 : List (S34)) (x4_1 : Int), v4 = .int .i64 x4_1 ∧ Aside0 (laws_toAlphaS.l0 kq l0 x3_1 x4_1 = some r) ∧ Aside0 (kq ≤ k) ∧ Aside0 (Kd.S k34 34 w' w.heap.size (fun _ => True) v675 x3_1) ∧ Aside0 (Below w.heap.size w w'))
   case atStart => exact ⟨(y674), (0), (by first | rfl | (simp; done) | (simp [*]; done)), H', ⟨Nat.le_refl _⟩, ⟨by (with_reducible repeat (first | apply Kd.S_alloc | apply Kd.S_drewN | apply Kd.S_drew)); exact HO676.out⟩, ⟨by repeat (first | (with_reducible first | exact HB.out | apply below_alloc | apply pw_below_drewN | apply below_drew1) | exact HB.out)⟩⟩
   case round =>
    clear H'
    try clear c2
    try clear c2b0
    try clear c2b1
    try clear p2
    try clear c3
    try clear c3b0
    try clear c3b1
    obtain ⟨x3_1, x4_1, rfl, HA, HK1, HO_3, HB⟩ := hrel
    cases gk with
    | zero => exact absurd HA.out (by simp [laws_toAlphaS.l0])
    | succ k1 =>
     have H := HA.out
     clear HA
     simp only [laws_toAlphaS.l0] at H
     by_cases c6 : x4_1 < (l0.length : Int)
     ·rw [if_pos c6] at H
      have c6b0 : decide (x4_1 < (l0.length : Int)) = true := decide_eq_true c6
      clear c6
      by_cases c7 : 0 ≤ x4_1
      ·rw [if_pos c7] at H
       have c7b0 : decide (0 ≤ x4_1) = true := decide_eq_true c7
       clear c7
       replace H := Option.bind_eq_some_iff.mp H
       obtain ⟨⟨t678, t679, t680⟩, A80, H⟩ := H
       replace H : (if x4_1 < (x3_1.length : Int) then (laws_toAlphaS.l0 k1 l0 (x3_1.set (x4_1 : Int).toNat (⟨t678, t679, t680⟩ : S34)) (wrap64 (x4_1 + 1))) else (none)) = some r := H
       have A8 := Aside0.mk A80
       clear A80
       by_cases c9 : x4_1 < (x3_1.length : Int)
       ·rw [if_pos c9] at H
        have c9b0 : decide (x4_1 < (x3_1.length : Int)) = true := decide_eq_true c9
        clear c9
        obtain ⟨y683, hy683⟩ : ∃ y_ : List (S34), y_ = (x3_1.set (x4_1 : Int).toNat (⟨t678, t679, t680⟩ : S34)) := ⟨_, rfl⟩
        replace H : (laws_toAlphaS.l0 k1 l0 y683 (wrap64 (x4_1 + 1))) = some r := by first | (rw [hy683]; with_reducible exact H) | (have H2_ := (Option.bind_some _ _).symm.trans H; rw [hy683]; with_reducible exact H2_) | (have H2_ := (Option.bind_some _ _).symm.trans H; with_reducible exact H2_) | with_reducible exact H | (rw [hy683]; exact H) | exact H
        have Ny683 := Aside0.mk hy683
        clear hy683
        have H' := Aside0.mk H
        clear H
        have p677 : 0 ≤ (x4_1 : Int) := of_decide_eq_true (by first | (with_reducible assumption) | assumption)
        have q677 : x4_1 < (l0.length : Int) := of_decide_eq_true (by first | (with_reducible assumption) | assumption)
        obtain ⟨ad677, A677_2, c677_2, e677, hx677_0, hx677_1, hx677_2, hl677_2, hi677_2⟩ := at_T25 HR0.out x4_1 p677 q677
        cases e677
        replace hx677_0 := (HB.out.cell (World.block_lt_of_cell? w _ hx677_0)).trans hx677_0
        replace hx677_1 := (HB.out.cell (World.block_lt_of_cell? w _ hx677_1)).trans hx677_1
        replace hx677_2 := (HB.out.cell (World.block_lt_of_cell? w _ hx677_2)).trans hx677_2
        have HR677_2 := Aside0.mk hi677_2
        have HC677_2 := Aside0.mk hl677_2
        clear hi677_2 hl677_2
        replace p677 := eq_true p677
        replace q677 := eq_true q677
        go_wp2_with (first | ((with_reducible refine gate_callee (f := 13) rfl ?_); refine goesL_ (some 20) rfl rfl Try.func13 (by kernel_rfl) rfl #[.agg #[.string ((rd_T25 l0 x4_1).f0), .int .i64 ((rd_T25 l0 x4_1).f1), .slice A677_2 ((rd_T25 l0 x4_1).f2).length c677_2]] rfl (by (try simp only [List.map_toArray, List.map_cons, List.map_nil]); first | done | rfl | (simp only [List.length_drop, List.length_take]; rfl)) ?_; (with_reducible refine (laws_toAlpha.calls k1 ((rd_T25 l0 x4_1).f0) ((rd_T25 l0 x4_1).f1) _ _ ((rd_T25 l0 x4_1).f2) t678 t679 t680 _ ?side1 ?side2 A8.out).mono ?_); (case side1 => repeat (first | exact (Kd.C_below HR677_2.out HB.out) | (with_reducible refine Kd.C_alloc ?_ _) | (with_reducible refine Kd.C_drewN ?_ _) | (with_reducible refine Kd.C_drew ?_))); (case side2 => exact HC677_2.out); rintro e w11 ⟨v681, rfl, ho0, hb⟩; refine ⟨_, rfl, ?_⟩; have n0_ := Aside0.mk (Kd.S_elder' (by (with_reducible repeat (first | apply Kd.S_alloc | apply Kd.S_drewN | apply Kd.S_drew)); exact HO_3.out) (Kd.R_base ho0) hb); have n1_ := Aside0.mk (Kd.R_lower ho0 (below_size (by repeat (first | (with_reducible first | exact HB.out | apply below_alloc | apply pw_below_drewN | apply below_drew1) | exact HB.out)))); have n2_ := Aside0.mk (below_step (by repeat (first | (with_reducible first | exact HB.out | apply below_alloc | apply pw_below_drewN | apply below_drew1) | exact HB.out)) hb); clear HO_3; clear HB; have HO_3 := n0_; have HO682 := n1_; have HB := n2_; clear n0_ n1_ n2_; (try clear hb); (try clear hb2); (try clear hk); (try clear hi); (try clear ho0); have p10 : 0 ≤ (x4_1 : Int) := of_decide_eq_true (by first | (with_reducible assumption) | assumption); have q10 : (x4_1 : Int) < ((x3_1.length : Int) : Int) := of_decide_eq_true (by first | (with_reducible assumption) | assumption); obtain ⟨go10, co10, eo10, gb10, gl10, cl10, HG10⟩ := Kd.S_form HO_3.out (by omega); (first | cases eo10 | (injection eo10 with ea_ en_ ec_; (first | subst ea_ | (injection ea_ with ea_; subst ea_)); subst ec_; clear en_)); have GB10 := Aside0.mk gb10; have GG10 := Aside0.mk HG10; clear gb10 gl10 HG10; obtain ⟨_, ce10, hcl10, hM10, hcc10, hfr10, _, _⟩ := Kd.S_elem HO_3.out z34 (x4_1 : Int) p10 q10; obtain ⟨ve10_2, rfl, ge10_2⟩ := k34_openM hM10; have hx10_0 : w11.cell? ⟨go10, (x4_1 : Int).toNat * 3, none⟩ = some (.string ((rd_T34 x3_1 x4_1).f0)) := hcc10 0 _ rfl; have hx10_1 : w11.cell? ⟨go10, (x4_1 : Int).toNat * 3 + 1, none⟩ = some (.int .i64 ((rd_T34 x3_1 x4_1).f1)) := hcc10 1 _ rfl; have hx10_2 : w11.cell? ⟨go10, (x4_1 : Int).toNat * 3 + 2, none⟩ = some (ve10_2) := hcc10 2 _ rfl; have hf10_0 : w11.frozen? ⟨go10, (x4_1 : Int).toNat * 3, none⟩ = false := hfr10 0; have hf10_1 : w11.frozen? ⟨go10, (x4_1 : Int).toNat * 3 + 1, none⟩ = false := hfr10 1; have hf10_2 : w11.frozen? ⟨go10, (x4_1 : Int).toNat * 3 + 2, none⟩ = false := hfr10 2; clear hcl10 hcc10 hfr10; (try clear hM10); replace p10 := eq_true p10; replace q10 := eq_true q10; have n_ := Aside0.mk (Kd.S_mono (ok' := (fun k_ => some k_ ≠ (v681 : Value).ownBlock)) HO_3.out (fun k_ hk => hk.2)); clear HO_3; have HO_3 := n_; clear n_; have HX12 := Aside0.mk (show Kd.S k34 34 w11 w.heap.size (fun k_ => ((fun _ => True)) k_ ∧ ¬ ((fun k_ => some k_ = (v681 : Value).ownBlock)) k_) (.slice (some ⟨go10, 0, none⟩) x3_1.length co10) x3_1 from (by (with_reducible repeat (first | apply Kd.S_alloc | apply Kd.S_drewN | apply Kd.S_drew)); exact Kd.S_mono HO_3.out (fun k_ hk => ⟨trivial, fun e_ => hk e_⟩))); obtain ⟨oki12, ce12, hcl12, hM12, hcc12, hfr12, hoki12, hH12⟩ := Kd.S_elem HX12.out z34 (x4_1 : Int) (of_decide_eq_true (by first | (with_reducible assumption) | assumption)) (by have h_ : (x4_1 : Int) < ((x3_1.length : Int) : Int) := of_decide_eq_true (by first | (with_reducible assumption) | assumption); first | exact h_ | (have e_ := (Kd.S_reads' HO_3.out).1; omega) | simpa using h_); obtain ⟨ve12_2, rfl, ge12_2⟩ := k34_openM hM12; have HP12 := Kd.S_seg hH12 (of_decide_eq_true (by first | (with_reducible assumption) | assumption)) (by have h_ : (x4_1 : Int) < ((x3_1.length : Int) : Int) := of_decide_eq_true (by first | (with_reducible assumption) | assumption); first | exact h_ | (have e_ := (Kd.S_reads' HO_3.out).1; omega) | simpa using h_) (seg := [.string t678, .int .i64 t679, v681]) (j := 0) (show 3 ≤ 3 from by decide) (x' := (⟨t678, t679, t680⟩ : S34)) (k34_mkM _ _ _ (⟨t678, t679, t680⟩ : S34) (Kd.R_mono (Kd.R_tight rfl (Kd.R_mono (ok' := fun k_ => ((fun _ => True)) k_ ∧ k_ ≠ go10) (Kd.R_apart' (HO682.out) (Kd.S_typed HO_3.out) (by decide)) (fun k_ hk => ⟨trivial, fun e_ => (hk.2) (by rw [e_]; rfl)⟩))) (fun _ h_ => Or.inr (h_)))) (fun _ hk => hk) (fun k_ hk_ => ((Kd.R_mono (ok' := fun k_ => ((fun _ => True)) k_ ∧ k_ ≠ go10) (Kd.R_apart' (HO682.out) (Kd.S_typed HO_3.out) (by decide)) (fun k_ hk => ⟨trivial, fun e_ => (hk.2) (by rw [e_]; rfl)⟩))).1 k_ hk_.symm); have hx12_0 := hcc12 0 _ rfl; (try simp only [show (k34).sz = 3 from rfl, Nat.mul_one, Nat.add_zero] at hx12_0); have hf12_0 := hfr12 0; (try simp only [show (k34).sz = 3 from rfl, Nat.mul_one, Nat.add_zero] at hf12_0); have hx12_1 := hcc12 1 _ rfl; (try simp only [show (k34).sz = 3 from rfl, Nat.mul_one, Nat.add_zero] at hx12_1); have hf12_1 := hfr12 1; (try simp only [show (k34).sz = 3 from rfl, Nat.mul_one, Nat.add_zero] at hf12_1); have hx12_2 := hcc12 2 _ rfl; (try simp only [show (k34).sz = 3 from rfl, Nat.mul_one, Nat.add_zero] at hx12_2); have hf12_2 := hfr12 2; (try simp only [show (k34).sz = 3 from rfl, Nat.mul_one, Nat.add_zero] at hf12_2); clear hcl12 hcc12 hfr12 hoki12 hH12; (try clear hM12)) | ((with_reducible refine gate_store (t := 34) (p := 21) rfl ?_); refine store_event (t := 34) (p := 21) (v := ?vo_w13) (w1 := (((w11.setCell ⟨go10, (x4_1 : Int).toNat * 3, none⟩ (.string t678)).setCell ⟨go10, (x4_1 : Int).toNat * 3 + 1, none⟩ (.int .i64 t679)).setCell ⟨go10, (x4_1 : Int).toNat * 3 + 2, none⟩ (v681))) ?hg ?ho ?hn ?hr ?_; (case ho => rfl); (case hg => rfl); (case hn => rfl); (case hr => first | (go_simp; done) | (go_simp; rfl) | ((obtain ⟨As0_, cs0_, es0_⟩ := Kd.R_slice (Aside0.out ‹Aside0 (Kd.R _ _ _ _ _ v681 _)›)); subst es0_; go_simp; done) | ((obtain ⟨As0_, cs0_, es0_⟩ := Kd.R_slice (Aside0.out ‹Aside0 (Kd.R _ _ _ _ _ v681 _)›)); subst es0_; go_simp; rfl)); intro w13 hw; have hg : w11.grownBy w13 (some go10) := (by rw [hw]; exact HP12.2); have hp_ : Kd.S k34 34 w13 w.heap.size (fun _ => True) (.slice (some ⟨go10, 0, none⟩) x3_1.length co10) y683 := (by rw [hw, Ny683.out]; exact HP12.1); clear HP12; have n0_ := Aside0.mk (hp_); have n1_ := Aside0.mk ((by rw [hw]; exact below_set (below_set (below_set (HB.out) GB10.out) GB10.out) GB10.out : Below w.heap.size w w13)); clear HO_3; clear HB; clear HO682; have HO_3 := n0_; have HB := n1_; clear n0_ n1_; clear hg hw hp_))
        go_roundg k1
        case measure => have := HK1.out; omega
        case rel => exact ⟨(y683), (wrap64 (x4_1 + 1)), (by first | rfl | (simp; done) | (simp [*]; done)), H', ⟨by have := HK1.out; omega⟩, ⟨by (with_reducible repeat (first | apply Kd.S_alloc | apply Kd.S_drewN | apply Kd.S_drew)); exact HO_3.out⟩, ⟨by repeat (first | (with_reducible first | exact HB.out | apply below_alloc | apply pw_below_drewN | apply below_drew1) | exact HB.out)⟩⟩
       ·rw [if_neg c9] at H
        exact absurd H (by simp)
      ·rw [if_neg c7] at H
       exact absurd H (by simp)
     ·rw [if_neg c6] at H
      have c6b0 : decide (x4_1 < (l0.length : Int)) = false := decide_eq_false c6
      clear c6
      obtain rfl := Option.some.inj H
      go_wp2
      go_ret
      exact ⟨_, by first | rfl | (simp [errW_none, errW_some] <;> rfl) | (simp [*, errW_none, errW_some] <;> rfl), by (with_reducible repeat (first | apply Kd.S_alloc | apply Kd.S_drewN | apply Kd.S_drew)); exact HO_3.out, by repeat (first | (with_reducible first | exact HB.out | apply below_alloc | apply pw_below_drewN | apply below_drew1) | exact HB.out)⟩
  ·rw [if_neg c3] at H
   exact absurd H (by simp)
 ·rw [if_neg c2] at H
  exact absurd H (by simp)
def laws_toIntSS.l0 : Nat → List (List Int) → List (List Int) → Int → Option ((List (List Int)))
 | 0, _, _, _ => none
 | k + 1, x0, x3, x4 => if x4 < (x0.length : Int) then (if 0 ≤ x4 then ((laws_toIntS.f k (rd_L18 x0 x4)).bind fun t688 => (if x4 < (x3.length : Int) then (laws_toIntSS.l0 k x0 (x3.set (x4 : Int).toNat t688) (wrap64 (x4 + 1))) else (none))) else (none)) else (some x3)
def laws_toIntSS.f (k : Nat) (l0 : List (List Int)) : Option ((List (List Int))) := if 0 ≤ (l0.length : Int) then (if ((l0.length : Int) : Int).toNat ≤ 11728124029610 then (laws_toIntSS.l0 k l0 (List.replicate ((l0.length : Int) : Int).toNat []) 0) else (none)) else (none)
theorem laws_toIntSS.mono_l : ∀ k, (∀ y0 y1 y2, LeO (laws_toIntSS.l0 k y0 y1 y2) (laws_toIntSS.l0 (k + 1) y0 y1 y2))
 | 0 => fun _ _ _ r h => by simp [laws_toIntSS.l0] at h
 | k + 1 => by
  have ih0 := laws_toIntSS.mono_l k
  ·intro y0 y1 y2
   unfold laws_toIntSS.l0
   repeat' first
   | (with_reducible exact ih0 _ _ _)
   | (with_reducible exact laws_toIntS.mono _ _)
   | (with_reducible exact LeO.refl _)
   | (with_reducible exact LeO.none _)
   | (with_reducible refine LeO.ite ?_ ?_)
   | (with_reducible refine LeO.bind ?_ (fun _ => ?_))
   | exact ih0 _ _ _
   | exact laws_toIntS.mono _ _
   | exact LeO.none _
   | refine LeO.ite ?_ ?_
   | refine LeO.bind ?_ (fun _ => ?_)
theorem laws_toIntSS.mono : ∀ a0 k, LeO (laws_toIntSS.f k a0) (laws_toIntSS.f (k + 1) a0) := by
 intro a0 k
 have ih0 := laws_toIntSS.mono_l k
 unfold laws_toIntSS.f
 repeat' first
   | (with_reducible exact ih0 _ _ _)
   | (with_reducible exact laws_toIntS.mono _ _)
   | (with_reducible exact LeO.refl _)
   | (with_reducible exact LeO.none _)
   | (with_reducible refine LeO.ite ?_ ?_)
   | (with_reducible refine LeO.bind ?_ (fun _ => ?_))
   | exact ih0 _ _ _
   | exact laws_toIntS.mono _ _
   | exact LeO.none _
   | refine LeO.ite ?_ ?_
   | refine LeO.bind ?_ (fun _ => ?_)
set_option maxHeartbeats 8000000 in
set_option maxRecDepth 100000 in
theorem laws_toIntSS.calls (k : Nat) (A0 : Option Addr) (c0 : Nat) (l0 : List (List Int)) (r : List (List Int)) (w : World) (hr0 : Kd.C (Kd.slice 3 (Kd.int .i64)) w A0 l0.length l0) (hc0 : l0.length ≤ c0) (h : laws_toIntSS.f k l0 = some r) :
  Calls Try.prog 85 #[.slice A0 l0.length c0] w fun e w' => ∃ v0_ : Value, e = .returned (v0_) ∧ Kd.S (Kd.slice 3 (Kd.int .i64)) 67 w' w.heap.size (fun _ => True) v0_ r ∧ Below w.heap.size w w' := by
 have HR0 := Aside0.mk hr0
 have HC0 := Aside0.mk hc0
 clear hr0 hc0
 have HB := Aside0.mk (Below.refl w.heap.size w)
 have H : (if 0 ≤ (l0.length : Int) then (if ((l0.length : Int) : Int).toNat ≤ 11728124029610 then (laws_toIntSS.l0 k l0 (List.replicate ((l0.length : Int) : Int).toNat []) 0) else (none)) else (none)) = some r := h
 clear h
 by_cases c2 : 0 ≤ (l0.length : Int)
 ·rw [if_pos c2] at H
  have c2b0 := eq_true c2
  have c2b1 : decide (0 ≤ (l0.length : Int)) = true := decide_eq_true c2
  clear c2
  by_cases c3 : ((l0.length : Int) : Int).toNat ≤ 11728124029610
  ·rw [if_pos c3] at H
   have c3b0 := eq_true c3
   have c3b1 : decide (((l0.length : Int) : Int).toNat ≤ 11728124029610) = true := decide_eq_true c3
   clear c3
   obtain ⟨y684, hy684⟩ : ∃ y_ : List (List Int), y_ = (List.replicate ((l0.length : Int) : Int).toNat []) := ⟨_, rfl⟩
   replace H : (laws_toIntSS.l0 k l0 y684 0) = some r := by first | (rw [hy684]; with_reducible exact H) | (have H2_ := (Option.bind_some _ _).symm.trans H; rw [hy684]; with_reducible exact H2_) | (have H2_ := (Option.bind_some _ _).symm.trans H; with_reducible exact H2_) | with_reducible exact H | (rw [hy684]; exact H) | exact H
   have Ny684 := Aside0.mk hy684
   clear hy684
   have H' := Aside0.mk H
   clear H
   go_enter Try.func85, Try.ntmps85
   go_wp2_with (first | ((with_reducible refine gate_dst (N := 7) rfl ?_); refine Kd.S_make (Kd.slice 3 (Kd.int .i64)) _ 67 rfl (N := 7) rfl 73 _ _ rfl (l0.length : Int) rfl rfl Try.underlying73 (.slice none 0 0) 24 info67 rfl (by decide) (by omega) [] (ok := fun _ => True) (okp := fun _ => True) ⟨_, rfl, Kd.R_nil _ _ _ _ _⟩ (fun _ hk => hk) trivial (of_decide_eq_true (by first | (with_reducible assumption) | assumption)) (Nat.le_trans (Nat.mul_le_mul_right _ (of_decide_eq_true (by first | (with_reducible assumption) | assumption) : (l0.length : Int).toNat ≤ 11728124029610)) (by omega)) (Below.refl _ _) (Nat.le_refl _) ?_; intro v685 w4 ho5 hb hg_ hnew_; clear hg_ hnew_; (first | rw [← Ny684.out] at ho5 | (simp only [Int.reduceToNat] at ho5; rw [← Ny684.out] at ho5)); have n0_ := Aside0.mk (Kd.S_lower ho5 (below_size (by repeat (first | (with_reducible first | exact HB.out | apply below_alloc | apply pw_below_drewN | apply below_drew1) | exact HB.out)))); have n1_ := Aside0.mk (below_step (by repeat (first | (with_reducible first | exact HB.out | apply below_alloc | apply pw_below_drewN | apply below_drew1) | exact HB.out)) hb); clear HB; have HO686 := n0_; have HB := n1_; clear n0_ n1_; clear hb ho5))
   go_loopg [4] k (fun kq v4 w' => ∃ (x3_1 : List (List Int)) (x4_1 : Int), v4 = .int .i64 x4_1 ∧ Aside0 (laws_toIntSS.l0 kq l0 x3_1 x4_1 = some r) ∧ Aside0 (kq ≤ k) ∧ Aside0 (Kd.S (Kd.slice 3 (Kd.int .i64)) 67 w' w.heap.size (fun _ => True) v685 x3_1) ∧ Aside0 (Below w.heap.size w w'))
   case atStart => exact ⟨(y684), (0), (by first | rfl | (simp; done) | (simp [*]; done)), H', ⟨Nat.le_refl _⟩, ⟨by (with_reducible repeat (first | apply Kd.S_alloc | apply Kd.S_drewN | apply Kd.S_drew)); exact HO686.out⟩, ⟨by repeat (first | (with_reducible first | exact HB.out | apply below_alloc | apply pw_below_drewN | apply below_drew1) | exact HB.out)⟩⟩
   case round =>
    clear H'
    try clear c2
    try clear c2b0
    try clear c2b1
    try clear p2
    try clear c3
    try clear c3b0
    try clear c3b1
    obtain ⟨x3_1, x4_1, rfl, HA, HK1, HO_3, HB⟩ := hrel
    cases gk with
    | zero => exact absurd HA.out (by simp [laws_toIntSS.l0])
    | succ k1 =>
     have H := HA.out
     clear HA
     simp only [laws_toIntSS.l0] at H
     by_cases c6 : x4_1 < (l0.length : Int)
     ·rw [if_pos c6] at H
      have c6b0 : decide (x4_1 < (l0.length : Int)) = true := decide_eq_true c6
      clear c6
      by_cases c7 : 0 ≤ x4_1
      ·rw [if_pos c7] at H
       have c7b0 : decide (0 ≤ x4_1) = true := decide_eq_true c7
       clear c7
       replace H := Option.bind_eq_some_iff.mp H
       obtain ⟨t688, A80, H⟩ := H
       replace H : (if x4_1 < (x3_1.length : Int) then (laws_toIntSS.l0 k1 l0 (x3_1.set (x4_1 : Int).toNat t688) (wrap64 (x4_1 + 1))) else (none)) = some r := H
       have A8 := Aside0.mk A80
       clear A80
       by_cases c9 : x4_1 < (x3_1.length : Int)
       ·rw [if_pos c9] at H
        have c9b0 : decide (x4_1 < (x3_1.length : Int)) = true := decide_eq_true c9
        clear c9
        obtain ⟨y691, hy691⟩ : ∃ y_ : List (List Int), y_ = (x3_1.set (x4_1 : Int).toNat t688) := ⟨_, rfl⟩
        replace H : (laws_toIntSS.l0 k1 l0 y691 (wrap64 (x4_1 + 1))) = some r := by first | (rw [hy691]; with_reducible exact H) | (have H2_ := (Option.bind_some _ _).symm.trans H; rw [hy691]; with_reducible exact H2_) | (have H2_ := (Option.bind_some _ _).symm.trans H; with_reducible exact H2_) | with_reducible exact H | (rw [hy691]; exact H) | exact H
        have Ny691 := Aside0.mk hy691
        clear hy691
        have H' := Aside0.mk H
        clear H
        have p687 : 0 ≤ (x4_1 : Int) := of_decide_eq_true (by first | (with_reducible assumption) | assumption)
        have q687 : x4_1 < (l0.length : Int) := of_decide_eq_true (by first | (with_reducible assumption) | assumption)
        obtain ⟨ad687, A687_0, c687_0, e687, hx687_0, hl687_0, hi687_0⟩ := at_L18 HR0.out x4_1 p687 q687
        cases e687
        replace hx687_0 := (HB.out.cell (World.block_lt_of_cell? w _ hx687_0)).trans hx687_0
        have HR687_0 := Aside0.mk hi687_0
        have HC687_0 := Aside0.mk hl687_0
        clear hi687_0 hl687_0
        replace p687 := eq_true p687
        replace q687 := eq_true q687
        go_wp2_with (first | ((with_reducible refine gate_callee (f := 32) rfl ?_); refine goesL_ (some 20) rfl rfl Try.func32 (by kernel_rfl) rfl #[.slice A687_0 (rd_L18 l0 x4_1).length c687_0] rfl (by (try simp only [List.map_toArray, List.map_cons, List.map_nil]); first | done | rfl | (simp only [List.length_drop, List.length_take]; rfl)) ?_; (with_reducible refine (laws_toIntS.calls k1 _ _ (rd_L18 l0 x4_1) t688 _ ?side1 ?side2 A8.out).mono ?_); (case side1 => repeat (first | exact (Kd.C_below HR687_0.out HB.out) | (with_reducible refine Kd.C_alloc ?_ _) | (with_reducible refine Kd.C_drewN ?_ _) | (with_reducible refine Kd.C_drew ?_))); (case side2 => exact HC687_0.out); rintro e w11 ⟨v689, rfl, ho0, hb⟩; refine ⟨_, rfl, ?_⟩; have n0_ := Aside0.mk (Kd.S_elder' (by (with_reducible repeat (first | apply Kd.S_alloc | apply Kd.S_drewN | apply Kd.S_drew)); exact HO_3.out) (Kd.R_base ho0) hb); have n1_ := Aside0.mk (Kd.R_lower ho0 (below_size (by repeat (first | (with_reducible first | exact HB.out | apply below_alloc | apply pw_below_drewN | apply below_drew1) | exact HB.out)))); have n2_ := Aside0.mk (below_step (by repeat (first | (with_reducible first | exact HB.out | apply below_alloc | apply pw_below_drewN | apply below_drew1) | exact HB.out)) hb); clear HO_3; clear HB; have HO_3 := n0_; have HO690 := n1_; have HB := n2_; clear n0_ n1_ n2_; (try clear hb); (try clear hb2); (try clear hk); (try clear hi); (try clear ho0); have p10 : 0 ≤ (x4_1 : Int) := of_decide_eq_true (by first | (with_reducible assumption) | assumption); have q10 : (x4_1 : Int) < ((x3_1.length : Int) : Int) := of_decide_eq_true (by first | (with_reducible assumption) | assumption); obtain ⟨go10, co10, eo10, gb10, gl10, cl10, HG10⟩ := Kd.S_form HO_3.out (by omega); (first | cases eo10 | (injection eo10 with ea_ en_ ec_; (first | subst ea_ | (injection ea_ with ea_; subst ea_)); subst ec_; clear en_)); have GB10 := Aside0.mk gb10; have GG10 := Aside0.mk HG10; clear gb10 gl10 HG10; obtain ⟨_, ce10, hcl10, hM10, hcc10, hfr10, _, _⟩ := Kd.S_elem HO_3.out [] (x4_1 : Int) p10 q10; obtain ⟨ve10_0, rfl, ge10_0⟩ := hM10; have hx10_0 := hcc10 0 _ rfl; have hf10_0 := hfr10 0; (try simp only [show ((Kd.slice 3 (Kd.int .i64))).sz = 1 from rfl, Nat.mul_one, Nat.add_zero] at hx10_0); (try simp only [show ((Kd.slice 3 (Kd.int .i64))).sz = 1 from rfl, Nat.mul_one, Nat.add_zero] at hf10_0); clear hcl10 hcc10 hfr10; (try clear hM10); replace p10 := eq_true p10; replace q10 := eq_true q10; have n_ := Aside0.mk (Kd.S_mono (ok' := (fun k_ => some k_ ≠ (v689 : Value).ownBlock)) HO_3.out (fun k_ hk => hk.2)); clear HO_3; have HO_3 := n_; clear n_; have HX12 := Aside0.mk (show Kd.S (Kd.slice 3 (Kd.int .i64)) 67 w11 w.heap.size (fun k_ => ((fun _ => True)) k_ ∧ ¬ ((fun k_ => some k_ = (v689 : Value).ownBlock)) k_) (.slice (some ⟨go10, 0, none⟩) x3_1.length co10) x3_1 from (by (with_reducible repeat (first | apply Kd.S_alloc | apply Kd.S_drewN | apply Kd.S_drew)); exact Kd.S_mono HO_3.out (fun k_ hk => ⟨trivial, fun e_ => hk e_⟩))); obtain ⟨oki12, ce12, hcl12, hM12, hcc12, hfr12, hoki12, hH12⟩ := Kd.S_elem HX12.out [] (x4_1 : Int) (of_decide_eq_true (by first | (with_reducible assumption) | assumption)) (by have h_ : (x4_1 : Int) < ((x3_1.length : Int) : Int) := of_decide_eq_true (by first | (with_reducible assumption) | assumption); first | exact h_ | (have e_ := (Kd.S_reads' HO_3.out).1; omega) | simpa using h_); obtain ⟨ve12_0, rfl, ge12_0⟩ := hM12; have HP12 := Kd.S_seg hH12 (of_decide_eq_true (by first | (with_reducible assumption) | assumption)) (by have h_ : (x4_1 : Int) < ((x3_1.length : Int) : Int) := of_decide_eq_true (by first | (with_reducible assumption) | assumption); first | exact h_ | (have e_ := (Kd.S_reads' HO_3.out).1; omega) | simpa using h_) (seg := [v689]) (j := 0) (show 1 ≤ 1 from by decide) (x' := t688) (Kd.M_row (Kd.R_mono (Kd.R_tight rfl (Kd.R_mono (ok' := fun k_ => ((fun _ => True)) k_ ∧ k_ ≠ go10) (Kd.R_apart' (HO690.out) (Kd.S_typed HO_3.out) (by decide)) (fun k_ hk => ⟨trivial, fun e_ => (hk.2) (by rw [e_]; rfl)⟩))) (fun _ h_ => Or.inr (h_)))) (fun _ hk => hk) (fun k_ hk_ => ((Kd.R_mono (ok' := fun k_ => ((fun _ => True)) k_ ∧ k_ ≠ go10) (Kd.R_apart' (HO690.out) (Kd.S_typed HO_3.out) (by decide)) (fun k_ hk => ⟨trivial, fun e_ => (hk.2) (by rw [e_]; rfl)⟩))).1 k_ hk_.symm); have hx12_0 := hcc12 0 _ rfl; (try simp only [show ((Kd.slice 3 (Kd.int .i64))).sz = 1 from rfl, Nat.mul_one, Nat.add_zero] at hx12_0); have hf12_0 := hfr12 0; (try simp only [show ((Kd.slice 3 (Kd.int .i64))).sz = 1 from rfl, Nat.mul_one, Nat.add_zero] at hf12_0); clear hcl12 hcc12 hfr12 hoki12 hH12; (try clear hM12); (try simp only [show ((Kd.slice 3 (Kd.int .i64))).sz = 1 from rfl, Nat.mul_one, Nat.add_zero] at HP12)) | ((with_reducible refine gate_store (t := 67) (p := 21) rfl ?_); refine store_event (t := 67) (p := 21) (v := ?vo_w13) (w1 := (w11.setCell ⟨go10, (x4_1 : Int).toNat, none⟩ (v689))) ?hg ?ho ?hn ?hr ?_; (case ho => rfl); (case hg => rfl); (case hn => rfl); (case hr => first | (go_simp; done) | (go_simp; rfl) | ((obtain ⟨As0_, cs0_, es0_⟩ := Kd.R_slice (Aside0.out ‹Aside0 (Kd.R _ _ _ _ _ v689 _)›)); subst es0_; go_simp; done) | ((obtain ⟨As0_, cs0_, es0_⟩ := Kd.R_slice (Aside0.out ‹Aside0 (Kd.R _ _ _ _ _ v689 _)›)); subst es0_; go_simp; rfl)); intro w13 hw; have hg : w11.grownBy w13 (some go10) := (by rw [hw]; exact HP12.2); have hp_ : Kd.S (Kd.slice 3 (Kd.int .i64)) 67 w13 w.heap.size (fun _ => True) (.slice (some ⟨go10, 0, none⟩) x3_1.length co10) y691 := (by rw [hw, Ny691.out]; exact HP12.1); clear HP12; have n0_ := Aside0.mk (hp_); have n1_ := Aside0.mk ((by rw [hw]; exact below_set (HB.out) GB10.out : Below w.heap.size w w13)); clear HO_3; clear HB; clear HO690; have HO_3 := n0_; have HB := n1_; clear n0_ n1_; clear hg hw hp_))
        go_roundg k1
        case measure => have := HK1.out; omega
        case rel => exact ⟨(y691), (wrap64 (x4_1 + 1)), (by first | rfl | (simp; done) | (simp [*]; done)), H', ⟨by have := HK1.out; omega⟩, ⟨by (with_reducible repeat (first | apply Kd.S_alloc | apply Kd.S_drewN | apply Kd.S_drew)); exact HO_3.out⟩, ⟨by repeat (first | (with_reducible first | exact HB.out | apply below_alloc | apply pw_below_drewN | apply below_drew1) | exact HB.out)⟩⟩
       ·rw [if_neg c9] at H
        exact absurd H (by simp)
      ·rw [if_neg c7] at H
       exact absurd H (by simp)
     ·rw [if_neg c6] at H
      have c6b0 : decide (x4_1 < (l0.length : Int)) = false := decide_eq_false c6
      clear c6
      obtain rfl := Option.some.inj H
      go_wp2
      go_ret
      exact ⟨_, by first | rfl | (simp [errW_none, errW_some] <;> rfl) | (simp [*, errW_none, errW_some] <;> rfl), by (with_reducible repeat (first | apply Kd.S_alloc | apply Kd.S_drewN | apply Kd.S_drew)); exact HO_3.out, by repeat (first | (with_reducible first | exact HB.out | apply below_alloc | apply pw_below_drewN | apply below_drew1) | exact HB.out)⟩
  ·rw [if_neg c3] at H
   exact absurd H (by simp)
 ·rw [if_neg c2] at H
  exact absurd H (by simp)
def laws_toNet.f (k : Nat) (l0_0 : List (S25)) (l0_1 : List (List Int)) : Option ((List (S34)) × (List (List Int))) := (laws_toAlphaS.f k l0_0).bind fun t695 => ((laws_toIntSS.f k l0_1).bind fun t698 => (some (t695, t698)))
theorem laws_toNet.mono : ∀ a0 a1 k, LeO (laws_toNet.f k a0 a1) (laws_toNet.f (k + 1) a0 a1) := by
 intro a0 a1 k
 unfold laws_toNet.f
 repeat' first
   | (with_reducible exact laws_toAlphaS.mono _ _)
   | (with_reducible exact laws_toIntSS.mono _ _)
   | (with_reducible exact LeO.refl _)
   | (with_reducible exact LeO.none _)
   | (with_reducible refine LeO.ite ?_ ?_)
   | (with_reducible refine LeO.bind ?_ (fun _ => ?_))
   | exact laws_toAlphaS.mono _ _
   | exact laws_toIntSS.mono _ _
   | exact LeO.none _
   | refine LeO.ite ?_ ?_
   | refine LeO.bind ?_ (fun _ => ?_)
set_option maxHeartbeats 8000000 in
set_option maxRecDepth 100000 in
theorem laws_toNet.calls (k : Nat) (A0_0 : Option Addr) (c0_0 : Nat) (l0_0 : List (S25)) (A0_1 : Option Addr) (c0_1 : Nat) (l0_1 : List (List Int)) (r1 : List (S34)) (r2 : List (List Int)) (w : World) (hr0_0 : Kd.C k25 w A0_0 l0_0.length l0_0) (hc0_0 : l0_0.length ≤ c0_0) (hr0_1 : Kd.C (Kd.slice 3 (Kd.int .i64)) w A0_1 l0_1.length l0_1) (hc0_1 : l0_1.length ≤ c0_1) (h : laws_toNet.f k l0_0 l0_1 = some (r1, r2)) :
  Calls Try.prog 40 #[.agg #[.slice A0_0 l0_0.length c0_0, .slice A0_1 l0_1.length c0_1]] w fun e w' => ∃ v0_ v1_ : Value, e = .returned (.agg #[v0_, v1_]) ∧ Kd.S k34 34 w' w.heap.size (fun _ => True) v0_ r1 ∧ Kd.S (Kd.slice 3 (Kd.int .i64)) 67 w' w.heap.size (fun _ => True) v1_ r2 ∧ Below w.heap.size w w' := by
 have hu75 := Try.underlying75
 have hu81 := Try.underlying81
 have HR0_0 := Aside0.mk hr0_0
 have HC0_0 := Aside0.mk hc0_0
 clear hr0_0 hc0_0
 have HR0_1 := Aside0.mk hr0_1
 have HC0_1 := Aside0.mk hc0_1
 clear hr0_1 hc0_1
 have HB := Aside0.mk (Below.refl w.heap.size w)
 have H : ((laws_toAlphaS.f k l0_0).bind fun t695 => ((laws_toIntSS.f k l0_1).bind fun t698 => (some (t695, t698)))) = some (r1, r2) := h
 clear h
 replace H := Option.bind_eq_some_iff.mp H
 obtain ⟨t695, A20, H⟩ := H
 replace H : ((laws_toIntSS.f k l0_1).bind fun t698 => (some (t695, t698))) = some (r1, r2) := H
 have A2 := Aside0.mk A20
 clear A20
 replace H := Option.bind_eq_some_iff.mp H
 obtain ⟨t698, A30, H⟩ := H
 replace H : (some (t695, t698)) = some (r1, r2) := H
 have A3 := Aside0.mk A30
 clear A30
 simp only [Option.some.injEq, Prod.mk.injEq] at H
 obtain ⟨rfl, rfl⟩ := H
 go_enter Try.func40, Try.ntmps40
 go_wp2_with (first | ((with_reducible refine gate_dst (N := 1) rfl ?_); refine box_event ?hg (N := 1) ?hd (cs := #[.slice A0_0 l0_0.length c0_0, .slice A0_1 l0_1.length c0_1]) (t := 75) ?hr ?_; (case hd => rfl); (case hg => rfl); (case hr => first | (go_simp; done) | (go_simp; rfl)); intro gb692 hg w4 hbox hb; have n0_ := Aside0.mk (below_step (by repeat (first | (with_reducible first | exact HB.out | apply below_alloc | apply pw_below_drewN | apply below_drew1) | exact HB.out)) hb); have n1_ := Aside0.mk (hbox); have n2_ := Aside0.mk ((by rw [hg]; exact (below_size (by repeat (first | (with_reducible first | exact HB.out | apply below_alloc | apply pw_below_drewN | apply below_drew1) | exact HB.out))) : w.heap.size ≤ gb692)); have n3_ := Aside0.mk ((by rw [hg]; exact (below_size (by repeat (first | (with_reducible first | exact HB.out | apply below_alloc | apply pw_below_drewN | apply below_drew1) | exact HB.out))) : w.heap.size ≤ gb692)); clear HB; have HB := n0_; have BK692 := n1_; have GW692 := n2_; have GE692 := n3_; clear n0_ n1_ n2_ n3_; clear hb hbox hg) | ((with_reducible refine gate_dst (N := 2) rfl ?_); refine box_event ?hg (N := 2) ?hd (cs := #[.slice none 0 0, .slice none 0 0]) (t := 81) ?hr ?_; (case hd => rfl); (case hg => rfl); (case hr => first | (go_simp; done) | (go_simp; rfl)); intro gb693 hg w5 hbox hb; have n0_ := Aside0.mk (blk_below (g := gb692) (o := .cells #[.slice A0_0 l0_0.length c0_0, .slice A0_1 l0_1.length c0_1] 75 (0, 0)) (by (with_reducible repeat (first | refine blk_drewN ?_ _ | refine blk_drew ?_ | refine blk_alloc ?_ _)); exact BK692.out) hb); have n1_ := Aside0.mk (below_step (by repeat (first | (with_reducible first | exact HB.out | apply below_alloc | apply pw_below_drewN | apply below_drew1 | refine below_set ?_ GE692.out) | exact HB.out)) hb); have n2_ := Aside0.mk (hbox); have n3_ := Aside0.mk ((by rw [hg]; exact (below_size (by repeat (first | (with_reducible first | exact HB.out | apply below_alloc | apply pw_below_drewN | apply below_drew1 | refine below_set ?_ GE692.out) | exact HB.out))) : w.heap.size ≤ gb693)); have n4_ := Aside0.mk ((by rw [hg]; exact (below_size (by repeat (first | (with_reducible first | exact HB.out | apply below_alloc | apply pw_below_drewN | apply below_drew1 | refine below_set ?_ GE692.out) | exact HB.out))) : w.heap.size ≤ gb693)); have n5_ := Aside0.mk ((by rw [hg]; exact Nat.ne_of_lt (blk_lt (g := gb692) (o := .cells #[.slice A0_0 l0_0.length c0_0, .slice A0_1 l0_1.length c0_1] 75 (0, 0)) (by (with_reducible repeat (first | refine blk_drewN ?_ _ | refine blk_drew ?_ | refine blk_alloc ?_ _)); exact BK692.out)) : gb692 ≠ gb693)); have n6_ := Aside0.mk ((by rw [hg]; exact Nat.ne_of_gt (blk_lt (g := gb692) (o := .cells #[.slice A0_0 l0_0.length c0_0, .slice A0_1 l0_1.length c0_1] 75 (0, 0)) (by (with_reducible repeat (first | refine blk_drewN ?_ _ | refine blk_drew ?_ | refine blk_alloc ?_ _)); exact BK692.out)) : gb693 ≠ gb692)); clear BK692; clear HB; have BK692 := n0_; have HB := n1_; have BK693 := n2_; have GW693 := n3_; have GE693 := n4_; have NB692_693 := n5_; have NB693_692 := n6_; clear n0_ n1_ n2_ n3_ n4_ n5_ n6_; clear hb hbox hg) | ((with_reducible refine gate_dst (N := 3) rfl ?_); refine box_event ?hg (N := 3) ?hd (cs := #[.slice none 0 0, .slice none 0 0]) (t := 81) ?hr ?_; (case hd => rfl); (case hg => rfl); (case hr => first | (go_simp; done) | (go_simp; rfl)); intro gb694 hg w6 hbox hb; have n0_ := Aside0.mk (blk_below (g := gb692) (o := .cells #[.slice A0_0 l0_0.length c0_0, .slice A0_1 l0_1.length c0_1] 75 (0, 0)) (by (with_reducible repeat (first | refine blk_drewN ?_ _ | refine blk_drew ?_ | refine blk_alloc ?_ _)); exact BK692.out) hb); have n1_ := Aside0.mk (blk_below (g := gb693) (o := .cells #[.slice none 0 0, .slice none 0 0] 81 (0, 0)) (by (with_reducible repeat (first | refine blk_drewN ?_ _ | refine blk_drew ?_ | refine blk_alloc ?_ _)); exact BK693.out) hb); have n2_ := Aside0.mk (below_step (by repeat (first | (with_reducible first | exact HB.out | apply below_alloc | apply pw_below_drewN | apply below_drew1 | refine below_set ?_ GE692.out | refine below_set ?_ GE693.out) | exact HB.out)) hb); have n3_ := Aside0.mk (hbox); have n4_ := Aside0.mk ((by rw [hg]; exact (below_size (by repeat (first | (with_reducible first | exact HB.out | apply below_alloc | apply pw_below_drewN | apply below_drew1 | refine below_set ?_ GE692.out | refine below_set ?_ GE693.out) | exact HB.out))) : w.heap.size ≤ gb694)); have n5_ := Aside0.mk ((by rw [hg]; exact (below_size (by repeat (first | (with_reducible first | exact HB.out | apply below_alloc | apply pw_below_drewN | apply below_drew1 | refine below_set ?_ GE692.out | refine below_set ?_ GE693.out) | exact HB.out))) : w.heap.size ≤ gb694)); have n6_ := Aside0.mk ((by rw [hg]; exact Nat.ne_of_lt (blk_lt (g := gb692) (o := .cells #[.slice A0_0 l0_0.length c0_0, .slice A0_1 l0_1.length c0_1] 75 (0, 0)) (by (with_reducible repeat (first | refine blk_drewN ?_ _ | refine blk_drew ?_ | refine blk_alloc ?_ _)); exact BK692.out)) : gb692 ≠ gb694)); have n7_ := Aside0.mk ((by rw [hg]; exact Nat.ne_of_gt (blk_lt (g := gb692) (o := .cells #[.slice A0_0 l0_0.length c0_0, .slice A0_1 l0_1.length c0_1] 75 (0, 0)) (by (with_reducible repeat (first | refine blk_drewN ?_ _ | refine blk_drew ?_ | refine blk_alloc ?_ _)); exact BK692.out)) : gb694 ≠ gb692)); have n8_ := Aside0.mk ((by rw [hg]; exact Nat.ne_of_lt (blk_lt (g := gb693) (o := .cells #[.slice none 0 0, .slice none 0 0] 81 (0, 0)) (by (with_reducible repeat (first | refine blk_drewN ?_ _ | refine blk_drew ?_ | refine blk_alloc ?_ _)); exact BK693.out)) : gb693 ≠ gb694)); have n9_ := Aside0.mk ((by rw [hg]; exact Nat.ne_of_gt (blk_lt (g := gb693) (o := .cells #[.slice none 0 0, .slice none 0 0] 81 (0, 0)) (by (with_reducible repeat (first | refine blk_drewN ?_ _ | refine blk_drew ?_ | refine blk_alloc ?_ _)); exact BK693.out)) : gb694 ≠ gb693)); clear BK692; clear BK693; clear HB; have BK692 := n0_; have BK693 := n1_; have HB := n2_; have BK694 := n3_; have GW694 := n4_; have GE694 := n5_; have NB692_694 := n6_; have NB694_692 := n7_; have NB693_694 := n8_; have NB694_693 := n9_; clear n0_ n1_ n2_ n3_ n4_ n5_ n6_ n7_ n8_ n9_; clear hb hbox hg; have hnb7 := NB692_693.out; have hnc7 := NB693_692.out; have hnb8 := NB692_694.out; have hnc8 := NB694_692.out; have hcz9_0 : w6.cell? ⟨gb692, 0, none⟩ = some (.slice A0_0 l0_0.length c0_0) := (blk_cell BK692.out 0).trans rfl; have hcz9_1 : w6.cell? ⟨gb692, 1, none⟩ = some (.slice A0_1 l0_1.length c0_1) := (blk_cell BK692.out 1).trans rfl; have hfz9_0 := blk_frozen BK692.out 0; have hfz9_1 := blk_frozen BK692.out 1) | ((with_reducible refine gate_callee (f := 84) rfl ?_); refine goesL_ (some 6) rfl rfl Try.func84 (by kernel_rfl) rfl #[.slice A0_0 l0_0.length c0_0] rfl (by (try simp only [List.map_toArray, List.map_cons, List.map_nil]); first | done | rfl | (simp only [List.length_drop, List.length_take]; rfl)) ?_; (with_reducible refine (laws_toAlphaS.calls k _ _ l0_0 t695 _ ?side1 ?side2 A2.out).mono ?_); (case side1 => repeat (first | exact (Kd.C_below HR0_0.out HB.out) | (with_reducible refine Kd.C_alloc ?_ _) | (with_reducible refine Kd.C_drewN ?_ _) | (with_reducible refine Kd.C_drew ?_))); (case side2 => exact HC0_0.out); rintro e w10 ⟨v696, rfl, ho0, hb⟩; refine ⟨_, rfl, ?_⟩; have n0_ := Aside0.mk (Kd.S_lower ho0 (below_size (by repeat (first | (with_reducible first | exact HB.out | apply below_alloc | apply pw_below_drewN | apply below_drew1 | refine below_set ?_ GE692.out | refine below_set ?_ GE693.out | refine below_set ?_ GE694.out) | exact HB.out)))); have n1_ := Aside0.mk (blk_below (g := gb692) (o := .cells #[.slice A0_0 l0_0.length c0_0, .slice A0_1 l0_1.length c0_1] 75 (0, 0)) (by (with_reducible repeat (first | refine blk_drewN ?_ _ | refine blk_drew ?_ | refine blk_alloc ?_ _)); exact BK692.out) hb); have n2_ := Aside0.mk (blk_below (g := gb693) (o := .cells #[.slice none 0 0, .slice none 0 0] 81 (0, 0)) (by (with_reducible repeat (first | refine blk_drewN ?_ _ | refine blk_drew ?_ | refine blk_alloc ?_ _)); exact BK693.out) hb); have n3_ := Aside0.mk (blk_below (g := gb694) (o := .cells #[.slice none 0 0, .slice none 0 0] 81 (0, 0)) (by (with_reducible repeat (first | refine blk_drewN ?_ _ | refine blk_drew ?_ | refine blk_alloc ?_ _)); exact BK694.out) hb); have n4_ := Aside0.mk (below_step (by repeat (first | (with_reducible first | exact HB.out | apply below_alloc | apply pw_below_drewN | apply below_drew1 | refine below_set ?_ GE692.out | refine below_set ?_ GE693.out | refine below_set ?_ GE694.out) | exact HB.out)) hb); clear BK692; clear BK693; clear BK694; clear HB; have HO697 := n0_; have BK692 := n1_; have BK693 := n2_; have BK694 := n3_; have HB := n4_; clear n0_ n1_ n2_ n3_ n4_; (try clear hb); (try clear hb2); (try clear hk); (try clear hi); (try clear ho0); obtain ⟨Ao11, co11, eo11⟩ := Kd.S_slice HO697.out; subst eo11; have hnb12 := NB694_693.out; have hnc12 := NB693_694.out; have hcz13_0 : w10.cell? ⟨gb694, 0, none⟩ = some (.slice none 0 0) := (blk_cell BK694.out 0).trans rfl; have hcz13_1 : w10.cell? ⟨gb694, 1, none⟩ = some (.slice none 0 0) := (blk_cell BK694.out 1).trans rfl; have hfz13_0 := blk_frozen BK694.out 0; have hfz13_1 := blk_frozen BK694.out 1; have hcz14_0 : w10.cell? ⟨gb692, 0, none⟩ = some (.slice A0_0 l0_0.length c0_0) := (blk_cell BK692.out 0).trans rfl; have hcz14_1 : w10.cell? ⟨gb692, 1, none⟩ = some (.slice A0_1 l0_1.length c0_1) := (blk_cell BK692.out 1).trans rfl; have hfz14_0 := blk_frozen BK692.out 0; have hfz14_1 := blk_frozen BK692.out 1) | ((with_reducible refine gate_callee (f := 85) rfl ?_); refine goesL_ (some 10) rfl rfl Try.func85 (by kernel_rfl) rfl #[.slice A0_1 l0_1.length c0_1] rfl (by (try simp only [List.map_toArray, List.map_cons, List.map_nil]); first | done | rfl | (simp only [List.length_drop, List.length_take]; rfl)) ?_; (with_reducible refine (laws_toIntSS.calls k _ _ l0_1 t698 _ ?side1 ?side2 A3.out).mono ?_); (case side1 => exact Kd.C_below HR0_1.out (by repeat (first | (with_reducible first | exact HB.out | apply below_alloc | apply pw_below_drewN | apply below_drew1 | refine below_set ?_ GE692.out | refine below_set ?_ GE693.out | refine below_set ?_ GE694.out) | exact HB.out))); (case side2 => exact HC0_1.out); rintro e w15 ⟨v699, rfl, ho0, hb⟩; refine ⟨_, rfl, ?_⟩; have n0_ := Aside0.mk (Kd.S_below (by (with_reducible repeat (first | apply Kd.S_alloc | apply Kd.S_drewN | apply Kd.S_drew)); exact (Kd.S_mono (Kd.S_far (p := ⟨gb694, 0, none⟩) (Kd.S_types HO697.out BK694.out (by decide)) (fun _ hk => hk.2) (.slice Ao11 t695.length co11)) (fun _ h_ => h_.1))) hb); have n1_ := Aside0.mk (Kd.S_lower ho0 (below_size (by repeat (first | (with_reducible first | exact HB.out | apply below_alloc | apply pw_below_drewN | apply below_drew1 | refine below_set ?_ GE692.out | refine below_set ?_ GE693.out | refine below_set ?_ GE694.out) | exact HB.out)))); have n2_ := Aside0.mk (blk_below (g := gb692) (o := .cells #[.slice A0_0 l0_0.length c0_0, .slice A0_1 l0_1.length c0_1] 75 (0, 0)) (by (with_reducible repeat (first | refine blk_drewN ?_ _ | refine blk_drew ?_ | refine blk_alloc ?_ _)); refine blk_far ?_ NB692_694.out _; (with_reducible repeat (first | refine blk_drewN ?_ _ | refine blk_drew ?_ | refine blk_alloc ?_ _)); exact BK692.out) hb); have n3_ := Aside0.mk (blk_below (g := gb693) (o := .cells #[.slice none 0 0, .slice none 0 0] 81 (0, 0)) (by (with_reducible repeat (first | refine blk_drewN ?_ _ | refine blk_drew ?_ | refine blk_alloc ?_ _)); refine blk_far ?_ NB693_694.out _; (with_reducible repeat (first | refine blk_drewN ?_ _ | refine blk_drew ?_ | refine blk_alloc ?_ _)); exact BK693.out) hb); have n4_ := Aside0.mk (blk_below (g := gb694) (o := .cells #[.slice Ao11 t695.length co11, .slice none 0 0] 81 (0, 0)) (by (with_reducible repeat (first | refine blk_drewN ?_ _ | refine blk_drew ?_ | refine blk_alloc ?_ _)); refine blk_put (cs := #[.slice none 0 0, .slice none 0 0]) ?_ 0 _ rfl; (with_reducible repeat (first | refine blk_drewN ?_ _ | refine blk_drew ?_ | refine blk_alloc ?_ _)); exact BK694.out) hb); have n5_ := Aside0.mk (below_step (by repeat (first | (with_reducible first | exact HB.out | apply below_alloc | apply pw_below_drewN | apply below_drew1 | refine below_set ?_ GE692.out | refine below_set ?_ GE693.out | refine below_set ?_ GE694.out) | exact HB.out)) hb); clear HO697; clear BK692; clear BK693; clear BK694; clear HB; have HO697 := n0_; have HO700 := n1_; have BK692 := n2_; have BK693 := n3_; have BK694 := n4_; have HB := n5_; clear n0_ n1_ n2_ n3_ n4_ n5_; (try clear hb); (try clear hb2); (try clear hk); (try clear hi); (try clear ho0); obtain ⟨Ao16, co16, eo16⟩ := Kd.S_slice HO700.out; subst eo16; have hcz17_0 : w15.cell? ⟨gb694, 0, none⟩ = some (.slice Ao11 t695.length co11) := (blk_cell BK694.out 0).trans rfl; have hcz17_1 : w15.cell? ⟨gb694, 1, none⟩ = some (.slice none 0 0) := (blk_cell BK694.out 1).trans rfl; have hfz17_0 := blk_frozen BK694.out 0; have hfz17_1 := blk_frozen BK694.out 1; have hcz18_0 : w15.cell? ⟨gb693, 0, none⟩ = some (.slice none 0 0) := (blk_cell BK693.out 0).trans rfl; have hcz18_1 : w15.cell? ⟨gb693, 1, none⟩ = some (.slice none 0 0) := (blk_cell BK693.out 1).trans rfl; have hfz18_0 := blk_frozen BK693.out 0; have hfz18_1 := blk_frozen BK693.out 1))
 refine bodyPost_ret (results_cell_row rfl _ _ gb693 81 #[.slice Ao11 t695.length co11, .slice Ao16 t698.length co16] (0, 0) _ rfl (by (with_reducible repeat (first | refine blk_drewN ?_ _ | refine blk_drew ?_ | refine blk_alloc ?_ _)); refine blk_put (cs := #[.slice Ao11 t695.length co11, .slice none 0 0]) ?_ 1 _ rfl; (with_reducible repeat (first | refine blk_drewN ?_ _ | refine blk_drew ?_ | refine blk_alloc ?_ _)); refine blk_put (cs := #[.slice none 0 0, .slice none 0 0]) ?_ 0 _ rfl; (with_reducible repeat (first | refine blk_drewN ?_ _ | refine blk_drew ?_ | refine blk_alloc ?_ _)); refine blk_far ?_ NB693_694.out _; (with_reducible repeat (first | refine blk_drewN ?_ _ | refine blk_drew ?_ | refine blk_alloc ?_ _)); exact BK693.out) Try.underlying81 rfl (by kernel_rfl)) rfl ?_
 exact ⟨_, _, by first | rfl | (simp [errW_none, errW_some] <;> rfl) | (simp [*, errW_none, errW_some] <;> rfl), by (with_reducible repeat (first | apply Kd.S_alloc | apply Kd.S_drewN | apply Kd.S_drew)); exact Kd.S_mono (Kd.S_far (p := ⟨gb693, 1, none⟩) (Kd.S_far (p := ⟨gb693, 0, none⟩) (Kd.S_far (p := ⟨gb694, 1, none⟩) (Kd.S_types (Kd.S_types HO697.out BK694.out (by decide)) BK693.out (by decide)) (fun _ hk => hk.1.2) (.slice Ao16 t698.length co16)) (fun _ hk => hk.2) (.slice Ao11 t695.length co11)) (fun _ hk => hk.2) (.slice Ao16 t698.length co16)) (fun _ hk => trivial), by (with_reducible repeat (first | apply Kd.S_alloc | apply Kd.S_drewN | apply Kd.S_drew)); exact Kd.S_mono (Kd.S_far (p := ⟨gb693, 1, none⟩) (Kd.S_far (p := ⟨gb693, 0, none⟩) (Kd.S_far (p := ⟨gb694, 1, none⟩) (Kd.S_types (Kd.S_types HO700.out BK694.out (by decide)) BK693.out (by decide)) (fun _ hk => hk.1.2) (.slice Ao16 t698.length co16)) (fun _ hk => hk.2) (.slice Ao11 t695.length co11)) (fun _ hk => hk.2) (.slice Ao16 t698.length co16)) (fun _ hk => trivial), by repeat (first | (with_reducible first | exact HB.out | apply below_alloc | apply pw_below_drewN | apply below_drew1 | refine below_set ?_ GE692.out | refine below_set ?_ GE693.out | refine below_set ?_ GE694.out) | exact HB.out)⟩
end Go.Proofs.Ytoncacdehhmpaaa.P
namespace Go.Proofs.Ytoncacdehhmpaaa.P
open Go.RowKit Go.Proofs.YtoncacdehhmpaaaW.PrintWords Go.Proofs.YtoncacdehhmpaaaW.PrintLast Go.Proofs.YtoncacdehhmpaaaW.PrintMore
attribute [local go_sem] max2_int min2_int max_two min_two max_three min_three max_four min_four
set_option linter.unusedVariables false
set_option linter.unusedSimpArgs false
open Go.Proofs.YtoncacdehhmpaaaX in
def encAlphaTest (x : S106) : Value := .agg #[.int .i64 (x).f0, .int .i64 (x).f1, .int .i64 (x).f2, .int .i64 (x).f3.f0, .int .i64 (x).f3.f1, .string (x).f3.f2]
open Go.Proofs.YtoncacdehhmpaaaX in
set_option maxHeartbeats 2000000 in
set_option maxRecDepth 100000 in
theorem idxAlphaTest.calls (g : Nat) (lb : Array Value) (eg : ∀ args w, (callFunc g args).run Try.prog w = .ok (.enter g args) w) (p : S106 → Bool) (A : Option Addr) (c : Nat) (xs : List S106) (w : World)
  (hr : Kd.C k106 w A xs.length xs) (hc : xs.length ≤ c) (hm : xs.length ≤ bigN) (hp : PredB Try.prog g lb encAlphaTest p xs w) :
  Calls Try.prog 104 #[.slice A xs.length c, .func (.func g) #[] lb] w fun e w' => e = .returned (.int .i64 (idxB p xs)) ∧ Below w.heap.size w w' := by
 have hm := le_of_bigN hm
 have HR0 := Aside0.mk hr
 have HC0 := Aside0.mk hc
 have HP := Aside0.mk hp
 clear hr hc hp
 go_enter Try.func104, Try.ntmps104
 go_wp2
 go_loopg [5, 8] xs.length (fun gg _ s8 wr => ∃ kk : Nat, kk ≤ xs.length ∧ xs.length - kk ≤ gg ∧ s8 = .int .i64 kk ∧ Aside0 (Below w.heap.size w wr) ∧ Aside0 (∀ j, j < kk → p (xs.getD j z106) = false))
 case atStart => exact ⟨0, Nat.zero_le _, by omega, rfl, ⟨Below.refl _ w⟩, ⟨fun j hj => absurd hj (Nat.not_lt_zero _)⟩⟩
 case round =>
  obtain ⟨kk, hkk, hg, rfl, BW, MI⟩ := hrel
  by_cases hlt : kk < xs.length
  ·have hltz : (kk : Int) < (xs.length : Int) := by omega
   obtain ⟨ad, e0, hx0, hx1, hx2, hx3, hx4, hx5⟩ := at_T106 HR0.out (kk : Int) (by omega) hltz
   cases e0
   replace hx0 := (BW.out.cell (World.block_lt_of_cell? w _ hx0)).trans hx0
   replace hx1 := (BW.out.cell (World.block_lt_of_cell? w _ hx1)).trans hx1
   replace hx2 := (BW.out.cell (World.block_lt_of_cell? w _ hx2)).trans hx2
   replace hx3 := (BW.out.cell (World.block_lt_of_cell? w _ hx3)).trans hx3
   replace hx4 := (BW.out.cell (World.block_lt_of_cell? w _ hx4)).trans hx4
   replace hx5 := (BW.out.cell (World.block_lt_of_cell? w _ hx5)).trans hx5
   have hrd : rd_T106 xs (kk : Int) = xs.getD kk z106 := by simp [rd_T106]
   have hcall := HP.out wr (xs.getD kk z106) (getD_mem hlt) BW.out
   rw [hrd] at hx0 hx1 hx2 hx3 hx4 hx5
   simp only [Int.toNat_natCast] at hx0 hx1 hx2 hx3 hx4 hx5
   have HL := Aside0.mk hlt
   clear hrd
   generalize hy : xs.getD kk z106 = y at hx0 hx1 hx2 hx3 hx4 hx5 hcall
   have HY := Aside0.mk hy
   clear hy
   simp only [encAlphaTest] at hcall
   cases hq : p y with
   | true =>
    rw [hq] at hcall
    have HQ := Aside0.mk hq
    have HH := Aside0.mk hcall
    clear hq hcall
    go_wp2_with (go_at_fn g; refine HH.out.mono ?_; rintro e w' ⟨rfl, hb'⟩)
    go_ret
    refine ⟨?_, below_then BW.out BW.out.size hb'⟩
    rw [idxB_hit p xs kk z106 HL.out (by rw [HY.out]; exact HQ.out) MI.out]
    rfl
   | false =>
    rw [hq] at hcall
    have HQ := Aside0.mk hq
    have HH := Aside0.mk hcall
    clear hq hcall
    go_wp2_with (go_at_fn g; refine HH.out.mono ?_; rintro e w' ⟨rfl, hb'⟩)
    go_roundg (xs.length - (kk + 1))
    case measure => omega
    case rel =>
     refine ⟨kk + 1, by omega, by omega, by go_num, ⟨below_then BW.out BW.out.size hb'⟩, ⟨fun j hj => ?_⟩⟩
     by_cases e : j = kk
     ·subst e
      rw [HY.out]; exact HQ.out
     ·exact MI.out j (by omega)
  ·have hltz : ¬ (kk : Int) < (xs.length : Int) := by omega
   have hk : kk = xs.length := by omega
   have HK := Aside0.mk hk
   clear hk
   go_wp2
   go_ret
   refine ⟨?_, BW.out⟩
   have hmiss : ∀ x, x ∈ xs → p x = false := by
    intro x hx
    obtain ⟨j, hj, e⟩ := List.getElem_of_mem hx
    have := MI.out j (by have := HK.out; omega)
    rw [List.getD_eq_getElem?_getD, List.getElem?_eq_getElem hj] at this
    rw [← e]; exact this
   rw [idxB_miss p xs hmiss]
   rfl
end Go.Proofs.Ytoncacdehhmpaaa.P
namespace Go.Proofs.Ytoncacdehhmpaaa.P
open Go.RowKit Go.Proofs.YtoncacdehhmpaaaW.PrintWords Go.Proofs.YtoncacdehhmpaaaW.PrintLast Go.Proofs.YtoncacdehhmpaaaW.PrintMore
attribute [local go_sem] max2_int min2_int max_two min_two max_three min_three max_four min_four
set_option linter.unusedVariables false
set_option linter.unusedSimpArgs false
open Go.Proofs.YtoncacdehhmpaaaX in
set_option maxHeartbeats 2000000 in
set_option maxRecDepth 100000 in
theorem containsAlphaTest.calls (g : Nat) (lb : Array Value) (eg : ∀ args w, (callFunc g args).run Try.prog w = .ok (.enter g args) w) (p : S106 → Bool) (A : Option Addr) (c : Nat) (xs : List S106) (w : World)
  (hr : Kd.C k106 w A xs.length xs) (hc : xs.length ≤ c) (hm : xs.length ≤ bigN) (hp : PredB Try.prog g lb encAlphaTest p xs w) :
  Calls Try.prog 61 #[.slice A xs.length c, .func (.func g) #[] lb] w fun e w' => e = .returned (.bool (xs.any p)) ∧ Below w.heap.size w w' := by
 have hcall := idxAlphaTest.calls g lb eg p A c xs w hr hc hm hp
 rw [← idxB_any]
 have HH := Aside0.mk hcall
 clear hcall hr hc hm hp
 go_enter Try.func61, Try.ntmps61
 go_wp2_with (go_at_call 104; refine HH.out.mono ?_; rintro e w' ⟨rfl, hb'⟩)
 go_ret
 exact ⟨rfl, hb'⟩
end Go.Proofs.Ytoncacdehhmpaaa.P
namespace Go.Proofs.Ytoncacdehhmpaaa.P
open Go.RowKit Go.Proofs.YtoncacdehhmpaaaW.PrintWords Go.Proofs.YtoncacdehhmpaaaW.PrintLast Go.Proofs.YtoncacdehhmpaaaW.PrintMore
attribute [local go_sem] max2_int min2_int max_two min_two max_three min_three max_four min_four
set_option linter.unusedVariables false
set_option linter.unusedSimpArgs false
attribute [local go_sem high] eqA104
def impl_compare.j0 : Nat → Int → Bool → Int → Int → ByteArray → Int → Int → ByteArray → Option (Bool)
 | 0, _, _, _, _, _, _, _, _ => none
 | k + 1, x0, x7, x165000, x165001, x165002, x166000, x166001, x166002 => if x0 = 1 then (some (x165000 == x166000 && (x165001 == x166001 && (x165002.toList == x166002.toList)))) else (if x0 = 2 then (some (!(x165000 == x166000) || (!(x165001 == x166001) || (!(x165002.toList == x166002.toList))))) else (if x0 = 3 then (if x7 = true then (some (decide (x165001 < x166001))) else (some false)) else (if x0 = 4 then (if x7 = true then (some (decide (x165001 > x166001))) else (some false)) else (if x0 = 5 then (if x7 = true then (some (decide (x165001 ≤ x166001))) else (some false)) else (if x0 = 6 then (if x7 = true then (some (decide (x165001 ≥ x166001))) else (some false)) else (some false))))))
def impl_compare.f (k : Nat) (a0 : Int) (a1_0 : Int) (a1_1 : Int) (a1_2 : ByteArray) (a2_0 : Int) (a2_1 : Int) (a2_2 : ByteArray) : Option (Bool) := if a1_0 = 0 then (impl_compare.j0 k a0 (a2_0 == 0) a1_0 a1_1 a1_2 a2_0 a2_1 a2_2) else (impl_compare.j0 k a0 false a1_0 a1_1 a1_2 a2_0 a2_1 a2_2)
theorem impl_compare.mono_l : ∀ k, (∀ y0 y1 y2 y3 y4 y5 y6 y7, LeO (impl_compare.j0 k y0 y1 y2 y3 y4 y5 y6 y7) (impl_compare.j0 (k + 1) y0 y1 y2 y3 y4 y5 y6 y7))
 | 0 => fun _ _ _ _ _ _ _ _ r h => by simp [impl_compare.j0] at h
 | k + 1 => by
  have ih0 := impl_compare.mono_l k
  ·intro y0 y1 y2 y3 y4 y5 y6 y7
   unfold impl_compare.j0
   repeat' first
   | (with_reducible exact ih0 _ _ _ _ _ _ _ _)
   | (with_reducible exact LeO.refl _)
   | (with_reducible exact LeO.none _)
   | (with_reducible refine LeO.ite ?_ ?_)
   | (with_reducible refine LeO.bind ?_ (fun _ => ?_))
   | exact ih0 _ _ _ _ _ _ _ _
   | exact LeO.none _
   | refine LeO.ite ?_ ?_
   | refine LeO.bind ?_ (fun _ => ?_)
theorem impl_compare.mono : ∀ a0 a1 a2 a3 a4 a5 a6 k, LeO (impl_compare.f k a0 a1 a2 a3 a4 a5 a6) (impl_compare.f (k + 1) a0 a1 a2 a3 a4 a5 a6) := by
 intro a0 a1 a2 a3 a4 a5 a6 k
 have ih0 := impl_compare.mono_l k
 unfold impl_compare.f
 repeat' first
   | (with_reducible exact ih0 _ _ _ _ _ _ _ _)
   | (with_reducible exact LeO.refl _)
   | (with_reducible exact LeO.none _)
   | (with_reducible refine LeO.ite ?_ ?_)
   | (with_reducible refine LeO.bind ?_ (fun _ => ?_))
   | exact ih0 _ _ _ _ _ _ _ _
   | exact LeO.none _
   | refine LeO.ite ?_ ?_
   | refine LeO.bind ?_ (fun _ => ?_)
set_option maxHeartbeats 8000000 in
set_option maxRecDepth 100000 in
theorem impl_compare.calls (k : Nat) (a0 : Int) (a1_0 : Int) (a1_1 : Int) (a1_2 : ByteArray) (a2_0 : Int) (a2_1 : Int) (a2_2 : ByteArray) (r : Bool) (w : World) (h : impl_compare.f k a0 a1_0 a1_1 a1_2 a2_0 a2_1 a2_2 = some r) :
  Calls Try.prog 63 #[.int .i64 a0, .agg #[.int .i64 a1_0, .int .i64 a1_1, .string a1_2], .agg #[.int .i64 a2_0, .int .i64 a2_1, .string a2_2]] w fun e w' => e = .returned (.bool r) ∧ Below w.heap.size w w' := by
 have hu104 := Try.underlying104
 have HB := Aside0.mk (Below.refl w.heap.size w)
 have H : (if a1_0 = 0 then (impl_compare.j0 k a0 (a2_0 == 0) a1_0 a1_1 a1_2 a2_0 a2_1 a2_2) else (impl_compare.j0 k a0 false a1_0 a1_1 a1_2 a2_0 a2_1 a2_2)) = some r := h
 clear h
 have HC4 := Aside0.mk H
 clear H
 go_enter Try.func63, Try.ntmps63
 go_upto_region 1 with (first | ((with_reducible refine gate_dst (N := 4) rfl ?_); refine box_event ?hg (N := 4) ?hd (cs := #[.int .i64 a1_0, .int .i64 a1_1, .string a1_2]) (t := 104) ?hr ?_; (case hd => rfl); (case hg => rfl); (case hr => first | (go_simp; done) | (go_simp; rfl)); intro gb164 hg w5 hbox hb; have n0_ := Aside0.mk (below_step (by repeat (first | (with_reducible first | exact HB.out | apply below_alloc | apply pw_below_drewN | apply below_drew1) | exact HB.out)) hb); have n1_ := Aside0.mk (hbox); have n2_ := Aside0.mk ((by rw [hg]; exact (below_size (by repeat (first | (with_reducible first | exact HB.out | apply below_alloc | apply pw_below_drewN | apply below_drew1) | exact HB.out))) : w.heap.size ≤ gb164)); have n3_ := Aside0.mk ((by rw [hg]; exact (below_size (by repeat (first | (with_reducible first | exact HB.out | apply below_alloc | apply pw_below_drewN | apply below_drew1) | exact HB.out))) : w.heap.size ≤ gb164)); clear HB; have HB := n0_; have BK164 := n1_; have GW164 := n2_; have GE164 := n3_; clear n0_ n1_ n2_ n3_; clear hb hbox hg) | ((with_reducible refine gate_dst (N := 5) rfl ?_); refine box_event ?hg (N := 5) ?hd (cs := #[.int .i64 a2_0, .int .i64 a2_1, .string a2_2]) (t := 104) ?hr ?_; (case hd => rfl); (case hg => rfl); (case hr => first | (go_simp; done) | (go_simp; rfl)); intro gb165 hg w6 hbox hb; have n0_ := Aside0.mk (blk_below (g := gb164) (o := .cells #[.int .i64 a1_0, .int .i64 a1_1, .string a1_2] 104 (0, 0)) (by (with_reducible repeat (first | refine blk_drewN ?_ _ | refine blk_drew ?_ | refine blk_alloc ?_ _)); exact BK164.out) hb); have n1_ := Aside0.mk (below_step (by repeat (first | (with_reducible first | exact HB.out | apply below_alloc | apply pw_below_drewN | apply below_drew1 | refine below_set ?_ GE164.out) | exact HB.out)) hb); have n2_ := Aside0.mk (hbox); have n3_ := Aside0.mk ((by rw [hg]; exact (below_size (by repeat (first | (with_reducible first | exact HB.out | apply below_alloc | apply pw_below_drewN | apply below_drew1 | refine below_set ?_ GE164.out) | exact HB.out))) : w.heap.size ≤ gb165)); have n4_ := Aside0.mk ((by rw [hg]; exact (below_size (by repeat (first | (with_reducible first | exact HB.out | apply below_alloc | apply pw_below_drewN | apply below_drew1 | refine below_set ?_ GE164.out) | exact HB.out))) : w.heap.size ≤ gb165)); have n5_ := Aside0.mk ((by rw [hg]; exact Nat.ne_of_lt (blk_lt (g := gb164) (o := .cells #[.int .i64 a1_0, .int .i64 a1_1, .string a1_2] 104 (0, 0)) (by (with_reducible repeat (first | refine blk_drewN ?_ _ | refine blk_drew ?_ | refine blk_alloc ?_ _)); exact BK164.out)) : gb164 ≠ gb165)); have n6_ := Aside0.mk ((by rw [hg]; exact Nat.ne_of_gt (blk_lt (g := gb164) (o := .cells #[.int .i64 a1_0, .int .i64 a1_1, .string a1_2] 104 (0, 0)) (by (with_reducible repeat (first | refine blk_drewN ?_ _ | refine blk_drew ?_ | refine blk_alloc ?_ _)); exact BK164.out)) : gb165 ≠ gb164)); clear BK164; clear HB; have BK164 := n0_; have HB := n1_; have BK165 := n2_; have GW165 := n3_; have GE165 := n4_; have NB164_165 := n5_; have NB165_164 := n6_; clear n0_ n1_ n2_ n3_ n4_ n5_ n6_; clear hb hbox hg))
 (try simp only [Act.put, List.setIfInBounds_toArray, List.set_cons_zero, List.set_cons_succ])
 go_cut [7] (fun v7 wc => ∃ (kq : Nat) (x7_3 : Bool), v7 = .bool x7_3 ∧ Aside0 (impl_compare.j0 kq a0 x7_3 a1_0 a1_1 a1_2 a2_0 a2_1 a2_2 = some r) ∧ Aside0 (kq ≤ k) ∧ Aside0 (wc.heap[gb164]? = some (.cells #[.int .i64 a1_0, .int .i64 a1_1, .string a1_2] 104 (0, 0))) ∧ Aside0 (wc.heap[gb165]? = some (.cells #[.int .i64 a2_0, .int .i64 a2_1, .string a2_2] 104 (0, 0))) ∧ Aside0 (Below w.heap.size w wc))
 case first =>
  have H := HC4.out
  clear HC4
  by_cases c7 : a1_0 = 0
  ·rw [if_pos c7] at H
   have c7b0 : (a1_0 == 0) = true := beq_iff_eq.mpr c7
   have c7b1 : (a1_0 != 0) = false := bne_eq_false_iff_eq.mpr c7
   clear c7
   (first | rw [c7b0] | (simp only [i64_w, i32_w]; rw [c7b0]) | skip)
   have H' := Aside0.mk H
   clear H
   have hnb8 := NB164_165.out
   have hnc8 := NB165_164.out
   have hcz9_0 : w6.cell? ⟨gb164, 0, none⟩ = some (.int .i64 a1_0) := (blk_cell BK164.out 0).trans rfl
   have hcz9_1 : w6.cell? ⟨gb164, 1, none⟩ = some (.int .i64 a1_1) := (blk_cell BK164.out 1).trans rfl
   have hcz9_2 : w6.cell? ⟨gb164, 2, none⟩ = some (.string a1_2) := (blk_cell BK164.out 2).trans rfl
   have hfz9_0 := blk_frozen BK164.out 0
   have hfz9_1 := blk_frozen BK164.out 1
   have hfz9_2 := blk_frozen BK164.out 2
   have hcz10_0 : w6.cell? ⟨gb165, 0, none⟩ = some (.int .i64 a2_0) := (blk_cell BK165.out 0).trans rfl
   have hcz10_1 : w6.cell? ⟨gb165, 1, none⟩ = some (.int .i64 a2_1) := (blk_cell BK165.out 1).trans rfl
   have hcz10_2 : w6.cell? ⟨gb165, 2, none⟩ = some (.string a2_2) := (blk_cell BK165.out 2).trans rfl
   have hfz10_0 := blk_frozen BK165.out 0
   have hfz10_1 := blk_frozen BK165.out 1
   have hfz10_2 := blk_frozen BK165.out 2
   go_wp2
   go_meet
   case rel => exact ⟨_, ((a2_0 == 0)), (by first | rfl | (simp; done) | (simp [*]; done)), H', ⟨by first | omega | exact Nat.le_refl _⟩, ⟨by (with_reducible repeat (first | refine blk_drewN ?_ _ | refine blk_drew ?_ | refine blk_alloc ?_ _)); exact BK164.out⟩, ⟨by (with_reducible repeat (first | refine blk_drewN ?_ _ | refine blk_drew ?_ | refine blk_alloc ?_ _)); exact BK165.out⟩, ⟨by repeat (first | (with_reducible first | exact HB.out | apply below_alloc | apply pw_below_drewN | apply below_drew1 | refine below_set ?_ GE164.out | refine below_set ?_ GE165.out) | exact HB.out)⟩⟩
  ·rw [if_neg c7] at H
   have c7b0 : (a1_0 == 0) = false := beq_eq_false_iff_ne.mpr c7
   have c7b1 : (a1_0 != 0) = true := bne_iff_ne.mpr c7
   (first | rw [c7b0] | (simp only [i64_w, i32_w]; rw [c7b0]) | skip)
   have H' := Aside0.mk H
   clear H
   have hnb11 := NB164_165.out
   have hnc11 := NB165_164.out
   have hcz12_0 : w6.cell? ⟨gb164, 0, none⟩ = some (.int .i64 a1_0) := (blk_cell BK164.out 0).trans rfl
   have hcz12_1 : w6.cell? ⟨gb164, 1, none⟩ = some (.int .i64 a1_1) := (blk_cell BK164.out 1).trans rfl
   have hcz12_2 : w6.cell? ⟨gb164, 2, none⟩ = some (.string a1_2) := (blk_cell BK164.out 2).trans rfl
   have hfz12_0 := blk_frozen BK164.out 0
   have hfz12_1 := blk_frozen BK164.out 1
   have hfz12_2 := blk_frozen BK164.out 2
   go_wp2
   go_meet
   case rel => exact ⟨_, (false), (by first | rfl | (simp; done) | (simp [*]; done)), H', ⟨by first | omega | exact Nat.le_refl _⟩, ⟨by (with_reducible repeat (first | refine blk_drewN ?_ _ | refine blk_drew ?_ | refine blk_alloc ?_ _)); exact BK164.out⟩, ⟨by (with_reducible repeat (first | refine blk_drewN ?_ _ | refine blk_drew ?_ | refine blk_alloc ?_ _)); exact BK165.out⟩, ⟨by repeat (first | (with_reducible first | exact HB.out | apply below_alloc | apply pw_below_drewN | apply below_drew1 | refine below_set ?_ GE164.out | refine below_set ?_ GE165.out) | exact HB.out)⟩⟩
 case rest =>
  clear HC4
  try clear c1
  try clear p2
  try clear c6
  try clear c7
  try clear c7b0
  try clear c7b1
  try clear c8
  try clear c11
  try clear hcz10_0
  try clear hcz10_1
  try clear hcz10_2
  try clear hcz12_0
  try clear hcz12_1
  try clear hcz12_2
  try clear hcz9_0
  try clear hcz9_1
  try clear hcz9_2
  try clear hfz10_0
  try clear hfz10_1
  try clear hfz10_2
  try clear hfz12_0
  try clear hfz12_1
  try clear hfz12_2
  try clear hfz9_0
  try clear hfz9_1
  try clear hfz9_2
  obtain ⟨kq, x7_3, rfl, HA, HJ3, BK164, BK165, HB⟩ := hcut
  cases kq with
  | zero => exact absurd HA.out (by simp [impl_compare.j0])
  | succ kj3 =>
   have H := HA.out
   clear HA
   simp only [impl_compare.j0] at H
   by_cases c13 : a0 = 1
   ·rw [if_pos c13] at H
    have c13b0 : (a0 == 1) = true := beq_iff_eq.mpr c13
    have c13b1 : (a0 != 1) = false := bne_eq_false_iff_eq.mpr c13
    clear c13
    obtain rfl := Option.some.inj H
    have hnb14 := NB164_165.out
    have hnc14 := NB165_164.out
    have hcz15_0 : wc.cell? ⟨gb164, 0, none⟩ = some (.int .i64 a1_0) := (blk_cell BK164.out 0).trans rfl
    have hcz15_1 : wc.cell? ⟨gb164, 1, none⟩ = some (.int .i64 a1_1) := (blk_cell BK164.out 1).trans rfl
    have hcz15_2 : wc.cell? ⟨gb164, 2, none⟩ = some (.string a1_2) := (blk_cell BK164.out 2).trans rfl
    have hfz15_0 := blk_frozen BK164.out 0
    have hfz15_1 := blk_frozen BK164.out 1
    have hfz15_2 := blk_frozen BK164.out 2
    have hcz16_0 : wc.cell? ⟨gb165, 0, none⟩ = some (.int .i64 a2_0) := (blk_cell BK165.out 0).trans rfl
    have hcz16_1 : wc.cell? ⟨gb165, 1, none⟩ = some (.int .i64 a2_1) := (blk_cell BK165.out 1).trans rfl
    have hcz16_2 : wc.cell? ⟨gb165, 2, none⟩ = some (.string a2_2) := (blk_cell BK165.out 2).trans rfl
    have hfz16_0 := blk_frozen BK165.out 0
    have hfz16_1 := blk_frozen BK165.out 1
    have hfz16_2 := blk_frozen BK165.out 2
    go_wp2
    go_ret
    exact ⟨by first | rfl | (simp [errW_none, errW_some] <;> rfl) | (simp [*, errW_none, errW_some] <;> rfl), by repeat (first | (with_reducible first | exact HB.out | apply below_alloc | apply pw_below_drewN | apply below_drew1 | refine below_set ?_ GE164.out | refine below_set ?_ GE165.out) | exact HB.out)⟩
   ·rw [if_neg c13] at H
    have c13b0 : (a0 == 1) = false := beq_eq_false_iff_ne.mpr c13
    have c13b1 : (a0 != 1) = true := bne_iff_ne.mpr c13
    by_cases c17 : a0 = 2
    ·rw [if_pos c17] at H
     have c17b0 : (a0 == 2) = true := beq_iff_eq.mpr c17
     have c17b1 : (a0 != 2) = false := bne_eq_false_iff_eq.mpr c17
     clear c17
     obtain rfl := Option.some.inj H
     have hnb18 := NB164_165.out
     have hnc18 := NB165_164.out
     have hcz19_0 : wc.cell? ⟨gb164, 0, none⟩ = some (.int .i64 a1_0) := (blk_cell BK164.out 0).trans rfl
     have hcz19_1 : wc.cell? ⟨gb164, 1, none⟩ = some (.int .i64 a1_1) := (blk_cell BK164.out 1).trans rfl
     have hcz19_2 : wc.cell? ⟨gb164, 2, none⟩ = some (.string a1_2) := (blk_cell BK164.out 2).trans rfl
     have hfz19_0 := blk_frozen BK164.out 0
     have hfz19_1 := blk_frozen BK164.out 1
     have hfz19_2 := blk_frozen BK164.out 2
     have hcz20_0 : wc.cell? ⟨gb165, 0, none⟩ = some (.int .i64 a2_0) := (blk_cell BK165.out 0).trans rfl
     have hcz20_1 : wc.cell? ⟨gb165, 1, none⟩ = some (.int .i64 a2_1) := (blk_cell BK165.out 1).trans rfl
     have hcz20_2 : wc.cell? ⟨gb165, 2, none⟩ = some (.string a2_2) := (blk_cell BK165.out 2).trans rfl
     have hfz20_0 := blk_frozen BK165.out 0
     have hfz20_1 := blk_frozen BK165.out 1
     have hfz20_2 := blk_frozen BK165.out 2
     go_wp2
     go_ret
     exact ⟨by first | rfl | (simp [errW_none, errW_some] <;> rfl) | (simp [*, errW_none, errW_some] <;> rfl), by repeat (first | (with_reducible first | exact HB.out | apply below_alloc | apply pw_below_drewN | apply below_drew1 | refine below_set ?_ GE164.out | refine below_set ?_ GE165.out) | exact HB.out)⟩
    ·rw [if_neg c17] at H
     have c17b0 : (a0 == 2) = false := beq_eq_false_iff_ne.mpr c17
     have c17b1 : (a0 != 2) = true := bne_iff_ne.mpr c17
     by_cases c21 : a0 = 3
     ·rw [if_pos c21] at H
      have c21b0 : (a0 == 3) = true := beq_iff_eq.mpr c21
      have c21b1 : (a0 != 3) = false := bne_eq_false_iff_eq.mpr c21
      clear c21
      by_cases c22 : x7_3 = true
      ·subst c22
       have H1 : (some (decide (a1_1 < a2_1))) = some r := by first | (rw [if_pos rfl] at H; exact H) | rfl
       clear H
       have H := H1
       clear H1
       obtain rfl := Option.some.inj H
       have hnb23 := NB164_165.out
       have hnc23 := NB165_164.out
       have hcz24_0 : wc.cell? ⟨gb164, 0, none⟩ = some (.int .i64 a1_0) := (blk_cell BK164.out 0).trans rfl
       have hcz24_1 : wc.cell? ⟨gb164, 1, none⟩ = some (.int .i64 a1_1) := (blk_cell BK164.out 1).trans rfl
       have hcz24_2 : wc.cell? ⟨gb164, 2, none⟩ = some (.string a1_2) := (blk_cell BK164.out 2).trans rfl
       have hfz24_0 := blk_frozen BK164.out 0
       have hfz24_1 := blk_frozen BK164.out 1
       have hfz24_2 := blk_frozen BK164.out 2
       have hcz25_0 : wc.cell? ⟨gb165, 0, none⟩ = some (.int .i64 a2_0) := (blk_cell BK165.out 0).trans rfl
       have hcz25_1 : wc.cell? ⟨gb165, 1, none⟩ = some (.int .i64 a2_1) := (blk_cell BK165.out 1).trans rfl
       have hcz25_2 : wc.cell? ⟨gb165, 2, none⟩ = some (.string a2_2) := (blk_cell BK165.out 2).trans rfl
       have hfz25_0 := blk_frozen BK165.out 0
       have hfz25_1 := blk_frozen BK165.out 1
       have hfz25_2 := blk_frozen BK165.out 2
       go_wp2
       go_ret
       exact ⟨by first | rfl | (simp [errW_none, errW_some] <;> rfl) | (simp [*, errW_none, errW_some] <;> rfl), by repeat (first | (with_reducible first | exact HB.out | apply below_alloc | apply pw_below_drewN | apply below_drew1 | refine below_set ?_ GE164.out | refine below_set ?_ GE165.out) | exact HB.out)⟩
      ·replace c22 := Bool.eq_false_iff.mpr c22
       subst c22
       have H1 : (some false) = some r := by first | (rw [if_neg (show ¬ (false = true) by decide)] at H; exact H) | rfl
       clear H
       have H := H1
       clear H1
       obtain rfl := Option.some.inj H
       go_wp2
       go_ret
       exact ⟨by first | rfl | (simp [errW_none, errW_some] <;> rfl) | (simp [*, errW_none, errW_some] <;> rfl), by repeat (first | (with_reducible first | exact HB.out | apply below_alloc | apply pw_below_drewN | apply below_drew1 | refine below_set ?_ GE164.out | refine below_set ?_ GE165.out) | exact HB.out)⟩
     ·rw [if_neg c21] at H
      have c21b0 : (a0 == 3) = false := beq_eq_false_iff_ne.mpr c21
      have c21b1 : (a0 != 3) = true := bne_iff_ne.mpr c21
      by_cases c26 : a0 = 4
      ·rw [if_pos c26] at H
       have c26b0 : (a0 == 4) = true := beq_iff_eq.mpr c26
       have c26b1 : (a0 != 4) = false := bne_eq_false_iff_eq.mpr c26
       clear c26
       by_cases c27 : x7_3 = true
       ·subst c27
        have H1 : (some (decide (a1_1 > a2_1))) = some r := by first | (rw [if_pos rfl] at H; exact H) | rfl
        clear H
        have H := H1
        clear H1
        obtain rfl := Option.some.inj H
        have hnb28 := NB164_165.out
        have hnc28 := NB165_164.out
        have hcz29_0 : wc.cell? ⟨gb164, 0, none⟩ = some (.int .i64 a1_0) := (blk_cell BK164.out 0).trans rfl
        have hcz29_1 : wc.cell? ⟨gb164, 1, none⟩ = some (.int .i64 a1_1) := (blk_cell BK164.out 1).trans rfl
        have hcz29_2 : wc.cell? ⟨gb164, 2, none⟩ = some (.string a1_2) := (blk_cell BK164.out 2).trans rfl
        have hfz29_0 := blk_frozen BK164.out 0
        have hfz29_1 := blk_frozen BK164.out 1
        have hfz29_2 := blk_frozen BK164.out 2
        have hcz30_0 : wc.cell? ⟨gb165, 0, none⟩ = some (.int .i64 a2_0) := (blk_cell BK165.out 0).trans rfl
        have hcz30_1 : wc.cell? ⟨gb165, 1, none⟩ = some (.int .i64 a2_1) := (blk_cell BK165.out 1).trans rfl
        have hcz30_2 : wc.cell? ⟨gb165, 2, none⟩ = some (.string a2_2) := (blk_cell BK165.out 2).trans rfl
        have hfz30_0 := blk_frozen BK165.out 0
        have hfz30_1 := blk_frozen BK165.out 1
        have hfz30_2 := blk_frozen BK165.out 2
        go_wp2
        go_ret
        exact ⟨by first | rfl | (simp [errW_none, errW_some] <;> rfl) | (simp [*, errW_none, errW_some] <;> rfl), by repeat (first | (with_reducible first | exact HB.out | apply below_alloc | apply pw_below_drewN | apply below_drew1 | refine below_set ?_ GE164.out | refine below_set ?_ GE165.out) | exact HB.out)⟩
       ·replace c27 := Bool.eq_false_iff.mpr c27
        subst c27
        have H1 : (some false) = some r := by first | (rw [if_neg (show ¬ (false = true) by decide)] at H; exact H) | rfl
        clear H
        have H := H1
        clear H1
        obtain rfl := Option.some.inj H
        go_wp2
        go_ret
        exact ⟨by first | rfl | (simp [errW_none, errW_some] <;> rfl) | (simp [*, errW_none, errW_some] <;> rfl), by repeat (first | (with_reducible first | exact HB.out | apply below_alloc | apply pw_below_drewN | apply below_drew1 | refine below_set ?_ GE164.out | refine below_set ?_ GE165.out) | exact HB.out)⟩
      ·rw [if_neg c26] at H
       have c26b0 : (a0 == 4) = false := beq_eq_false_iff_ne.mpr c26
       have c26b1 : (a0 != 4) = true := bne_iff_ne.mpr c26
       by_cases c31 : a0 = 5
       ·rw [if_pos c31] at H
        have c31b0 : (a0 == 5) = true := beq_iff_eq.mpr c31
        have c31b1 : (a0 != 5) = false := bne_eq_false_iff_eq.mpr c31
        clear c31
        by_cases c32 : x7_3 = true
        ·subst c32
         have H1 : (some (decide (a1_1 ≤ a2_1))) = some r := by first | (rw [if_pos rfl] at H; exact H) | rfl
         clear H
         have H := H1
         clear H1
         obtain rfl := Option.some.inj H
         have hnb33 := NB164_165.out
         have hnc33 := NB165_164.out
         have hcz34_0 : wc.cell? ⟨gb164, 0, none⟩ = some (.int .i64 a1_0) := (blk_cell BK164.out 0).trans rfl
         have hcz34_1 : wc.cell? ⟨gb164, 1, none⟩ = some (.int .i64 a1_1) := (blk_cell BK164.out 1).trans rfl
         have hcz34_2 : wc.cell? ⟨gb164, 2, none⟩ = some (.string a1_2) := (blk_cell BK164.out 2).trans rfl
         have hfz34_0 := blk_frozen BK164.out 0
         have hfz34_1 := blk_frozen BK164.out 1
         have hfz34_2 := blk_frozen BK164.out 2
         have hcz35_0 : wc.cell? ⟨gb165, 0, none⟩ = some (.int .i64 a2_0) := (blk_cell BK165.out 0).trans rfl
         have hcz35_1 : wc.cell? ⟨gb165, 1, none⟩ = some (.int .i64 a2_1) := (blk_cell BK165.out 1).trans rfl
         have hcz35_2 : wc.cell? ⟨gb165, 2, none⟩ = some (.string a2_2) := (blk_cell BK165.out 2).trans rfl
         have hfz35_0 := blk_frozen BK165.out 0
         have hfz35_1 := blk_frozen BK165.out 1
         have hfz35_2 := blk_frozen BK165.out 2
         go_wp2
         go_ret
         exact ⟨by first | rfl | (simp [errW_none, errW_some] <;> rfl) | (simp [*, errW_none, errW_some] <;> rfl), by repeat (first | (with_reducible first | exact HB.out | apply below_alloc | apply pw_below_drewN | apply below_drew1 | refine below_set ?_ GE164.out | refine below_set ?_ GE165.out) | exact HB.out)⟩
        ·replace c32 := Bool.eq_false_iff.mpr c32
         subst c32
         have H1 : (some false) = some r := by first | (rw [if_neg (show ¬ (false = true) by decide)] at H; exact H) | rfl
         clear H
         have H := H1
         clear H1
         obtain rfl := Option.some.inj H
         go_wp2
         go_ret
         exact ⟨by first | rfl | (simp [errW_none, errW_some] <;> rfl) | (simp [*, errW_none, errW_some] <;> rfl), by repeat (first | (with_reducible first | exact HB.out | apply below_alloc | apply pw_below_drewN | apply below_drew1 | refine below_set ?_ GE164.out | refine below_set ?_ GE165.out) | exact HB.out)⟩
       ·rw [if_neg c31] at H
        have c31b0 : (a0 == 5) = false := beq_eq_false_iff_ne.mpr c31
        have c31b1 : (a0 != 5) = true := bne_iff_ne.mpr c31
        by_cases c36 : a0 = 6
        ·rw [if_pos c36] at H
         have c36b0 : (a0 == 6) = true := beq_iff_eq.mpr c36
         have c36b1 : (a0 != 6) = false := bne_eq_false_iff_eq.mpr c36
         clear c36
         by_cases c37 : x7_3 = true
         ·subst c37
          have H1 : (some (decide (a1_1 ≥ a2_1))) = some r := by first | (rw [if_pos rfl] at H; exact H) | rfl
          clear H
          have H := H1
          clear H1
          obtain rfl := Option.some.inj H
          have hnb38 := NB164_165.out
          have hnc38 := NB165_164.out
          have hcz39_0 : wc.cell? ⟨gb164, 0, none⟩ = some (.int .i64 a1_0) := (blk_cell BK164.out 0).trans rfl
          have hcz39_1 : wc.cell? ⟨gb164, 1, none⟩ = some (.int .i64 a1_1) := (blk_cell BK164.out 1).trans rfl
          have hcz39_2 : wc.cell? ⟨gb164, 2, none⟩ = some (.string a1_2) := (blk_cell BK164.out 2).trans rfl
          have hfz39_0 := blk_frozen BK164.out 0
          have hfz39_1 := blk_frozen BK164.out 1
          have hfz39_2 := blk_frozen BK164.out 2
          have hcz40_0 : wc.cell? ⟨gb165, 0, none⟩ = some (.int .i64 a2_0) := (blk_cell BK165.out 0).trans rfl
          have hcz40_1 : wc.cell? ⟨gb165, 1, none⟩ = some (.int .i64 a2_1) := (blk_cell BK165.out 1).trans rfl
          have hcz40_2 : wc.cell? ⟨gb165, 2, none⟩ = some (.string a2_2) := (blk_cell BK165.out 2).trans rfl
          have hfz40_0 := blk_frozen BK165.out 0
          have hfz40_1 := blk_frozen BK165.out 1
          have hfz40_2 := blk_frozen BK165.out 2
          go_wp2
          go_ret
          exact ⟨by first | rfl | (simp [errW_none, errW_some] <;> rfl) | (simp [*, errW_none, errW_some] <;> rfl), by repeat (first | (with_reducible first | exact HB.out | apply below_alloc | apply pw_below_drewN | apply below_drew1 | refine below_set ?_ GE164.out | refine below_set ?_ GE165.out) | exact HB.out)⟩
         ·replace c37 := Bool.eq_false_iff.mpr c37
          subst c37
          have H1 : (some false) = some r := by first | (rw [if_neg (show ¬ (false = true) by decide)] at H; exact H) | rfl
          clear H
          have H := H1
          clear H1
          obtain rfl := Option.some.inj H
          go_wp2
          go_ret
          exact ⟨by first | rfl | (simp [errW_none, errW_some] <;> rfl) | (simp [*, errW_none, errW_some] <;> rfl), by repeat (first | (with_reducible first | exact HB.out | apply below_alloc | apply pw_below_drewN | apply below_drew1 | refine below_set ?_ GE164.out | refine below_set ?_ GE165.out) | exact HB.out)⟩
        ·rw [if_neg c36] at H
         have c36b0 : (a0 == 6) = false := beq_eq_false_iff_ne.mpr c36
         have c36b1 : (a0 != 6) = true := bne_iff_ne.mpr c36
         obtain rfl := Option.some.inj H
         go_wp2
         go_ret
         exact ⟨by first | rfl | (simp [errW_none, errW_some] <;> rfl) | (simp [*, errW_none, errW_some] <;> rfl), by repeat (first | (with_reducible first | exact HB.out | apply below_alloc | apply pw_below_drewN | apply below_drew1 | refine below_set ?_ GE164.out | refine below_set ?_ GE165.out) | exact HB.out)⟩
end Go.Proofs.Ytoncacdehhmpaaa.P
namespace Go.Proofs.Ytoncacdehhmpaaa.P
open Go.RowKit Go.Proofs.YtoncacdehhmpaaaW.PrintWords Go.Proofs.YtoncacdehhmpaaaW.PrintLast Go.Proofs.YtoncacdehhmpaaaW.PrintMore
attribute [local go_sem] max2_int min2_int max_two min_two max_three min_three max_four min_four
set_option linter.unusedVariables false
set_option linter.unusedSimpArgs false
def cmpB (op : Int) (a b : S104) : Bool := (impl_compare.f 2 op a.f0 a.f1 a.f2 b.f0 b.f1 b.f2).getD false
theorem cmpB_some (op : Int) (a b : S104) : impl_compare.f 2 op a.f0 a.f1 a.f2 b.f0 b.f1 b.f2 = some (cmpB op a b) := by
 unfold cmpB
 have : ∃ r, impl_compare.f 2 op a.f0 a.f1 a.f2 b.f0 b.f1 b.f2 = some r := by
  unfold impl_compare.f
  simp only [impl_compare.j0]
  repeat' split
  all_goals exact ⟨_, rfl⟩
 obtain ⟨r, hr⟩ := this
 rw [hr]; rfl
def alphaBad (slots : List S104) (t : S106) : Bool :=
 if t.f0 < 0 then true else if t.f0 ≥ slots.length then true else if t.f2 < -1 then true else if t.f2 ≥ slots.length then true
 else !(cmpB t.f1 (rd_T104 slots t.f0) (if t.f2 ≥ 0 then rd_T104 slots t.f2 else t.f3))
open Go.Proofs.YtoncacdehhmpaaaX in
set_option maxHeartbeats 4000000 in
set_option maxRecDepth 100000 in
theorem alphaPass1.calls (t : S106) (slots : List S104) (A : Option Addr) (c b1 b2 : Nat) (w : World)
  (hn : w.cell? ⟨b1, 0, none⟩ = some (.int .i64 slots.length)) (hf : w.cell? ⟨b2, 2, none⟩ = some (.slice A slots.length c)) (hr : Kd.C k104 w A slots.length slots) (hc : slots.length ≤ c) (hm : slots.length ≤ bigN) :
  Calls Try.prog 62 (#[encAlphaTest t] ++ #[.pointer (some ⟨b1, 0, none⟩), .pointer (some ⟨b2, 0, none⟩)]) w fun e w' => e = .returned (.bool (alphaBad slots t)) ∧ Below w.heap.size w w' := by
 have hm := le_of_bigN hm
 have hu0 := Try.underlying104
 have hu1 := Try.underlying106
 have hb1 := World.block_lt_of_cell? w _ hn
 have hb2 := World.block_lt_of_cell? w _ hf
 obtain ⟨t0, t1, t2, ⟨v0, v1, v2⟩⟩ := t
 have HR := Aside0.mk hr
 have HC := Aside0.mk hc
 have HB := Aside0.mk (Below.refl w.heap.size w)
 clear hr hc
 have ea : #[encAlphaTest ⟨t0, t1, t2, ⟨v0, v1, v2⟩⟩] ++ #[.pointer (some ⟨b1, 0, none⟩), .pointer (some ⟨b2, 0, none⟩)] = #[.agg #[.int .i64 t0, .int .i64 t1, .int .i64 t2, .int .i64 v0, .int .i64 v1, .string v2], .pointer (some ⟨b1, 0, none⟩), .pointer (some ⟨b2, 0, none⟩)] := rfl
 rw [ea]
 clear ea
 by_cases h1 : t0 < 0
 ·have q1 : decide (t0 < 0) = true := decide_eq_true h1
  rw [show alphaBad slots ⟨t0, t1, t2, ⟨v0, v1, v2⟩⟩ = true by simp [alphaBad, h1]]
  clear h1
  go_enter Try.func62, Try.ntmps62
  go_wp2
  go_ret
  exact ⟨rfl, by repeat (first | exact HB.out | apply below_alloc)⟩
 have q1 : decide (t0 < 0) = false := decide_eq_false h1
 by_cases h2 : t0 ≥ slots.length
 ·have q2 : decide ((slots.length : Int) ≤ t0) = true := decide_eq_true h2
  rw [show alphaBad slots ⟨t0, t1, t2, ⟨v0, v1, v2⟩⟩ = true by simp only [alphaBad]; rw [if_neg h1, if_pos h2]]
  clear h1 h2
  go_enter Try.func62, Try.ntmps62
  go_wp2
  go_ret
  exact ⟨rfl, by repeat (first | exact HB.out | apply below_alloc)⟩
 have q2 : decide ((slots.length : Int) ≤ t0) = false := decide_eq_false h2
 by_cases h3 : t2 < -1
 ·have q3 : decide (t2 < -1) = true := decide_eq_true h3
  rw [show alphaBad slots ⟨t0, t1, t2, ⟨v0, v1, v2⟩⟩ = true by simp only [alphaBad]; rw [if_neg h1, if_neg h2, if_pos h3]]
  clear h1 h2 h3
  go_enter Try.func62, Try.ntmps62
  go_wp2
  go_ret
  exact ⟨rfl, by repeat (first | exact HB.out | apply below_alloc)⟩
 have q3 : decide (t2 < -1) = false := decide_eq_false h3
 by_cases h4 : t2 ≥ slots.length
 ·have q4 : decide ((slots.length : Int) ≤ t2) = true := decide_eq_true h4
  rw [show alphaBad slots ⟨t0, t1, t2, ⟨v0, v1, v2⟩⟩ = true by simp only [alphaBad]; rw [if_neg h1, if_neg h2, if_neg h3, if_pos h4]]
  clear h1 h2 h3 h4
  go_enter Try.func62, Try.ntmps62
  go_wp2
  go_ret
  exact ⟨rfl, by repeat (first | exact HB.out | apply below_alloc)⟩
 have q4 : decide ((slots.length : Int) ≤ t2) = false := decide_eq_false h4
 obtain ⟨ad, e0, hx0, hx1, hx2⟩ := at_T104 HR.out t0 (by omega) (by omega)
 cases e0
 have hb3 := World.block_lt_of_cell? w _ hx0
 have p0 : 0 ≤ t0 := by omega
 have p1 : t0 < (slots.length : Int) := by omega
 by_cases h5 : t2 ≥ 0
 ·have q5 : decide (0 ≤ t2) = true := decide_eq_true h5
  rw [show alphaBad slots ⟨t0, t1, t2, ⟨v0, v1, v2⟩⟩ = !(cmpB t1 (rd_T104 slots t0) (rd_T104 slots t2)) by simp only [alphaBad]; rw [if_neg h1, if_neg h2, if_neg h3, if_neg h4, if_pos h5]]
  obtain ⟨ad', e0', hy0, hy1, hy2⟩ := at_T104 HR.out t2 (by omega) (by omega)
  cases e0'
  have hb4 := World.block_lt_of_cell? w _ hy0
  have p2 : 0 ≤ t2 := by omega
  have p3 : t2 < (slots.length : Int) := by omega
  clear h1 h2 h3 h4 h5
  go_enter Try.func62, Try.ntmps62
  go_wp2
  go_region_held3 (fun w' => w'.cell? ⟨w.heap.size, 0, none⟩ = some (.int .i64 t0) ∧ w'.cell? ⟨w.heap.size, 1, none⟩ = some (.int .i64 t1) ∧ w'.cell? ⟨b2, 2, none⟩ = some (.slice (some ad) slots.length c) ∧ w'.cell? (ad.add (t0.toNat * 3)) = some (.int .i64 (rd_T104 slots t0).f0) ∧ w'.cell? ⟨(ad.add (t0.toNat * 3)).block, (ad.add (t0.toNat * 3)).off + 1, none⟩ = some (.int .i64 (rd_T104 slots t0).f1) ∧ w'.cell? ⟨(ad.add (t0.toNat * 3)).block, (ad.add (t0.toNat * 3)).off + 2, none⟩ = some (.string (rd_T104 slots t0).f2) ∧ w'.cell? ⟨w.heap.size + 1, 0, none⟩ = some (.int .i64 (rd_T104 slots t2).f0) ∧ w'.cell? ⟨w.heap.size + 1, 1, none⟩ = some (.int .i64 (rd_T104 slots t2).f1) ∧ w'.cell? ⟨w.heap.size + 1, 2, none⟩ = some (.string (rd_T104 slots t2).f2)) ((first | go_keep | (refine ⟨?_, ?_, ?_, ?_, ?_, ?_, ?_, ?_, ?_⟩ <;> refine (hd.cell ?_).trans ?_ <;> first | (go_simp; done) | (go_simp; omega))))
   (first | (go_at_call 63; refine (impl_compare.calls 2 _ _ _ _ _ _ _ _ _ (cmpB_some t1 (rd_T104 slots t0) (rd_T104 slots t2))).mono ?_; rintro e w' ⟨rfl, hd⟩))
  go_wp2
  go_ret
  refine ⟨rfl, below_then ?_ ?_ hd⟩
  ·repeat (first | exact HB.out | apply below_drew | apply below_alloc)
  ·simp; omega
 ·have q5 : decide (0 ≤ t2) = false := decide_eq_false h5
  rw [show alphaBad slots ⟨t0, t1, t2, ⟨v0, v1, v2⟩⟩ = !(cmpB t1 (rd_T104 slots t0) ⟨v0, v1, v2⟩) by simp only [alphaBad]; rw [if_neg h1, if_neg h2, if_neg h3, if_neg h4, if_neg h5]]
  clear h1 h2 h3 h4 h5
  go_enter Try.func62, Try.ntmps62
  go_wp2
  go_region_held3 (fun w' => w'.cell? ⟨w.heap.size, 0, none⟩ = some (.int .i64 t0) ∧ w'.cell? ⟨w.heap.size, 1, none⟩ = some (.int .i64 t1) ∧ w'.cell? ⟨b2, 2, none⟩ = some (.slice (some ad) slots.length c) ∧ w'.cell? (ad.add (t0.toNat * 3)) = some (.int .i64 (rd_T104 slots t0).f0) ∧ w'.cell? ⟨(ad.add (t0.toNat * 3)).block, (ad.add (t0.toNat * 3)).off + 1, none⟩ = some (.int .i64 (rd_T104 slots t0).f1) ∧ w'.cell? ⟨(ad.add (t0.toNat * 3)).block, (ad.add (t0.toNat * 3)).off + 2, none⟩ = some (.string (rd_T104 slots t0).f2) ∧ w'.cell? ⟨w.heap.size + 1, 0, none⟩ = some (.int .i64 v0) ∧ w'.cell? ⟨w.heap.size + 1, 1, none⟩ = some (.int .i64 v1) ∧ w'.cell? ⟨w.heap.size + 1, 2, none⟩ = some (.string v2)) ((first | go_keep | (refine ⟨?_, ?_, ?_, ?_, ?_, ?_, ?_, ?_, ?_⟩ <;> refine (hd.cell ?_).trans ?_ <;> first | (go_simp; done) | (go_simp; omega))))
   (first | (go_at_call 63; refine (impl_compare.calls 2 _ _ _ _ _ _ _ _ _ (cmpB_some t1 (rd_T104 slots t0) ⟨v0, v1, v2⟩)).mono ?_; rintro e w' ⟨rfl, hd⟩))
  go_wp2
  go_ret
  refine ⟨rfl, below_then ?_ ?_ hd⟩
  ·repeat (first | exact HB.out | apply below_drew | apply below_alloc)
  ·simp; omega
def alphaPassB (cls : ByteArray) (arity : Int) (tests : List S106) (fcls : ByteArray) (slots : List S104) : Bool :=
 if fcls.toList = cls.toList then (if (slots.length : Int) = arity then !(tests.any (alphaBad slots)) else false) else false
open Go.Proofs.YtoncacdehhmpaaaX in
def impl_AlphaPass.f (a0_0 : ByteArray) (a0_1 : Int) (l0_2 : List S106) (a1_0 : Int) (a1_1 : ByteArray) (l1_2 : List S104) : Option Bool :=
 if l0_2.length ≤ bigN ∧ l1_2.length ≤ bigN then some (alphaPassB a0_0 a0_1 l0_2 a1_1 l1_2) else none
open Go.Proofs.YtoncacdehhmpaaaX in
set_option maxHeartbeats 4000000 in
set_option maxRecDepth 100000 in
theorem impl_AlphaPass.calls (a0_0 : ByteArray) (a0_1 : Int) (A0_2 : Option Addr) (c0_2 : Nat) (l0_2 : List S106) (a1_0 : Int) (a1_1 : ByteArray) (A1_2 : Option Addr) (c1_2 : Nat) (l1_2 : List S104) (r : Bool) (w : World)
  (hr0_2 : Kd.C k106 w A0_2 l0_2.length l0_2) (hc0_2 : l0_2.length ≤ c0_2) (hr1_2 : Kd.C k104 w A1_2 l1_2.length l1_2) (hc1_2 : l1_2.length ≤ c1_2) (h : impl_AlphaPass.f a0_0 a0_1 l0_2 a1_0 a1_1 l1_2 = some r) :
  Calls Try.prog 15 #[.agg #[.string a0_0, .int .i64 a0_1, .slice A0_2 l0_2.length c0_2], .agg #[.int .i64 a1_0, .string a1_1, .slice A1_2 l1_2.length c1_2]] w fun e w' => e = .returned (.bool r) ∧ Below w.heap.size w w' := by
 unfold impl_AlphaPass.f at h
 split at h
 case isFalse => cases h
 case isTrue hm =>
 obtain ⟨hm0, hm1⟩ := hm
 have h := Option.some.inj h
 subst h
 have hu0 := Try.underlying104
 have hu1 := Try.underlying106
 have hu2 := Try.underlying34
 have hu3 := Try.underlying38
 have HM0 := Aside0.mk hm0
 have HM1 := Aside0.mk hm1
 have HR0 := Aside0.mk hr0_2
 have HC0 := Aside0.mk hc0_2
 have HR1 := Aside0.mk hr1_2
 have HC1 := Aside0.mk hc1_2
 have HB := Aside0.mk (Below.refl w.heap.size w)
 clear hm0 hm1 hr0_2 hc0_2 hr1_2 hc1_2
 by_cases h1 : a1_1.toList = a0_0.toList
 ·have q1 : (a1_1.toList == a0_0.toList) = true := beq_iff_eq.mpr h1
  have q1' : (a1_1.toList != a0_0.toList) = false := bne_eq_false_iff_eq.mpr h1
  by_cases h2 : (l1_2.length : Int) = a0_1
  ·have q2 : ((l1_2.length : Int) == a0_1) = true := beq_iff_eq.mpr h2
   have q2' : ((l1_2.length : Int) != a0_1) = false := bne_eq_false_iff_eq.mpr h2
   have hv : alphaPassB a0_0 a0_1 l0_2 a1_1 l1_2 = !(l0_2.any (alphaBad l1_2)) := by unfold alphaPassB; rw [if_pos h1, if_pos h2]
   rw [hv]
   clear h1 h2 hv
   go_enter Try.func15, Try.ntmps15
   go_wp2_with (go_at_call 61; refine (containsAlphaTest.calls 62 _ ?eg (alphaBad l1_2) _ _ l0_2 _ ?hr HC0.out HM0.out ?hp).mono ?hk)
   case hr => exact Kd.C_below HR0.out (by repeat (first | exact HB.out | apply below_alloc))
   case hp =>
    intro W' x _ hb
    have hb0 : Below w.heap.size w W' := below_then (by repeat (first | exact HB.out | apply below_alloc)) (by simp; omega) hb
    refine alphaPass1.calls x l1_2 A1_2 c1_2 _ _ W' ((hb.cell ?_).trans ?_) ((hb.cell ?_).trans ?_) (Kd.C_below HR1.out hb0) HC1.out HM1.out
    all_goals first | (go_simp; done) | (go_simp; omega)
   case hk =>
    rintro e w' rfl hd
    go_wp2
    go_ret
    exact ⟨rfl, Below.trans (by repeat (first | exact HB.out | apply below_drew | apply below_alloc)) (hd.mono (by omega))⟩
  ·have q2 : ((l1_2.length : Int) == a0_1) = false := beq_eq_false_iff_ne.mpr h2
   have q2' : ((l1_2.length : Int) != a0_1) = true := bne_iff_ne.mpr h2
   have hv : alphaPassB a0_0 a0_1 l0_2 a1_1 l1_2 = false := by unfold alphaPassB; rw [if_pos h1, if_neg h2]
   rw [hv]
   clear h1 h2 hv
   go_enter Try.func15, Try.ntmps15
   go_wp2
   go_ret
   exact ⟨rfl, by repeat (first | exact HB.out | apply below_drew | apply below_alloc)⟩
 ·have q1 : (a1_1.toList == a0_0.toList) = false := beq_eq_false_iff_ne.mpr h1
  have q1' : (a1_1.toList != a0_0.toList) = true := bne_iff_ne.mpr h1
  have hv : alphaPassB a0_0 a0_1 l0_2 a1_1 l1_2 = false := by unfold alphaPassB; rw [if_neg h1]
  rw [hv]
  clear h1 hv
  go_enter Try.func15, Try.ntmps15
  go_wp2
  go_ret
  exact ⟨rfl, by repeat (first | exact HB.out | apply below_drew | apply below_alloc)⟩
end Go.Proofs.Ytoncacdehhmpaaa.P
namespace Go.Proofs.Ytoncacdehhmpaaa.P
open Go.RowKit Go.Proofs.YtoncacdehhmpaaaW.PrintWords Go.Proofs.YtoncacdehhmpaaaW.PrintLast Go.Proofs.YtoncacdehhmpaaaW.PrintMore
attribute [local go_sem] max2_int min2_int max_two min_two max_three min_three max_four min_four
set_option linter.unusedVariables false
set_option linter.unusedSimpArgs false
mutual
def impl_AlphaMems.l0 : Nat → List (S38) → List (List Int) → List (S34) → Int → Int → Option ((List (List Int)))
 | 0, _, _, _, _, _ => none
 | k + 1, x1, x5, x18, x19, x20 => if x20 < x19 then (if 0 ≤ x20 then (if x20 < (x18.length : Int) then (impl_AlphaMems.l1 k x1 x5 x20 x18 x19 x20 x1 (x1.length : Int) 0 ((rd_T34 x18 x20).f0) ((rd_T34 x18 x20).f1) ((rd_T34 x18 x20).f2)) else (none)) else (none)) else (some x5)
def impl_AlphaMems.l1 : Nat → List (S38) → List (List Int) → Int → List (S34) → Int → Int → List (S38) → Int → Int → ByteArray → Int → List (S106) → Option ((List (List Int)))
 | 0, _, _, _, _, _, _, _, _, _, _, _, _ => none
 | k + 1, x1, x5, x6, x18, x19, x20, x25, x26, x27, x708000, x708001, x708002 => if x27 < x26 then (if 0 ≤ x27 then (if x27 < (x25.length : Int) then ((impl_AlphaPass.f x708000 x708001 x708002 ((rd_T38 x25 x27).f0) ((rd_T38 x25 x27).f1) ((rd_T38 x25 x27).f2)).bind fun t710 => (if t710 = true then (if 0 ≤ x6 then (if x6 < (x5.length : Int) then (if (rd_L18 x5 x6).length < 17592186044416 then (impl_AlphaMems.l1 k x1 (x5.set (x6 : Int).toNat ((rd_L18 x5 x6) ++ [(rd_T38 x25 x27).f0])) x6 x18 x19 x20 x25 x26 (wrap64 (x27 + 1)) x708000 x708001 x708002) else (none)) else (none)) else (none)) else (impl_AlphaMems.l1 k x1 x5 x6 x18 x19 x20 x25 x26 (wrap64 (x27 + 1)) x708000 x708001 x708002))) else (none)) else (none)) else (impl_AlphaMems.l0 k x1 x5 x18 x19 (wrap64 (x20 + 1)))
end
def impl_AlphaMems.f (k : Nat) (l0_0 : List (S34)) (l0_1 : List (List Int)) (l1 : List (S38)) : Option ((List (List Int))) := (impl_goodFacts.f k l1).bind fun t702 => (if t702 = true then (if 0 ≤ (l0_0.length : Int) then (if ((l0_0.length : Int) : Int).toNat ≤ 11728124029610 then (impl_AlphaMems.l0 k l1 (List.replicate ((l0_0.length : Int) : Int).toNat []) l0_0 (l0_0.length : Int) 0) else (none)) else (none)) else (some ([] : List (List Int))))
theorem impl_AlphaMems.mono_l : ∀ k, (∀ y0 y1 y2 y3 y4, LeO (impl_AlphaMems.l0 k y0 y1 y2 y3 y4) (impl_AlphaMems.l0 (k + 1) y0 y1 y2 y3 y4)) ∧ (∀ y0 y1 y2 y3 y4 y5 y6 y7 y8 y9 y10 y11, LeO (impl_AlphaMems.l1 k y0 y1 y2 y3 y4 y5 y6 y7 y8 y9 y10 y11) (impl_AlphaMems.l1 (k + 1) y0 y1 y2 y3 y4 y5 y6 y7 y8 y9 y10 y11))
 | 0 => ⟨fun _ _ _ _ _ r h => by simp [impl_AlphaMems.l0] at h, fun _ _ _ _ _ _ _ _ _ _ _ _ r h => by simp [impl_AlphaMems.l1] at h⟩
 | k + 1 => by
  obtain ⟨ih0, ih1⟩ := impl_AlphaMems.mono_l k
  refine ⟨?_, ?_⟩
  ·intro y0 y1 y2 y3 y4
   unfold impl_AlphaMems.l0
   repeat' first
   | (with_reducible exact ih0 _ _ _ _ _)
   | (with_reducible exact ih1 _ _ _ _ _ _ _ _ _ _ _ _)
   | (with_reducible exact impl_goodFacts.mono _ _)
   | (with_reducible exact LeO.refl _)
   | (with_reducible exact LeO.none _)
   | (with_reducible refine LeO.ite ?_ ?_)
   | (with_reducible refine LeO.bind ?_ (fun _ => ?_))
   | exact ih0 _ _ _ _ _
   | exact ih1 _ _ _ _ _ _ _ _ _ _ _ _
   | exact impl_goodFacts.mono _ _
   | exact LeO.none _
   | refine LeO.ite ?_ ?_
   | refine LeO.bind ?_ (fun _ => ?_)
  ·intro y0 y1 y2 y3 y4 y5 y6 y7 y8 y9 y10 y11
   unfold impl_AlphaMems.l1
   repeat' first
   | (with_reducible exact ih0 _ _ _ _ _)
   | (with_reducible exact ih1 _ _ _ _ _ _ _ _ _ _ _ _)
   | (with_reducible exact impl_goodFacts.mono _ _)
   | (with_reducible exact LeO.refl _)
   | (with_reducible exact LeO.none _)
   | (with_reducible refine LeO.ite ?_ ?_)
   | (with_reducible refine LeO.bind ?_ (fun _ => ?_))
   | exact ih0 _ _ _ _ _
   | exact ih1 _ _ _ _ _ _ _ _ _ _ _ _
   | exact impl_goodFacts.mono _ _
   | exact LeO.none _
   | refine LeO.ite ?_ ?_
   | refine LeO.bind ?_ (fun _ => ?_)
theorem impl_AlphaMems.mono : ∀ a0 a1 a2 k, LeO (impl_AlphaMems.f k a0 a1 a2) (impl_AlphaMems.f (k + 1) a0 a1 a2) := by
 intro a0 a1 a2 k
 obtain ⟨ih0, ih1⟩ := impl_AlphaMems.mono_l k
 unfold impl_AlphaMems.f
 repeat' first
   | (with_reducible exact ih0 _ _ _ _ _)
   | (with_reducible exact ih1 _ _ _ _ _ _ _ _ _ _ _ _)
   | (with_reducible exact impl_goodFacts.mono _ _)
   | (with_reducible exact LeO.refl _)
   | (with_reducible exact LeO.none _)
   | (with_reducible refine LeO.ite ?_ ?_)
   | (with_reducible refine LeO.bind ?_ (fun _ => ?_))
   | exact ih0 _ _ _ _ _
   | exact ih1 _ _ _ _ _ _ _ _ _ _ _ _
   | exact impl_goodFacts.mono _ _
   | exact LeO.none _
   | refine LeO.ite ?_ ?_
   | refine LeO.bind ?_ (fun _ => ?_)
def impl_AlphaMems.T11 : Bool × List (List Nat × List Nat) := (true, [([], []), ([], []), ([], []), ([], []), ([2, 3], [2, 3]), ([4], [4]), ([], []), ([6], [6]), ([7], [7]), ([5, 8], [5, 8]), ([0, 1, 0, 1, 2, 3, 4, 5, 6, 7, 8, 9], [0, 1]), ([10, 9, 9, 0, 1, 2, 3, 4, 5, 6, 7, 8, 9], [9, 10])])
def impl_AlphaMems.B11 : List Nat := [0, 0, 0, 0, 12, 28, 0, 64, 192, 508, 1023, 2047]
theorem impl_AlphaMems.tab11 : rtab .any (opsOf Try.f42 11) = impl_AlphaMems.T11 := by kernel_rfl
theorem impl_AlphaMems.bits11 : waitsOk impl_AlphaMems.T11.2 impl_AlphaMems.B11 = true := by kernel_rfl
set_option maxHeartbeats 8000000 in
set_option maxRecDepth 100000 in
theorem impl_AlphaMems.calls (k : Nat) (A0_0 : Option Addr) (c0_0 : Nat) (l0_0 : List (S34)) (A0_1 : Option Addr) (c0_1 : Nat) (l0_1 : List (List Int)) (A1 : Option Addr) (c1 : Nat) (l1 : List (S38)) (r : List (List Int)) (w : World) (hr0_0 : Kd.C k34 w A0_0 l0_0.length l0_0) (hc0_0 : l0_0.length ≤ c0_0) (hr0_1 : Kd.C (Kd.slice 3 (Kd.int .i64)) w A0_1 l0_1.length l0_1) (hc0_1 : l0_1.length ≤ c0_1) (hr1 : Kd.C k38 w A1 l1.length l1) (hc1 : l1.length ≤ c1) (h : impl_AlphaMems.f k l0_0 l0_1 l1 = some r) :
  Calls Try.prog 42 #[.agg #[.slice A0_0 l0_0.length c0_0, .slice A0_1 l0_1.length c0_1], .slice A1 l1.length c1] w fun e w' => ∃ v0_ : Value, e = .returned (v0_) ∧ Kd.S (Kd.slice 3 (Kd.int .i64)) 67 w' w.heap.size (fun _ => True) v0_ r ∧ Below w.heap.size w w' := by
 have hu81 := Try.underlying81
 have hu34 := Try.underlying34
 have hu38 := Try.underlying38
 have HR0_0 := Aside0.mk hr0_0
 have HC0_0 := Aside0.mk hc0_0
 clear hr0_0 hc0_0
 have HR0_1 := Aside0.mk hr0_1
 have HC0_1 := Aside0.mk hc0_1
 clear hr0_1 hc0_1
 have HR1 := Aside0.mk hr1
 have HC1 := Aside0.mk hc1
 clear hr1 hc1
 have HB := Aside0.mk (Below.refl w.heap.size w)
 have H : ((impl_goodFacts.f k l1).bind fun t702 => (if t702 = true then (if 0 ≤ (l0_0.length : Int) then (if ((l0_0.length : Int) : Int).toNat ≤ 11728124029610 then (impl_AlphaMems.l0 k l1 (List.replicate ((l0_0.length : Int) : Int).toNat []) l0_0 (l0_0.length : Int) 0) else (none)) else (none)) else (some ([] : List (List Int))))) = some r := h
 clear h
 replace H := Option.bind_eq_some_iff.mp H
 obtain ⟨t702, A30, H⟩ := H
 replace H : (if t702 = true then (if 0 ≤ (l0_0.length : Int) then (if ((l0_0.length : Int) : Int).toNat ≤ 11728124029610 then (impl_AlphaMems.l0 k l1 (List.replicate ((l0_0.length : Int) : Int).toNat []) l0_0 (l0_0.length : Int) 0) else (none)) else (none)) else (some ([] : List (List Int)))) = some r := H
 have A3 := Aside0.mk A30
 clear A30
 by_cases c4 : t702 = true
 ·subst c4
  have H1 : (if 0 ≤ (l0_0.length : Int) then (if ((l0_0.length : Int) : Int).toNat ≤ 11728124029610 then (impl_AlphaMems.l0 k l1 (List.replicate ((l0_0.length : Int) : Int).toNat []) l0_0 (l0_0.length : Int) 0) else (none)) else (none)) = some r := by first | (rw [if_pos rfl] at H; exact H) | rfl
  clear H
  have H := H1
  clear H1
  by_cases c5 : 0 ≤ (l0_0.length : Int)
  ·rw [if_pos c5] at H
   have c5b0 := eq_true c5
   have c5b1 : decide (0 ≤ (l0_0.length : Int)) = true := decide_eq_true c5
   clear c5
   by_cases c6 : ((l0_0.length : Int) : Int).toNat ≤ 11728124029610
   ·rw [if_pos c6] at H
    have c6b0 := eq_true c6
    have c6b1 : decide (((l0_0.length : Int) : Int).toNat ≤ 11728124029610) = true := decide_eq_true c6
    clear c6
    obtain ⟨y703, hy703⟩ : ∃ y_ : List (List Int), y_ = (List.replicate ((l0_0.length : Int) : Int).toNat []) := ⟨_, rfl⟩
    replace H : (impl_AlphaMems.l0 k l1 y703 l0_0 (l0_0.length : Int) 0) = some r := by first | (rw [hy703]; with_reducible exact H) | (have H2_ := (Option.bind_some _ _).symm.trans H; rw [hy703]; with_reducible exact H2_) | (have H2_ := (Option.bind_some _ _).symm.trans H; with_reducible exact H2_) | with_reducible exact H | (rw [hy703]; exact H) | exact H
    have Ny703 := Aside0.mk hy703
    clear hy703
    have H' := Aside0.mk H
    clear H
    go_enter Try.func42, Try.ntmps42
    go_wp2_with (first | ((with_reducible refine gate_dst (N := 2) rfl ?_); refine box_event ?hg (N := 2) ?hd (cs := #[.slice A0_0 l0_0.length c0_0, .slice A0_1 l0_1.length c0_1]) (t := 81) ?hr ?_; (case hd => rfl); (case hg => rfl); (case hr => first | (go_simp; done) | (go_simp; rfl)); intro gb701 hg w7 hbox hb; have n0_ := Aside0.mk (below_step (by repeat (first | (with_reducible first | exact HB.out | apply below_alloc | apply pw_below_drewN | apply below_drew1) | exact HB.out)) hb); have n1_ := Aside0.mk (hbox); have n2_ := Aside0.mk ((by rw [hg]; exact (below_size (by repeat (first | (with_reducible first | exact HB.out | apply below_alloc | apply pw_below_drewN | apply below_drew1) | exact HB.out))) : w.heap.size ≤ gb701)); have n3_ := Aside0.mk ((by rw [hg]; exact (below_size (by repeat (first | (with_reducible first | exact HB.out | apply below_alloc | apply pw_below_drewN | apply below_drew1) | exact HB.out))) : w.heap.size ≤ gb701)); clear HB; have HB := n0_; have BK701 := n1_; have GW701 := n2_; have GE701 := n3_; clear n0_ n1_ n2_ n3_; clear hb hbox hg) | ((with_reducible refine gate_callee (f := 68) rfl ?_); refine goesL_ (some 11) rfl rfl Try.func68 (by kernel_rfl) rfl #[.slice A1 l1.length c1] rfl (by (try simp only [List.map_toArray, List.map_cons, List.map_nil]); first | done | rfl | (simp only [List.length_drop, List.length_take]; rfl)) ?_; (with_reducible refine (impl_goodFacts.calls k _ _ l1 true _ ?side1 ?side2 A3.out).mono ?_); (case side1 => repeat (first | exact (Kd.C_below HR1.out HB.out) | (with_reducible refine Kd.C_alloc ?_ _) | (with_reducible refine Kd.C_drewN ?_ _) | (with_reducible refine Kd.C_drew ?_))); (case side2 => exact HC1.out); rintro e w8 ⟨rfl, hb⟩; refine ⟨_, rfl, ?_⟩; have n0_ := Aside0.mk (blk_below (g := gb701) (o := .cells #[.slice A0_0 l0_0.length c0_0, .slice A0_1 l0_1.length c0_1] 81 (0, 0)) (by (with_reducible repeat (first | refine blk_drewN ?_ _ | refine blk_drew ?_ | refine blk_alloc ?_ _)); exact BK701.out) hb); have n1_ := Aside0.mk (below_step (by repeat (first | (with_reducible first | exact HB.out | apply below_alloc | apply pw_below_drewN | apply below_drew1 | refine below_set ?_ GE701.out) | exact HB.out)) hb); clear BK701; clear HB; have BK701 := n0_; have HB := n1_; clear n0_ n1_; (try clear hb); (try clear hb2); (try clear hk); (try clear hi); have hcz9_0 : w8.cell? ⟨gb701, 0, none⟩ = some (.slice A0_0 l0_0.length c0_0) := (blk_cell BK701.out 0).trans rfl; have hcz9_1 : w8.cell? ⟨gb701, 1, none⟩ = some (.slice A0_1 l0_1.length c0_1) := (blk_cell BK701.out 1).trans rfl; have hfz9_0 := blk_frozen BK701.out 0; have hfz9_1 := blk_frozen BK701.out 1) | ((with_reducible refine gate_dst (N := 16) rfl ?_); refine Kd.S_make (Kd.slice 3 (Kd.int .i64)) _ 67 rfl (N := 16) rfl 73 _ _ rfl (l0_0.length : Int) rfl rfl Try.underlying73 (.slice none 0 0) 24 info67 rfl (by decide) (by omega) [] (ok := fun _ => True) (okp := fun _ => True) ⟨_, rfl, Kd.R_nil _ _ _ _ _⟩ (fun _ hk => hk) trivial (of_decide_eq_true (by first | (with_reducible assumption) | assumption)) (Nat.le_trans (Nat.mul_le_mul_right _ (of_decide_eq_true (by first | (with_reducible assumption) | assumption) : (l0_0.length : Int).toNat ≤ 11728124029610)) (by omega)) (Below.refl _ _) (Nat.le_refl _) ?_; intro v704 w10 ho11 hb hg_ hnew_; clear hg_ hnew_; (first | rw [← Ny703.out] at ho11 | (simp only [Int.reduceToNat] at ho11; rw [← Ny703.out] at ho11)); have n0_ := Aside0.mk (Kd.S_lower ho11 (below_size (by repeat (first | (with_reducible first | exact HB.out | apply below_alloc | apply pw_below_drewN | apply below_drew1 | refine below_set ?_ GE701.out) | exact HB.out)))); have n1_ := Aside0.mk (blk_below (g := gb701) (o := .cells #[.slice A0_0 l0_0.length c0_0, .slice A0_1 l0_1.length c0_1] 81 (0, 0)) (by (with_reducible repeat (first | refine blk_drewN ?_ _ | refine blk_drew ?_ | refine blk_alloc ?_ _)); exact BK701.out) hb); have n2_ := Aside0.mk (below_step (by repeat (first | (with_reducible first | exact HB.out | apply below_alloc | apply pw_below_drewN | apply below_drew1 | refine below_set ?_ GE701.out) | exact HB.out)) hb); clear BK701; clear HB; have HO705 := n0_; have BK701 := n1_; have HB := n2_; clear n0_ n1_ n2_; clear hb ho11; have hcz12_0 : w10.cell? ⟨gb701, 0, none⟩ = some (.slice A0_0 l0_0.length c0_0) := (blk_cell BK701.out 0).trans rfl; have hcz12_1 : w10.cell? ⟨gb701, 1, none⟩ = some (.slice A0_1 l0_1.length c0_1) := (blk_cell BK701.out 1).trans rfl; have hfz12_0 := blk_frozen BK701.out 0; have hfz12_1 := blk_frozen BK701.out 1))
    go_loopg [20] k (fun kq v20 w' => ∃ (x5_1 : List (List Int)) (x20_1 : Int), v20 = .int .i64 x20_1 ∧ Aside0 (impl_AlphaMems.l0 kq l1 x5_1 l0_0 (l0_0.length : Int) x20_1 = some r) ∧ Aside0 (kq ≤ k) ∧ Aside0 (Kd.S (Kd.slice 3 (Kd.int .i64)) 67 w' w.heap.size (fun _ => True) v704 x5_1) ∧ Aside0 (w'.heap[gb701]? = some (.cells #[(.slice A0_0 l0_0.length c0_0), (.slice A0_1 l0_1.length c0_1)] 81 (0, 0))) ∧ Aside0 (Below w.heap.size w w'))
    case atStart => exact ⟨(y703), (0), (by first | rfl | (simp; done) | (simp [*]; done)), H', ⟨Nat.le_refl _⟩, ⟨by (with_reducible repeat (first | apply Kd.S_alloc | apply Kd.S_drewN | apply Kd.S_drew)); exact HO705.out⟩, ⟨by (with_reducible repeat (first | refine blk_drewN ?_ _ | refine blk_drew ?_ | refine blk_alloc ?_ _)); exact BK701.out⟩, ⟨by repeat (first | (with_reducible first | exact HB.out | apply below_alloc | apply pw_below_drewN | apply below_drew1 | refine below_set ?_ GE701.out) | exact HB.out)⟩⟩
    case round =>
     clear H'
     try clear c1
     try clear p2
     try clear c4
     try clear c5
     try clear c5b0
     try clear c5b1
     try clear c6
     try clear c6b0
     try clear c6b1
     try clear hcz12_0
     try clear hcz12_1
     try clear hcz9_0
     try clear hcz9_1
     try clear hfz12_0
     try clear hfz12_1
     try clear hfz9_0
     try clear hfz9_1
     obtain ⟨x5_1, x20_1, rfl, HA, HK1, HO_5, BK701, HB⟩ := hrel
     cases gk with
     | zero => exact absurd HA.out (by simp [impl_AlphaMems.l0])
     | succ k1 =>
      have H := HA.out
      clear HA
      simp only [impl_AlphaMems.l0] at H
      by_cases c13 : x20_1 < (l0_0.length : Int)
      ·rw [if_pos c13] at H
       have c13b0 : decide (x20_1 < (l0_0.length : Int)) = true := decide_eq_true c13
       clear c13
       by_cases c14 : 0 ≤ x20_1
       ·rw [if_pos c14] at H
        have c14b0 : decide (0 ≤ x20_1) = true := decide_eq_true c14
        clear c14
        by_cases c15 : x20_1 < (l0_0.length : Int)
        ·rw [if_pos c15] at H
         have c15b0 : decide (x20_1 < (l0_0.length : Int)) = true := decide_eq_true c15
         clear c15
         have H' := Aside0.mk H
         clear H
         have p706 : 0 ≤ (x20_1 : Int) := of_decide_eq_true (by first | (with_reducible assumption) | assumption)
         have q706 : x20_1 < (l0_0.length : Int) := of_decide_eq_true (by first | (with_reducible assumption) | assumption)
         obtain ⟨ad706, A706_2, c706_2, e706, hx706_0, hx706_1, hx706_2, hl706_2, hi706_2⟩ := at_T34 HR0_0.out x20_1 p706 q706
         cases e706
         replace hx706_0 := (HB.out.cell (World.block_lt_of_cell? w _ hx706_0)).trans hx706_0
         replace hx706_1 := (HB.out.cell (World.block_lt_of_cell? w _ hx706_1)).trans hx706_1
         replace hx706_2 := (HB.out.cell (World.block_lt_of_cell? w _ hx706_2)).trans hx706_2
         have HR706_2 := Aside0.mk hi706_2
         have HC706_2 := Aside0.mk hl706_2
         clear hi706_2 hl706_2
         replace p706 := eq_true p706
         replace q706 := eq_true q706
         go_wp2_with (first | ((with_reducible refine gate_dst (N := 7) rfl ?_); refine box_event ?hg (N := 7) ?hd (cs := #[.string (⟨#[]⟩ : ByteArray), .int .i64 0, .slice none 0 0]) (t := 34) ?hr ?_; (case hd => rfl); (case hg => rfl); (case hr => first | (go_simp; done) | (go_simp; rfl)); intro gb707 hg w16 hbox hb; have n0_ := Aside0.mk (Kd.S_below (by (with_reducible repeat (first | apply Kd.S_alloc | apply Kd.S_drewN | apply Kd.S_drew)); exact HO_5.out) hb); have n1_ := Aside0.mk (blk_below (g := gb701) (o := .cells #[.slice (some ad706) l0_0.length c0_0, .slice A0_1 l0_1.length c0_1] 81 (0, 0)) (by (with_reducible repeat (first | refine blk_drewN ?_ _ | refine blk_drew ?_ | refine blk_alloc ?_ _)); exact BK701.out) hb); have n2_ := Aside0.mk (below_step (by repeat (first | (with_reducible first | exact HB.out | apply below_alloc | apply pw_below_drewN | apply below_drew1 | refine below_set ?_ GE701.out) | exact HB.out)) hb); have n3_ := Aside0.mk (hbox); have n4_ := Aside0.mk ((by rw [hg]; exact (below_size (by repeat (first | (with_reducible first | exact HB.out | apply below_alloc | apply pw_below_drewN | apply below_drew1 | refine below_set ?_ GE701.out) | exact HB.out))) : w.heap.size ≤ gb707)); have n5_ := Aside0.mk ((by rw [hg]; exact (below_size (by repeat (first | (with_reducible first | exact HB.out | apply below_alloc | apply pw_below_drewN | apply below_drew1 | refine below_set ?_ GE701.out) | exact HB.out))) : w.heap.size ≤ gb707)); have n6_ := Aside0.mk ((by rw [hg]; exact Nat.ne_of_lt (blk_lt (g := gb701) (o := .cells #[.slice (some ad706) l0_0.length c0_0, .slice A0_1 l0_1.length c0_1] 81 (0, 0)) (by (with_reducible repeat (first | refine blk_drewN ?_ _ | refine blk_drew ?_ | refine blk_alloc ?_ _)); exact BK701.out)) : gb701 ≠ gb707)); have n7_ := Aside0.mk ((by rw [hg]; exact Nat.ne_of_gt (blk_lt (g := gb701) (o := .cells #[.slice (some ad706) l0_0.length c0_0, .slice A0_1 l0_1.length c0_1] 81 (0, 0)) (by (with_reducible repeat (first | refine blk_drewN ?_ _ | refine blk_drew ?_ | refine blk_alloc ?_ _)); exact BK701.out)) : gb707 ≠ gb701)); clear HO_5; clear BK701; clear HB; have HO_5 := n0_; have BK701 := n1_; have HB := n2_; have BK707 := n3_; have GW707 := n4_; have GE707 := n5_; have NB701_707 := n6_; have NB707_701 := n7_; clear n0_ n1_ n2_ n3_ n4_ n5_ n6_ n7_; clear hb hbox hg; have hnb17 := NB707_701.out; have hnc17 := NB701_707.out; have hcz18_0 : w16.cell? ⟨gb707, 0, none⟩ = some (.string (⟨#[]⟩ : ByteArray)) := (blk_cell BK707.out 0).trans rfl; have hcz18_1 : w16.cell? ⟨gb707, 1, none⟩ = some (.int .i64 0) := (blk_cell BK707.out 1).trans rfl; have hcz18_2 : w16.cell? ⟨gb707, 2, none⟩ = some (.slice none 0 0) := (blk_cell BK707.out 2).trans rfl; have hfz18_0 := blk_frozen BK707.out 0; have hfz18_1 := blk_frozen BK707.out 1; have hfz18_2 := blk_frozen BK707.out 2))
         go_loopg [27] k1 (fun kq v27 w' => ∃ (x5_2 : List (List Int)) (x27_2 : Int), v27 = .int .i64 x27_2 ∧ Aside0 (impl_AlphaMems.l1 kq l1 x5_2 x20_1 l0_0 (l0_0.length : Int) x20_1 l1 (l1.length : Int) x27_2 ((rd_T34 l0_0 x20_1).f0) ((rd_T34 l0_0 x20_1).f1) ((rd_T34 l0_0 x20_1).f2) = some r) ∧ Aside0 (kq ≤ k1) ∧ Aside0 (Kd.S (Kd.slice 3 (Kd.int .i64)) 67 w' w.heap.size (fun _ => True) v704 x5_2) ∧ Aside0 (w'.heap[gb701]? = some (.cells #[(.slice (some ad706) l0_0.length c0_0), (.slice A0_1 l0_1.length c0_1)] 81 (0, 0))) ∧ Aside0 (w'.heap[gb707]? = some (.cells #[.string ((rd_T34 l0_0 x20_1).f0), .int .i64 ((rd_T34 l0_0 x20_1).f1), (.slice A706_2 ((rd_T34 l0_0 x20_1).f2).length c706_2)] 34 (0, 0))) ∧ Aside0 (Below w.heap.size w w'))
         case atStart => exact ⟨(x5_1), (0), (by first | rfl | (simp; done) | (simp [*]; done)), H', ⟨Nat.le_refl _⟩, ⟨by (with_reducible repeat (first | apply Kd.S_alloc | apply Kd.S_drewN | apply Kd.S_drew)); exact Kd.S_mono (Kd.S_far (p := ⟨gb707, 2, none⟩) (Kd.S_far (p := ⟨gb707, 1, none⟩) (Kd.S_far (p := ⟨gb707, 0, none⟩) (Kd.S_types HO_5.out BK707.out (by decide)) (fun _ hk => hk.2) (.string ((rd_T34 l0_0 x20_1).f0))) (fun _ hk => hk.2) (.int .i64 ((rd_T34 l0_0 x20_1).f1))) (fun _ hk => hk.2) (.slice A706_2 ((rd_T34 l0_0 x20_1).f2).length c706_2)) (fun _ hk => trivial)⟩, ⟨by (with_reducible repeat (first | refine blk_drewN ?_ _ | refine blk_drew ?_ | refine blk_alloc ?_ _)); refine blk_far ?_ NB701_707.out _; (with_reducible repeat (first | refine blk_drewN ?_ _ | refine blk_drew ?_ | refine blk_alloc ?_ _)); refine blk_far ?_ NB701_707.out _; (with_reducible repeat (first | refine blk_drewN ?_ _ | refine blk_drew ?_ | refine blk_alloc ?_ _)); refine blk_far ?_ NB701_707.out _; (with_reducible repeat (first | refine blk_drewN ?_ _ | refine blk_drew ?_ | refine blk_alloc ?_ _)); exact BK701.out⟩, ⟨by (with_reducible repeat (first | refine blk_drewN ?_ _ | refine blk_drew ?_ | refine blk_alloc ?_ _)); refine blk_put (cs := #[.string ((rd_T34 l0_0 x20_1).f0), .int .i64 ((rd_T34 l0_0 x20_1).f1), .slice none 0 0]) ?_ 2 _ rfl; (with_reducible repeat (first | refine blk_drewN ?_ _ | refine blk_drew ?_ | refine blk_alloc ?_ _)); refine blk_put (cs := #[.string ((rd_T34 l0_0 x20_1).f0), .int .i64 0, .slice none 0 0]) ?_ 1 _ rfl; (with_reducible repeat (first | refine blk_drewN ?_ _ | refine blk_drew ?_ | refine blk_alloc ?_ _)); refine blk_put (cs := #[.string (⟨#[]⟩ : ByteArray), .int .i64 0, .slice none 0 0]) ?_ 0 _ rfl; (with_reducible repeat (first | refine blk_drewN ?_ _ | refine blk_drew ?_ | refine blk_alloc ?_ _)); exact BK707.out⟩, ⟨by repeat (first | (with_reducible first | exact HB.out | apply below_alloc | apply pw_below_drewN | apply below_drew1 | refine below_set ?_ GE701.out | refine below_set ?_ GE707.out) | exact HB.out)⟩⟩
         case round =>
          clear H'
          try clear c1
          try clear p2
          try clear c4
          try clear c5
          try clear c5b0
          try clear c5b1
          try clear c6
          try clear c6b0
          try clear c6b1
          try clear c7
          try clear p7
          try clear q7
          try clear hx7
          try clear c13
          try clear c13b0
          try clear c14
          try clear c14b0
          try clear c15
          try clear c15b0
          try clear c17
          try clear hcz12_0
          try clear hcz12_1
          try clear hcz18_0
          try clear hcz18_1
          try clear hcz18_2
          try clear hcz9_0
          try clear hcz9_1
          try clear hfz12_0
          try clear hfz12_1
          try clear hfz18_0
          try clear hfz18_1
          try clear hfz18_2
          try clear hfz9_0
          try clear hfz9_1
          try clear hx706_0
          try clear hx706_1
          try clear hx706_2
          try clear p2
          try clear p706
          try clear q706
          obtain ⟨x5_2, x27_2, rfl, HA, HK2, HO_5, BK701, BK707, HB⟩ := hrel
          cases gk with
          | zero => exact absurd HA.out (by simp [impl_AlphaMems.l1])
          | succ k2 =>
           have H := HA.out
           clear HA
           simp only [impl_AlphaMems.l1] at H
           by_cases c19 : x27_2 < (l1.length : Int)
           ·rw [if_pos c19] at H
            have c19b0 : decide (x27_2 < (l1.length : Int)) = true := decide_eq_true c19
            clear c19
            by_cases c20 : 0 ≤ x27_2
            ·rw [if_pos c20] at H
             have c20b0 : decide (0 ≤ x27_2) = true := decide_eq_true c20
             clear c20
             by_cases c21 : x27_2 < (l1.length : Int)
             ·rw [if_pos c21] at H
              have c21b0 : decide (x27_2 < (l1.length : Int)) = true := decide_eq_true c21
              clear c21
              replace H := Option.bind_eq_some_iff.mp H
              obtain ⟨t710, A220, H⟩ := H
              replace H : (if t710 = true then (if 0 ≤ x20_1 then (if x20_1 < (x5_2.length : Int) then (if (rd_L18 x5_2 x20_1).length < 17592186044416 then (impl_AlphaMems.l1 k2 l1 (x5_2.set (x20_1 : Int).toNat ((rd_L18 x5_2 x20_1) ++ [(rd_T38 l1 x27_2).f0])) x20_1 l0_0 (l0_0.length : Int) x20_1 l1 (l1.length : Int) (wrap64 (x27_2 + 1)) ((rd_T34 l0_0 x20_1).f0) ((rd_T34 l0_0 x20_1).f1) ((rd_T34 l0_0 x20_1).f2)) else (none)) else (none)) else (none)) else (impl_AlphaMems.l1 k2 l1 x5_2 x20_1 l0_0 (l0_0.length : Int) x20_1 l1 (l1.length : Int) (wrap64 (x27_2 + 1)) ((rd_T34 l0_0 x20_1).f0) ((rd_T34 l0_0 x20_1).f1) ((rd_T34 l0_0 x20_1).f2))) = some r := H
              have A22 := Aside0.mk A220
              clear A220
              by_cases c23 : t710 = true
              ·subst c23
               have H1 : (if 0 ≤ x20_1 then (if x20_1 < (x5_2.length : Int) then (if (rd_L18 x5_2 x20_1).length < 17592186044416 then (impl_AlphaMems.l1 k2 l1 (x5_2.set (x20_1 : Int).toNat ((rd_L18 x5_2 x20_1) ++ [(rd_T38 l1 x27_2).f0])) x20_1 l0_0 (l0_0.length : Int) x20_1 l1 (l1.length : Int) (wrap64 (x27_2 + 1)) ((rd_T34 l0_0 x20_1).f0) ((rd_T34 l0_0 x20_1).f1) ((rd_T34 l0_0 x20_1).f2)) else (none)) else (none)) else (none)) = some r := by first | (rw [if_pos rfl] at H; exact H) | rfl
               clear H
               have H := H1
               clear H1
               by_cases c24 : 0 ≤ x20_1
               ·rw [if_pos c24] at H
                have c24b0 : decide (0 ≤ x20_1) = true := decide_eq_true c24
                clear c24
                by_cases c25 : x20_1 < (x5_2.length : Int)
                ·rw [if_pos c25] at H
                 have c25b0 : decide (x20_1 < (x5_2.length : Int)) = true := decide_eq_true c25
                 clear c25
                 by_cases c26 : (rd_L18 x5_2 x20_1).length < 17592186044416
                 ·rw [if_pos c26] at H
                  have LMc26 := Aside0.mk c26
                  clear c26
                  obtain ⟨y712, hy712⟩ : ∃ y_ : List Int, y_ = ((rd_L18 x5_2 x20_1) ++ [(rd_T38 l1 x27_2).f0]) := ⟨_, rfl⟩
                  replace H : (impl_AlphaMems.l1 k2 l1 (x5_2.set (x20_1 : Int).toNat y712) x20_1 l0_0 (l0_0.length : Int) x20_1 l1 (l1.length : Int) (wrap64 (x27_2 + 1)) ((rd_T34 l0_0 x20_1).f0) ((rd_T34 l0_0 x20_1).f1) ((rd_T34 l0_0 x20_1).f2)) = some r := by first | (rw [hy712]; with_reducible exact H) | (have H2_ := (Option.bind_some _ _).symm.trans H; rw [hy712]; with_reducible exact H2_) | (have H2_ := (Option.bind_some _ _).symm.trans H; with_reducible exact H2_) | with_reducible exact H | (rw [hy712]; exact H) | exact H
                  have Ny712 := Aside0.mk hy712
                  clear hy712
                  obtain ⟨y715, hy715⟩ : ∃ y_ : List (List Int), y_ = (x5_2.set (x20_1 : Int).toNat y712) := ⟨_, rfl⟩
                  replace H : (impl_AlphaMems.l1 k2 l1 y715 x20_1 l0_0 (l0_0.length : Int) x20_1 l1 (l1.length : Int) (wrap64 (x27_2 + 1)) ((rd_T34 l0_0 x20_1).f0) ((rd_T34 l0_0 x20_1).f1) ((rd_T34 l0_0 x20_1).f2)) = some r := by first | (rw [hy715]; with_reducible exact H) | (have H2_ := (Option.bind_some _ _).symm.trans H; rw [hy715]; with_reducible exact H2_) | (have H2_ := (Option.bind_some _ _).symm.trans H; with_reducible exact H2_) | with_reducible exact H | (rw [hy715]; exact H) | exact H
                  have Ny715 := Aside0.mk hy715
                  clear hy715
                  have H' := Aside0.mk H
                  clear H
                  have p708 : 0 ≤ (x27_2 : Int) := of_decide_eq_true (by first | (with_reducible assumption) | assumption)
                  have q708 : x27_2 < (l1.length : Int) := of_decide_eq_true (by first | (with_reducible assumption) | assumption)
                  obtain ⟨ad708, A708_2, c708_2, e708, hx708_0, hx708_1, hx708_2, hl708_2, hi708_2⟩ := at_T38 HR1.out x27_2 p708 q708
                  cases e708
                  replace hx708_0 := (HB.out.cell (World.block_lt_of_cell? w _ hx708_0)).trans hx708_0
                  replace hx708_1 := (HB.out.cell (World.block_lt_of_cell? w _ hx708_1)).trans hx708_1
                  replace hx708_2 := (HB.out.cell (World.block_lt_of_cell? w _ hx708_2)).trans hx708_2
                  have HR708_2 := Aside0.mk hi708_2
                  have HC708_2 := Aside0.mk hl708_2
                  clear hi708_2 hl708_2
                  replace p708 := eq_true p708
                  replace q708 := eq_true q708
                  try go_wp2_with (first | ((with_reducible refine gate_dst (N := 9) rfl ?_); refine box_event ?hg (N := 9) ?hd (cs := #[.int .i64 0, .string (⟨#[]⟩ : ByteArray), .slice none 0 0]) (t := 38) ?hr ?_; (case hd => rfl); (case hg => rfl); (case hr => first | (go_simp; done) | (go_simp; rfl)); intro gb709 hg w28 hbox hb; have n0_ := Aside0.mk (Kd.S_below (by (with_reducible repeat (first | apply Kd.S_alloc | apply Kd.S_drewN | apply Kd.S_drew)); exact HO_5.out) hb); have n1_ := Aside0.mk (blk_below (g := gb701) (o := .cells #[.slice (some ad706) l0_0.length c0_0, .slice A0_1 l0_1.length c0_1] 81 (0, 0)) (by (with_reducible repeat (first | refine blk_drewN ?_ _ | refine blk_drew ?_ | refine blk_alloc ?_ _)); exact BK701.out) hb); have n2_ := Aside0.mk (blk_below (g := gb707) (o := .cells #[.string ((rd_T34 l0_0 x20_1).f0), .int .i64 ((rd_T34 l0_0 x20_1).f1), .slice A706_2 ((rd_T34 l0_0 x20_1).f2).length c706_2] 34 (0, 0)) (by (with_reducible repeat (first | refine blk_drewN ?_ _ | refine blk_drew ?_ | refine blk_alloc ?_ _)); exact BK707.out) hb); have n3_ := Aside0.mk (below_step (by repeat (first | (with_reducible first | exact HB.out | apply below_alloc | apply pw_below_drewN | apply below_drew1 | refine below_set ?_ GE701.out | refine below_set ?_ GE707.out) | exact HB.out)) hb); have n4_ := Aside0.mk (hbox); have n5_ := Aside0.mk ((by rw [hg]; exact (below_size (by repeat (first | (with_reducible first | exact HB.out | apply below_alloc | apply pw_below_drewN | apply below_drew1 | refine below_set ?_ GE701.out | refine below_set ?_ GE707.out) | exact HB.out))) : w.heap.size ≤ gb709)); have n6_ := Aside0.mk ((by rw [hg]; exact (below_size (by repeat (first | (with_reducible first | exact HB.out | apply below_alloc | apply pw_below_drewN | apply below_drew1 | refine below_set ?_ GE701.out | refine below_set ?_ GE707.out) | exact HB.out))) : w.heap.size ≤ gb709)); have n7_ := Aside0.mk ((by rw [hg]; exact Nat.ne_of_lt (blk_lt (g := gb701) (o := .cells #[.slice (some ad706) l0_0.length c0_0, .slice A0_1 l0_1.length c0_1] 81 (0, 0)) (by (with_reducible repeat (first | refine blk_drewN ?_ _ | refine blk_drew ?_ | refine blk_alloc ?_ _)); exact BK701.out)) : gb701 ≠ gb709)); have n8_ := Aside0.mk ((by rw [hg]; exact Nat.ne_of_gt (blk_lt (g := gb701) (o := .cells #[.slice (some ad706) l0_0.length c0_0, .slice A0_1 l0_1.length c0_1] 81 (0, 0)) (by (with_reducible repeat (first | refine blk_drewN ?_ _ | refine blk_drew ?_ | refine blk_alloc ?_ _)); exact BK701.out)) : gb709 ≠ gb701)); have n9_ := Aside0.mk ((by rw [hg]; exact Nat.ne_of_lt (blk_lt (g := gb707) (o := .cells #[.string ((rd_T34 l0_0 x20_1).f0), .int .i64 ((rd_T34 l0_0 x20_1).f1), .slice A706_2 ((rd_T34 l0_0 x20_1).f2).length c706_2] 34 (0, 0)) (by (with_reducible repeat (first | refine blk_drewN ?_ _ | refine blk_drew ?_ | refine blk_alloc ?_ _)); exact BK707.out)) : gb707 ≠ gb709)); have n10_ := Aside0.mk ((by rw [hg]; exact Nat.ne_of_gt (blk_lt (g := gb707) (o := .cells #[.string ((rd_T34 l0_0 x20_1).f0), .int .i64 ((rd_T34 l0_0 x20_1).f1), .slice A706_2 ((rd_T34 l0_0 x20_1).f2).length c706_2] 34 (0, 0)) (by (with_reducible repeat (first | refine blk_drewN ?_ _ | refine blk_drew ?_ | refine blk_alloc ?_ _)); exact BK707.out)) : gb709 ≠ gb707)); clear HO_5; clear BK701; clear BK707; clear HB; have HO_5 := n0_; have BK701 := n1_; have BK707 := n2_; have HB := n3_; have BK709 := n4_; have GW709 := n5_; have GE709 := n6_; have NB701_709 := n7_; have NB709_701 := n8_; have NB707_709 := n9_; have NB709_707 := n10_; clear n0_ n1_ n2_ n3_ n4_ n5_ n6_ n7_ n8_ n9_ n10_; clear hb hbox hg; have hnb29 := NB709_701.out; have hnc29 := NB701_709.out; have hnb30 := NB709_707.out; have hnc30 := NB707_709.out; have hcz31_0 : w28.cell? ⟨gb709, 0, none⟩ = some (.int .i64 0) := (blk_cell BK709.out 0).trans rfl; have hcz31_1 : w28.cell? ⟨gb709, 1, none⟩ = some (.string (⟨#[]⟩ : ByteArray)) := (blk_cell BK709.out 1).trans rfl; have hcz31_2 : w28.cell? ⟨gb709, 2, none⟩ = some (.slice none 0 0) := (blk_cell BK709.out 2).trans rfl; have hfz31_0 := blk_frozen BK709.out 0; have hfz31_1 := blk_frozen BK709.out 1; have hfz31_2 := blk_frozen BK709.out 2; have hnb32 := NB707_701.out; have hnc32 := NB701_707.out; have hcz33_0 : w28.cell? ⟨gb707, 0, none⟩ = some (.string ((rd_T34 l0_0 x20_1).f0)) := (blk_cell BK707.out 0).trans rfl; have hcz33_1 : w28.cell? ⟨gb707, 1, none⟩ = some (.int .i64 ((rd_T34 l0_0 x20_1).f1)) := (blk_cell BK707.out 1).trans rfl; have hcz33_2 : w28.cell? ⟨gb707, 2, none⟩ = some (.slice A706_2 ((rd_T34 l0_0 x20_1).f2).length c706_2) := (blk_cell BK707.out 2).trans rfl; have hfz33_0 := blk_frozen BK707.out 0; have hfz33_1 := blk_frozen BK707.out 1; have hfz33_2 := blk_frozen BK707.out 2) | ((with_reducible refine gate_callee (f := 15) rfl ?_); refine goesL_ (some 33) rfl rfl Try.func15 (by kernel_rfl) rfl #[.agg #[.string ((rd_T34 l0_0 x20_1).f0), .int .i64 ((rd_T34 l0_0 x20_1).f1), .slice A706_2 ((rd_T34 l0_0 x20_1).f2).length c706_2], .agg #[.int .i64 ((rd_T38 l1 x27_2).f0), .string ((rd_T38 l1 x27_2).f1), .slice A708_2 ((rd_T38 l1 x27_2).f2).length c708_2]] rfl (by (try simp only [List.map_toArray, List.map_cons, List.map_nil]); first | done | rfl | (simp only [List.length_drop, List.length_take]; rfl)) ?_; (with_reducible refine (impl_AlphaPass.calls ((rd_T34 l0_0 x20_1).f0) ((rd_T34 l0_0 x20_1).f1) _ _ ((rd_T34 l0_0 x20_1).f2) ((rd_T38 l1 x27_2).f0) ((rd_T38 l1 x27_2).f1) _ _ ((rd_T38 l1 x27_2).f2) true _ ?side1 ?side2 ?side3 ?side4 A22.out).mono ?_); (case side1 => exact Kd.C_below HR706_2.out (by repeat (first | (with_reducible first | exact HB.out | apply below_alloc | apply pw_below_drewN | apply below_drew1 | refine below_set ?_ GE701.out | refine below_set ?_ GE707.out | refine below_set ?_ GE709.out) | exact HB.out))); (case side2 => exact HC706_2.out); (case side3 => exact Kd.C_below HR708_2.out (by repeat (first | (with_reducible first | exact HB.out | apply below_alloc | apply pw_below_drewN | apply below_drew1 | refine below_set ?_ GE701.out | refine below_set ?_ GE707.out | refine below_set ?_ GE709.out) | exact HB.out))); (case side4 => exact HC708_2.out); rintro e w34 ⟨rfl, hb⟩; refine ⟨_, rfl, ?_⟩; have n0_ := Aside0.mk (Kd.S_below (by (with_reducible repeat (first | apply Kd.S_alloc | apply Kd.S_drewN | apply Kd.S_drew)); exact (Kd.S_mono (Kd.S_far (p := ⟨gb709, 2, none⟩) (Kd.S_far (p := ⟨gb709, 1, none⟩) (Kd.S_far (p := ⟨gb709, 0, none⟩) (Kd.S_types HO_5.out BK709.out (by decide)) (fun _ hk => hk.2) (.int .i64 ((rd_T38 l1 x27_2).f0))) (fun _ hk => hk.2) (.string ((rd_T38 l1 x27_2).f1))) (fun _ hk => hk.2) (.slice A708_2 ((rd_T38 l1 x27_2).f2).length c708_2)) (fun _ h_ => h_.1))) hb); have n1_ := Aside0.mk (blk_below (g := gb701) (o := .cells #[.slice (some ad706) l0_0.length c0_0, .slice A0_1 l0_1.length c0_1] 81 (0, 0)) (by (with_reducible repeat (first | refine blk_drewN ?_ _ | refine blk_drew ?_ | refine blk_alloc ?_ _)); refine blk_far ?_ NB701_709.out _; (with_reducible repeat (first | refine blk_drewN ?_ _ | refine blk_drew ?_ | refine blk_alloc ?_ _)); refine blk_far ?_ NB701_709.out _; (with_reducible repeat (first | refine blk_drewN ?_ _ | refine blk_drew ?_ | refine blk_alloc ?_ _)); refine blk_far ?_ NB701_709.out _; (with_reducible repeat (first | refine blk_drewN ?_ _ | refine blk_drew ?_ | refine blk_alloc ?_ _)); exact BK701.out) hb); have n2_ := Aside0.mk (blk_below (g := gb707) (o := .cells #[.string ((rd_T34 l0_0 x20_1).f0), .int .i64 ((rd_T34 l0_0 x20_1).f1), .slice A706_2 ((rd_T34 l0_0 x20_1).f2).length c706_2] 34 (0, 0)) (by (with_reducible repeat (first | refine blk_drewN ?_ _ | refine blk_drew ?_ | refine blk_alloc ?_ _)); refine blk_far ?_ NB707_709.out _; (with_reducible repeat (first | refine blk_drewN ?_ _ | refine blk_drew ?_ | refine blk_alloc ?_ _)); refine blk_far ?_ NB707_709.out _; (with_reducible repeat (first | refine blk_drewN ?_ _ | refine blk_drew ?_ | refine blk_alloc ?_ _)); refine blk_far ?_ NB707_709.out _; (with_reducible repeat (first | refine blk_drewN ?_ _ | refine blk_drew ?_ | refine blk_alloc ?_ _)); exact BK707.out) hb); have n3_ := Aside0.mk (blk_below (g := gb709) (o := .cells #[.int .i64 ((rd_T38 l1 x27_2).f0), .string ((rd_T38 l1 x27_2).f1), .slice A708_2 ((rd_T38 l1 x27_2).f2).length c708_2] 38 (0, 0)) (by (with_reducible repeat (first | refine blk_drewN ?_ _ | refine blk_drew ?_ | refine blk_alloc ?_ _)); refine blk_put (cs := #[.int .i64 ((rd_T38 l1 x27_2).f0), .string ((rd_T38 l1 x27_2).f1), .slice none 0 0]) ?_ 2 _ rfl; (with_reducible repeat (first | refine blk_drewN ?_ _ | refine blk_drew ?_ | refine blk_alloc ?_ _)); refine blk_put (cs := #[.int .i64 ((rd_T38 l1 x27_2).f0), .string (⟨#[]⟩ : ByteArray), .slice none 0 0]) ?_ 1 _ rfl; (with_reducible repeat (first | refine blk_drewN ?_ _ | refine blk_drew ?_ | refine blk_alloc ?_ _)); refine blk_put (cs := #[.int .i64 0, .string (⟨#[]⟩ : ByteArray), .slice none 0 0]) ?_ 0 _ rfl; (with_reducible repeat (first | refine blk_drewN ?_ _ | refine blk_drew ?_ | refine blk_alloc ?_ _)); exact BK709.out) hb); have n4_ := Aside0.mk (below_step (by repeat (first | (with_reducible first | exact HB.out | apply below_alloc | apply pw_below_drewN | apply below_drew1 | refine below_set ?_ GE701.out | refine below_set ?_ GE707.out | refine below_set ?_ GE709.out) | exact HB.out)) hb); clear HO_5; clear BK701; clear BK707; clear BK709; clear HB; have HO_5 := n0_; have BK701 := n1_; have BK707 := n2_; have BK709 := n3_; have HB := n4_; clear n0_ n1_ n2_ n3_ n4_; (try clear hb); (try clear hb2); (try clear hk); (try clear hi)))
                  have n0_ := Aside0.mk (Kd.S_drew HO_5.out)
                  have n1_ := Aside0.mk (blk_drew BK701.out)
                  have n2_ := Aside0.mk (blk_drew BK707.out)
                  have n3_ := Aside0.mk (blk_drew BK709.out)
                  have n4_ := Aside0.mk (below_drew1 HB.out)
                  clear HO_5
                  clear BK701
                  clear BK707
                  clear BK709
                  clear HB
                  have HO_5 := n0_
                  have BK701 := n1_
                  have BK707 := n2_
                  have BK709 := n3_
                  have HB := n4_
                  clear n0_ n1_ n2_ n3_ n4_
                  obtain ⟨Ao36, co36, eo36⟩ := Kd.S_slice HO_5.out
                  (first | subst eo36 | (injection eo36 with f1_ f2_ f3_; have f4_ := f1_.symm; have f5_ := f3_.symm; clear f1_ f2_ f3_; subst f4_; subst f5_))
                  have p711 : 0 ≤ (x20_1 : Int) := of_decide_eq_true (by first | (with_reducible assumption) | assumption)
                  have q711 : x20_1 < (x5_2.length : Int) := of_decide_eq_true (by first | (with_reducible assumption) | assumption)
                  obtain ⟨ad711, A711_0, c711_0, e711, hx711_0, hl711_0, hi711_0⟩ := at_L18 (Kd.S_reads' HO_5.out).2.2 x20_1 p711 q711
                  cases e711
                  obtain ⟨ce711, hce711, hMe711, hcc711⟩ := Kd.S_get HO_5.out [] x20_1 p711 (by first | exact q711 | exact of_decide_eq_true (by first | (with_reducible assumption) | assumption) | (have e_ := (Kd.S_reads' HO_5.out).1; omega))
                  obtain ⟨ve711_0, rfl, ge711_0⟩ := hMe711
                  have hv711_0 := hcc711 0 _ rfl
                  rw [Nat.add_zero, show ((Kd.slice 3 (Kd.int .i64))).sz = 1 from rfl, Nat.mul_one] at hv711_0
                  replace hv711_0 := Option.some.inj (hv711_0.symm.trans hx711_0)
                  rw [hv711_0] at ge711_0
                  have HL711_0 := Aside0.mk (show Kd.R (Kd.int .i64) 3 _ _ _ _ (rd_L18 x5_2 x20_1) from ge711_0)
                  clear hv711_0 ge711_0
                  have HX711_0 := Aside0.mk hx711_0
                  clear hcc711 hce711
                  have HR711_0 := Aside0.mk hi711_0
                  have HC711_0 := Aside0.mk hl711_0
                  clear hi711_0 hl711_0
                  replace p711 := eq_true p711
                  replace q711 := eq_true q711
                  obtain ⟨go37, co37, eo37, gb37, gl37, cl37, HG37⟩ := Kd.S_form HO_5.out (by have h_ : (x20_1 : Int) < ((x5_2.length : Int) : Int) := of_decide_eq_true (by first | (with_reducible assumption) | assumption); have h2_ : 0 ≤ (x20_1 : Int) := (of_decide_eq_true (by first | (with_reducible assumption) | assumption)); omega)
                  (first | cases eo37 | (injection eo37 with ea_ en_ ec_; (first | subst ea_ | (injection ea_ with ea_; subst ea_)); subst ec_; clear en_))
                  have GB37 := Aside0.mk gb37
                  have GG37 := Aside0.mk HG37
                  clear gb37 gl37 HG37
                  (first | simp only [add_plain] at hx711_0 | skip)
                  obtain ⟨oki37, ce37, hcl37, hM37, hcc37, _, _, hH37⟩ := Kd.S_elem HO_5.out [] (x20_1 : Int) (of_decide_eq_true (by first | (with_reducible assumption) | assumption)) (by have h_ : (x20_1 : Int) < ((x5_2.length : Int) : Int) := of_decide_eq_true (by first | (with_reducible assumption) | assumption); first | exact h_ | (have e_ := (Kd.S_reads' HO_5.out).1; omega) | simpa using h_)
                  obtain ⟨ve37_0, rfl, ge37_0⟩ := hM37
                  have hv37 := hcc37 0 _ rfl
                  have hX37 := HX711_0.out
                  (try simp only [add_plain] at hX37)
                  (try simp only [Nat.add_zero] at hv37)
                  (try rw [show ((Kd.slice 3 (Kd.int .i64))).sz = 1 from rfl, Nat.mul_one] at hv37)
                  replace hv37 := Option.some.inj (hv37.symm.trans hX37)
                  subst hv37
                  clear hX37 hcc37 hcl37
                  have UU37 := Aside0.mk (show Kd.R (Kd.int .i64) 3 _ w.heap.size oki37 (.slice A711_0 (rd_L18 x5_2 x20_1).length c711_0) (rd_L18 x5_2 x20_1) from ge37_0)
                  have HH37 := Aside0.mk hH37
                  have HN37 := Aside0.mk (Kd.S_reads' HO_5.out).1
                  clear hH37 ge37_0
                  refine start_ (n := 12) (S := fun w' => w'.cell? ⟨gb709, 0, none⟩ = some (.int .i64 ((rd_T38 l1 x27_2).f0)) ∧ w'.cell? ⟨gb709, 1, none⟩ = some (.string ((rd_T38 l1 x27_2).f1)) ∧ w'.cell? ⟨gb709, 2, none⟩ = some (.slice A708_2 ((rd_T38 l1 x27_2).f2).length c708_2) ∧ w'.cell? ⟨go37, (x20_1).toNat, none⟩ = some (.slice A711_0 (rd_L18 x5_2 x20_1).length c711_0)) (ds := [11]) #[false, false, false, false, false, false, false, false, false, false, false, false] (by kernel_rfl) rfl rfl ⟨(blk_cell BK709.out 0).trans rfl, (blk_cell BK709.out 1).trans rfl, (blk_cell BK709.out 2).trans rfl, hx711_0⟩ (fun hHeld => ?_); refine with_tabW impl_AlphaMems.tab11 impl_AlphaMems.bits11 (fun HT_ HW_ => ?_)
                  generalize w34.drew = w35 at HO_5 BK701 BK707 BK709 HB GG37 HH37 HL711_0 HR711_0 HX711_0 UU37 hx711_0 hHeld ⊢
                  refine pure_ (i := 0) (N := some 34) (v := ?_) (a' := ?_) #[true, false, false, false, false, false, false, false, false, false, false, false] rfl rfl (any_of HT_.out (by kernel_rfl)) (fun _ _ _ h => h) (Or.inl ⟨by rfl, ?_⟩) ?_ ?_
                  rotate_left
                  ·intro w'
                   go_simp
                   with_reducible rfl
                  rotate_left
                  ·simp only [Act.put, List.setIfInBounds_toArray, List.set_cons_zero, List.set_cons_succ, i64_w, i32_w]
                   rfl
                  refine pure_ (i := 1) (N := some 35) (v := ?_) (a' := ?_) #[true, true, false, false, false, false, false, false, false, false, false, false] rfl rfl (any_of HT_.out (by kernel_rfl)) (fun _ _ _ h => h) (Or.inl ⟨by rfl, ?_⟩) ?_ ?_
                  rotate_left
                  ·intro w'
                   go_simp
                   with_reducible rfl
                  rotate_left
                  ·simp only [Act.put, List.setIfInBounds_toArray, List.set_cons_zero, List.set_cons_succ, i64_w, i32_w]
                   rfl
                  refine pure_ (i := 2) (N := some 36) (v := ?_) (a' := ?_) #[true, true, true, false, false, false, false, false, false, false, false, false] rfl rfl (any_of HT_.out (by kernel_rfl)) (fun _ _ _ h => h) (Or.inl ⟨by rfl, ?_⟩) ?_ ?_
                  rotate_left
                  ·intro w'
                   go_simp
                   with_reducible rfl
                  rotate_left
                  ·simp only [Act.put, List.setIfInBounds_toArray, List.set_cons_zero, List.set_cons_succ, i64_w, i32_w]
                   rfl
                  refine pure_ (i := 3) (N := some 37) (v := ?_) (a' := ?_) #[true, true, true, true, false, false, false, false, false, false, false, false] rfl rfl (any_of HT_.out (by kernel_rfl)) (fun _ _ _ h => h) (Or.inl ⟨by rfl, ?_⟩) ?_ ?_
                  rotate_left
                  ·intro w'
                   go_simp
                   with_reducible rfl
                  rotate_left
                  ·simp only [Act.put, List.setIfInBounds_toArray, List.set_cons_zero, List.set_cons_succ, i64_w, i32_w]
                   rfl
                  refine pure_ (i := 4) (N := some 38) (v := ?_) (a' := ?_) #[true, true, true, true, true, false, false, false, false, false, false, false] rfl rfl (any_of HT_.out (by kernel_rfl)) (fun _ _ _ h => h) (Or.inl ⟨by rfl, ?_⟩) ?_ ?_
                  rotate_left
                  ·intro w'
                   go_simp
                   with_reducible rfl
                  rotate_left
                  ·simp only [Act.put, List.setIfInBounds_toArray, List.set_cons_zero, List.set_cons_succ, i64_w, i32_w]
                   rfl
                  refine pure_ (i := 6) (N := some 40) (v := ?_) (a' := ?_) #[true, true, true, true, true, false, true, false, false, false, false, false] rfl rfl (any_of HT_.out (by kernel_rfl)) (fun _ _ _ h => h) (Or.inl ⟨by rfl, ?_⟩) ?_ ?_
                  rotate_left
                  ·intro w'
                   go_simp
                   with_reducible rfl
                  rotate_left
                  ·simp only [Act.put, List.setIfInBounds_toArray, List.set_cons_zero, List.set_cons_succ, i64_w, i32_w]
                   rfl
                  refine take_ (i := 5) (N := some 39) (v := ?_) (a' := ?_) #[true, true, true, true, true, true, true, false, false, false, false, false] rfl rfl (take_ofW HT_.out HW_.out (by kernel_rfl)) (fun _ _ _ h => h) (Or.inl ⟨by rfl, ?_⟩) hHeld ?_ ?_
                  rotate_left
                  ·rintro w' ⟨s0, s1, s2, s3⟩
                   go_simp
                   with_reducible rfl
                  rotate_left
                  ·simp only [Act.put, List.setIfInBounds_toArray, List.set_cons_zero, List.set_cons_succ, i64_w, i32_w]
                   rfl
                  refine take_ (i := 7) (N := some 41) (v := ?_) (a' := ?_) #[true, true, true, true, true, true, true, true, false, false, false, false] rfl rfl (take_ofW HT_.out HW_.out (by kernel_rfl)) (fun _ _ _ h => h) (Or.inl ⟨by rfl, ?_⟩) hHeld ?_ ?_
                  rotate_left
                  ·rintro w' ⟨s0, s1, s2, s3⟩
                   go_simp
                   with_reducible rfl
                  rotate_left
                  ·simp only [Act.put, List.setIfInBounds_toArray, List.set_cons_zero, List.set_cons_succ, i64_w, i32_w]
                   rfl
                  refine one_ (i := 8) (N := some 42) #[true, true, true, true, true, true, true, true, true, false, false, false] rfl rfl (one_of HT_.out (by kernel_rfl)) (by decide) (fun K hK => ?_)
                  refine value_ (w1 := ?_) (v := ?_) (by rfl) rfl ?_ ?_
                  rotate_left 2
                  ·go_simp
                   constructor
                   ·rfl
                   ·rfl
                  refine hK.out _ _ ⟨(blk_cell (blk_alloc BK709.out _) 0).trans rfl, (blk_cell (blk_alloc BK709.out _) 1).trans rfl, (blk_cell (blk_alloc BK709.out _) 2).trans rfl, (World.cell?_alloc_lt _ _ _ (World.block_lt_of_cell? _ _ (hHeld.2.2.2))).trans (hHeld.2.2.2)⟩ (fun hHeld => ?_)
                  clear hK K
                  refine norm_ (a' := ?_) ?_ ?_
                  rotate_left
                  ·show Act.put _ (some 42) _ = _
                   simp only [Act.put, List.setIfInBounds_toArray, List.set_cons_zero, List.set_cons_succ, i64_w, i32_w]
                   rfl
                  refine one_ (i := 9) (N := some 43) #[true, true, true, true, true, true, true, true, true, true, false, false] rfl rfl (one_of HT_.out (by kernel_rfl)) (by decide) (fun K hK => ?_)
                  refine Kd.R_append_step (Kd.int .i64) (w0 := w) w.heap.size (by rfl) (.tmp 39) (.tmp 42) 67 3 (.int .i64 0) 8 rfl Try.underlying67 info3 rfl (by decide) (by omega) (.slice A711_0 (rd_L18 x5_2 x20_1).length c711_0) (rd_L18 x5_2 x20_1) ((rd_T38 l1 x27_2).f0) [.int .i64 ((rd_T38 l1 x27_2).f0)] (fun k_ => oki37 k_ ∨ ((fun _ => True)) k_ ∧ w35.heap.size ≤ k_) (fun _ => False) rfl rfl ?aP (fun _ hk => hk.elim) ?aF ?aO ?aB ?aS ?aL ?_
                  (case aP => exact rfl)
                  (case aB => exact (by repeat (first | (with_reducible first | exact HB.out | apply below_alloc | apply pw_below_drewN | apply below_drew1 | refine below_set ?_ GE701.out | refine below_set ?_ GE707.out | refine below_set ?_ GE709.out) | exact HB.out)))
                  (case aF => exact (fun k_ hk => .inr ⟨trivial, hk⟩))
                  (case aO => exact (by (with_reducible repeat (first | apply Kd.R_alloc | apply Kd.R_drewN | apply Kd.R_drew)); exact Kd.R_mono UU37.out (fun _ hk => .inl hk)))
                  (case aS => exact (below_size (by repeat (first | (with_reducible first | exact HB.out | apply below_alloc | apply pw_below_drewN | apply below_drew1 | refine below_set ?_ GE701.out | refine below_set ?_ GE707.out | refine below_set ?_ GE709.out) | exact HB.out))))
                  (case aL => have := LMc26.out; omega)
                  intro v713 w38 ho hb hg hat
                  (first | have HS3_ := cell_grown hg (hHeld.2.2.2) (by first | (rw [add_block]; exact (fun e_ => ((HL711_0.out.1 _ e_.symm).2) rfl)) | (show some (Addr.add _ _).block ≠ _; rw [add_block]; exact (fun e_ => ((HL711_0.out.1 _ e_.symm).2) rfl)) | exact (fun e_ => ((HL711_0.out.1 _ e_.symm).2) rfl)) | have HS3_ := cell_grown hg (cell_unalloc (hHeld.2.2.2) (by first | (rw [add_block]; exact Kd.S_lt HO_5.out _ rfl) | (show (Addr.add _ _).block < _; rw [add_block]; exact Kd.S_lt HO_5.out _ rfl) | exact Kd.S_lt HO_5.out _ rfl)) (by first | (rw [add_block]; exact (fun e_ => ((HL711_0.out.1 _ e_.symm).2) rfl)) | (show some (Addr.add _ _).block ≠ _; rw [add_block]; exact (fun e_ => ((HL711_0.out.1 _ e_.symm).2) rfl)) | exact (fun e_ => ((HL711_0.out.1 _ e_.symm).2) rfl)))
                  rw [← Ny712.out] at ho
                  have n0_ := Aside0.mk (blk_grown (g := gb701) (o := .cells #[.slice (some ad706) l0_0.length c0_0, .slice A0_1 l0_1.length c0_1] 81 (0, 0)) (by (with_reducible repeat (first | refine blk_drewN ?_ _ | refine blk_drew ?_ | refine blk_alloc ?_ _)); exact BK701.out) hg (Kd.R_ne HL711_0.out BK701.out (by decide)))
                  have n1_ := Aside0.mk (blk_grown (g := gb707) (o := .cells #[.string ((rd_T34 l0_0 x20_1).f0), .int .i64 ((rd_T34 l0_0 x20_1).f1), .slice A706_2 ((rd_T34 l0_0 x20_1).f2).length c706_2] 34 (0, 0)) (by (with_reducible repeat (first | refine blk_drewN ?_ _ | refine blk_drew ?_ | refine blk_alloc ?_ _)); exact BK707.out) hg (Kd.R_ne HL711_0.out BK707.out (by decide)))
                  have n2_ := Aside0.mk (blk_grown (g := gb709) (o := .cells #[.int .i64 ((rd_T38 l1 x27_2).f0), .string ((rd_T38 l1 x27_2).f1), .slice A708_2 ((rd_T38 l1 x27_2).f2).length c708_2] 38 (0, 0)) (by (with_reducible repeat (first | refine blk_drewN ?_ _ | refine blk_drew ?_ | refine blk_alloc ?_ _)); exact BK709.out) hg (Kd.R_ne HL711_0.out BK709.out (by decide)))
                  have n3_ := Aside0.mk (hb)
                  have n4_ := Aside0.mk (Kd.H_grown (Kd.H_widen (by repeat (first | exact HH37.out | refine Kd.H_alloc ?_ _ | refine Kd.H_drewN ?_ _ | refine Kd.H_drew ?_))) hg (fun k_ e_ => .inl (UU37.out.1 k_ e_)))
                  have n5_ := Aside0.mk (ho)
                  clear BK701
                  clear BK707
                  clear BK709
                  clear HB
                  clear HH37
                  clear HO_5
                  clear UU37
                  clear HL711_0
                  have BK701 := n0_
                  have BK707 := n1_
                  have BK709 := n2_
                  have HB := n3_
                  have HH37 := n4_
                  have HO714 := n5_
                  clear n0_ n1_ n2_ n3_ n4_ n5_
                  clear ho hb hg hat
                  have p27 : 0 ≤ (x20_1 : Int) := of_decide_eq_true (by first | (with_reducible assumption) | assumption)
                  have q27 : (x20_1 : Int) < ((x5_2.length : Int) : Int) := of_decide_eq_true (by first | (with_reducible assumption) | assumption)
                  replace p27 := eq_true p27
                  replace q27 := eq_true q27
                  obtain ⟨Ao41, co41, eo41⟩ := Kd.R_slice HO714.out
                  (first | subst eo41 | (injection eo41 with f1_ f2_ f3_; have f4_ := f1_.symm; have f5_ := f3_.symm; clear f1_ f2_ f3_; subst f4_; subst f5_))
                  obtain ⟨_, _, hraw39, _, _, hcc39, _⟩ := Kd.H_raw HH37.out (of_decide_eq_true (by first | (with_reducible assumption) | assumption)) (by have h_ : (x20_1 : Int) < ((x5_2.length : Int) : Int) := of_decide_eq_true (by first | (with_reducible assumption) | assumption); first | exact h_ | (have e_ := (HN37.out); omega) | simpa using h_)
                  obtain ⟨_, hfr39⟩ := Kd.H_at HH37.out (of_decide_eq_true (by first | (with_reducible assumption) | assumption)) (by have h_ : (x20_1 : Int) < ((x5_2.length : Int) : Int) := of_decide_eq_true (by first | (with_reducible assumption) | assumption); first | exact h_ | (have e_ := (HN37.out); omega) | simpa using h_)
                  have hx39_0 := hcc39 0 _ rfl
                  have hf39_0 := hfr39 0
                  (try simp only [Nat.add_zero] at hx39_0 hf39_0)
                  (try rw [show ((Kd.slice 3 (Kd.int .i64))).sz = 1 from rfl, Nat.mul_one] at hx39_0)
                  (try rw [show ((Kd.slice 3 (Kd.int .i64))).sz = 1 from rfl, Nat.mul_one] at hf39_0)
                  have HP39 := Kd.S_seg0 HH37.out (of_decide_eq_true (by first | (with_reducible assumption) | assumption)) (by have h_ : (x20_1 : Int) < ((x5_2.length : Int) : Int) := of_decide_eq_true (by first | (with_reducible assumption) | assumption); first | exact h_ | (have e_ := (HN37.out); omega) | simpa using h_) (seg := [.slice Ao41 y712.length co41]) (j := 0) (show 1 ≤ 1 from by decide) (x' := y712) (Kd.M_row HO714.out) (fun _ hk => hk)
                  (try simp only [show ((Kd.slice 3 (Kd.int .i64))).sz = 1 from rfl, Nat.mul_one, Nat.add_zero] at HP39)
                  clear hcc39 hfr39
                  have HNB701_go37 := Aside0.mk (show gb701 ≠ go37 from by have h_ := Kd.R_ne hraw39 BK701.out (by decide); intro e_; exact h_ (by rw [e_]; rfl))
                  have HNB707_go37 := Aside0.mk (show gb707 ≠ go37 from by have h_ := Kd.R_ne hraw39 BK707.out (by decide); intro e_; exact h_ (by rw [e_]; rfl))
                  have HNB709_go37 := Aside0.mk (show gb709 ≠ go37 from by have h_ := Kd.R_ne hraw39 BK709.out (by decide); intro e_; exact h_ (by rw [e_]; rfl))
                  have HS39 := HP39.1
                  rw [← Ny715.out] at HS39
                  have HQ39 := Aside0.mk HS39
                  obtain ⟨_, hgg39⟩ := Kd.R_typed hraw39 go37 rfl
                  have GG39_ := Aside0.mk hgg39
                  clear HP39 HS39 hgg39
                  refine hK.out _ _ ⟨(blk_cell BK709.out 0).trans rfl, (blk_cell BK709.out 1).trans rfl, (blk_cell BK709.out 2).trans rfl, HS3_⟩ (fun hHeld => ?_)
                  clear hK K
                  refine norm_ (a' := ?_) ?_ ?_
                  rotate_left
                  ·show Act.put _ (some 43) _ = _
                   simp only [Act.put, List.setIfInBounds_toArray, List.set_cons_zero, List.set_cons_succ, i64_w, i32_w]
                   rfl
                  refine pure_ (i := 10) (N := some 44) (v := ?_) (a' := ?_) #[true, true, true, true, true, true, true, true, true, true, true, false] rfl rfl (any_of HT_.out (by kernel_rfl)) (fun _ _ _ h => h) (Or.inl ⟨by rfl, ?_⟩) ?_ ?_
                  rotate_left
                  ·intro w'
                   go_simp
                   with_reducible rfl
                  rotate_left
                  ·simp only [Act.put, List.setIfInBounds_toArray, List.set_cons_zero, List.set_cons_succ, i64_w, i32_w]
                   rfl
                  refine last_ (i := 11) (N := none) #[true, true, true, true, true, true, true, true, true, true, true, true] rfl rfl (one_of HT_.out (by kernel_rfl)) (by decide) (fun K hK => ?_)
                  refine skip_ (w1 := ?_) (by rfl) rfl ?_ ?_
                  rotate_left
                  ·go_simp
                   rfl
                  refine hK.out _ _ ?_
                  clear hK K
                  refine done_ (done_of HT_.out (by kernel_rfl)) ?_
                  try go_wp2
                  go_roundg k2
                  case measure => have := HK1.out; have := HK2.out; omega
                  case rel => exact ⟨(y715), (wrap64 (x27_2 + 1)), (by first | rfl | (simp; done) | (simp [*]; done)), H', ⟨by have := HK1.out; have := HK2.out; omega⟩, ⟨by (with_reducible repeat (first | apply Kd.S_alloc | apply Kd.S_drewN | apply Kd.S_drew)); exact HQ39.out⟩, ⟨by (with_reducible repeat (first | refine blk_drewN ?_ _ | refine blk_drew ?_ | refine blk_alloc ?_ _)); refine blk_far ?_ HNB701_go37.out _; (with_reducible repeat (first | refine blk_drewN ?_ _ | refine blk_drew ?_ | refine blk_alloc ?_ _)); exact BK701.out⟩, ⟨by (with_reducible repeat (first | refine blk_drewN ?_ _ | refine blk_drew ?_ | refine blk_alloc ?_ _)); refine blk_far ?_ HNB707_go37.out _; (with_reducible repeat (first | refine blk_drewN ?_ _ | refine blk_drew ?_ | refine blk_alloc ?_ _)); exact BK707.out⟩, ⟨by repeat (first | (with_reducible first | exact HB.out | apply below_alloc | apply pw_below_drewN | apply below_drew1 | refine below_set ?_ GB37.out | refine below_set ?_ GE701.out | refine below_set ?_ GE707.out | refine below_set ?_ GE709.out) | exact HB.out)⟩⟩
                 ·rw [if_neg c26] at H
                  exact absurd H (by simp)
                ·rw [if_neg c25] at H
                 exact absurd H (by simp)
               ·rw [if_neg c24] at H
                exact absurd H (by simp)
              ·replace c23 := Bool.eq_false_iff.mpr c23
               subst c23
               have H1 : (impl_AlphaMems.l1 k2 l1 x5_2 x20_1 l0_0 (l0_0.length : Int) x20_1 l1 (l1.length : Int) (wrap64 (x27_2 + 1)) ((rd_T34 l0_0 x20_1).f0) ((rd_T34 l0_0 x20_1).f1) ((rd_T34 l0_0 x20_1).f2)) = some r := by first | (rw [if_neg (show ¬ (false = true) by decide)] at H; exact H) | rfl
               clear H
               have H := H1
               clear H1
               have H' := Aside0.mk H
               clear H
               have p708 : 0 ≤ (x27_2 : Int) := of_decide_eq_true (by first | (with_reducible assumption) | assumption)
               have q708 : x27_2 < (l1.length : Int) := of_decide_eq_true (by first | (with_reducible assumption) | assumption)
               obtain ⟨ad708, A708_2, c708_2, e708, hx708_0, hx708_1, hx708_2, hl708_2, hi708_2⟩ := at_T38 HR1.out x27_2 p708 q708
               cases e708
               replace hx708_0 := (HB.out.cell (World.block_lt_of_cell? w _ hx708_0)).trans hx708_0
               replace hx708_1 := (HB.out.cell (World.block_lt_of_cell? w _ hx708_1)).trans hx708_1
               replace hx708_2 := (HB.out.cell (World.block_lt_of_cell? w _ hx708_2)).trans hx708_2
               have HR708_2 := Aside0.mk hi708_2
               have HC708_2 := Aside0.mk hl708_2
               clear hi708_2 hl708_2
               replace p708 := eq_true p708
               replace q708 := eq_true q708
               go_wp2_with (first | ((with_reducible refine gate_dst (N := 9) rfl ?_); refine box_event ?hg (N := 9) ?hd (cs := #[.int .i64 0, .string (⟨#[]⟩ : ByteArray), .slice none 0 0]) (t := 38) ?hr ?_; (case hd => rfl); (case hg => rfl); (case hr => first | (go_simp; done) | (go_simp; rfl)); intro gb709 hg w42 hbox hb; have n0_ := Aside0.mk (Kd.S_below (by (with_reducible repeat (first | apply Kd.S_alloc | apply Kd.S_drewN | apply Kd.S_drew)); exact HO_5.out) hb); have n1_ := Aside0.mk (blk_below (g := gb701) (o := .cells #[.slice (some ad706) l0_0.length c0_0, .slice A0_1 l0_1.length c0_1] 81 (0, 0)) (by (with_reducible repeat (first | refine blk_drewN ?_ _ | refine blk_drew ?_ | refine blk_alloc ?_ _)); exact BK701.out) hb); have n2_ := Aside0.mk (blk_below (g := gb707) (o := .cells #[.string ((rd_T34 l0_0 x20_1).f0), .int .i64 ((rd_T34 l0_0 x20_1).f1), .slice A706_2 ((rd_T34 l0_0 x20_1).f2).length c706_2] 34 (0, 0)) (by (with_reducible repeat (first | refine blk_drewN ?_ _ | refine blk_drew ?_ | refine blk_alloc ?_ _)); exact BK707.out) hb); have n3_ := Aside0.mk (below_step (by repeat (first | (with_reducible first | exact HB.out | apply below_alloc | apply pw_below_drewN | apply below_drew1 | refine below_set ?_ GE701.out | refine below_set ?_ GE707.out) | exact HB.out)) hb); have n4_ := Aside0.mk (hbox); have n5_ := Aside0.mk ((by rw [hg]; exact (below_size (by repeat (first | (with_reducible first | exact HB.out | apply below_alloc | apply pw_below_drewN | apply below_drew1 | refine below_set ?_ GE701.out | refine below_set ?_ GE707.out) | exact HB.out))) : w.heap.size ≤ gb709)); have n6_ := Aside0.mk ((by rw [hg]; exact (below_size (by repeat (first | (with_reducible first | exact HB.out | apply below_alloc | apply pw_below_drewN | apply below_drew1 | refine below_set ?_ GE701.out | refine below_set ?_ GE707.out) | exact HB.out))) : w.heap.size ≤ gb709)); have n7_ := Aside0.mk ((by rw [hg]; exact Nat.ne_of_lt (blk_lt (g := gb701) (o := .cells #[.slice (some ad706) l0_0.length c0_0, .slice A0_1 l0_1.length c0_1] 81 (0, 0)) (by (with_reducible repeat (first | refine blk_drewN ?_ _ | refine blk_drew ?_ | refine blk_alloc ?_ _)); exact BK701.out)) : gb701 ≠ gb709)); have n8_ := Aside0.mk ((by rw [hg]; exact Nat.ne_of_gt (blk_lt (g := gb701) (o := .cells #[.slice (some ad706) l0_0.length c0_0, .slice A0_1 l0_1.length c0_1] 81 (0, 0)) (by (with_reducible repeat (first | refine blk_drewN ?_ _ | refine blk_drew ?_ | refine blk_alloc ?_ _)); exact BK701.out)) : gb709 ≠ gb701)); have n9_ := Aside0.mk ((by rw [hg]; exact Nat.ne_of_lt (blk_lt (g := gb707) (o := .cells #[.string ((rd_T34 l0_0 x20_1).f0), .int .i64 ((rd_T34 l0_0 x20_1).f1), .slice A706_2 ((rd_T34 l0_0 x20_1).f2).length c706_2] 34 (0, 0)) (by (with_reducible repeat (first | refine blk_drewN ?_ _ | refine blk_drew ?_ | refine blk_alloc ?_ _)); exact BK707.out)) : gb707 ≠ gb709)); have n10_ := Aside0.mk ((by rw [hg]; exact Nat.ne_of_gt (blk_lt (g := gb707) (o := .cells #[.string ((rd_T34 l0_0 x20_1).f0), .int .i64 ((rd_T34 l0_0 x20_1).f1), .slice A706_2 ((rd_T34 l0_0 x20_1).f2).length c706_2] 34 (0, 0)) (by (with_reducible repeat (first | refine blk_drewN ?_ _ | refine blk_drew ?_ | refine blk_alloc ?_ _)); exact BK707.out)) : gb709 ≠ gb707)); clear HO_5; clear BK701; clear BK707; clear HB; have HO_5 := n0_; have BK701 := n1_; have BK707 := n2_; have HB := n3_; have BK709 := n4_; have GW709 := n5_; have GE709 := n6_; have NB701_709 := n7_; have NB709_701 := n8_; have NB707_709 := n9_; have NB709_707 := n10_; clear n0_ n1_ n2_ n3_ n4_ n5_ n6_ n7_ n8_ n9_ n10_; clear hb hbox hg; have hnb43 := NB709_701.out; have hnc43 := NB701_709.out; have hnb44 := NB709_707.out; have hnc44 := NB707_709.out; have hcz45_0 : w42.cell? ⟨gb709, 0, none⟩ = some (.int .i64 0) := (blk_cell BK709.out 0).trans rfl; have hcz45_1 : w42.cell? ⟨gb709, 1, none⟩ = some (.string (⟨#[]⟩ : ByteArray)) := (blk_cell BK709.out 1).trans rfl; have hcz45_2 : w42.cell? ⟨gb709, 2, none⟩ = some (.slice none 0 0) := (blk_cell BK709.out 2).trans rfl; have hfz45_0 := blk_frozen BK709.out 0; have hfz45_1 := blk_frozen BK709.out 1; have hfz45_2 := blk_frozen BK709.out 2; have hnb46 := NB707_701.out; have hnc46 := NB701_707.out; have hcz47_0 : w42.cell? ⟨gb707, 0, none⟩ = some (.string ((rd_T34 l0_0 x20_1).f0)) := (blk_cell BK707.out 0).trans rfl; have hcz47_1 : w42.cell? ⟨gb707, 1, none⟩ = some (.int .i64 ((rd_T34 l0_0 x20_1).f1)) := (blk_cell BK707.out 1).trans rfl; have hcz47_2 : w42.cell? ⟨gb707, 2, none⟩ = some (.slice A706_2 ((rd_T34 l0_0 x20_1).f2).length c706_2) := (blk_cell BK707.out 2).trans rfl; have hfz47_0 := blk_frozen BK707.out 0; have hfz47_1 := blk_frozen BK707.out 1; have hfz47_2 := blk_frozen BK707.out 2) | ((with_reducible refine gate_callee (f := 15) rfl ?_); refine goesL_ (some 33) rfl rfl Try.func15 (by kernel_rfl) rfl #[.agg #[.string ((rd_T34 l0_0 x20_1).f0), .int .i64 ((rd_T34 l0_0 x20_1).f1), .slice A706_2 ((rd_T34 l0_0 x20_1).f2).length c706_2], .agg #[.int .i64 ((rd_T38 l1 x27_2).f0), .string ((rd_T38 l1 x27_2).f1), .slice A708_2 ((rd_T38 l1 x27_2).f2).length c708_2]] rfl (by (try simp only [List.map_toArray, List.map_cons, List.map_nil]); first | done | rfl | (simp only [List.length_drop, List.length_take]; rfl)) ?_; (with_reducible refine (impl_AlphaPass.calls ((rd_T34 l0_0 x20_1).f0) ((rd_T34 l0_0 x20_1).f1) _ _ ((rd_T34 l0_0 x20_1).f2) ((rd_T38 l1 x27_2).f0) ((rd_T38 l1 x27_2).f1) _ _ ((rd_T38 l1 x27_2).f2) false _ ?side1 ?side2 ?side3 ?side4 A22.out).mono ?_); (case side1 => exact Kd.C_below HR706_2.out (by repeat (first | (with_reducible first | exact HB.out | apply below_alloc | apply pw_below_drewN | apply below_drew1 | refine below_set ?_ GE701.out | refine below_set ?_ GE707.out | refine below_set ?_ GE709.out) | exact HB.out))); (case side2 => exact HC706_2.out); (case side3 => exact Kd.C_below HR708_2.out (by repeat (first | (with_reducible first | exact HB.out | apply below_alloc | apply pw_below_drewN | apply below_drew1 | refine below_set ?_ GE701.out | refine below_set ?_ GE707.out | refine below_set ?_ GE709.out) | exact HB.out))); (case side4 => exact HC708_2.out); rintro e w48 ⟨rfl, hb⟩; refine ⟨_, rfl, ?_⟩; have n0_ := Aside0.mk (Kd.S_below (by (with_reducible repeat (first | apply Kd.S_alloc | apply Kd.S_drewN | apply Kd.S_drew)); exact (Kd.S_mono (Kd.S_far (p := ⟨gb709, 2, none⟩) (Kd.S_far (p := ⟨gb709, 1, none⟩) (Kd.S_far (p := ⟨gb709, 0, none⟩) (Kd.S_types HO_5.out BK709.out (by decide)) (fun _ hk => hk.2) (.int .i64 ((rd_T38 l1 x27_2).f0))) (fun _ hk => hk.2) (.string ((rd_T38 l1 x27_2).f1))) (fun _ hk => hk.2) (.slice A708_2 ((rd_T38 l1 x27_2).f2).length c708_2)) (fun _ h_ => h_.1))) hb); have n1_ := Aside0.mk (blk_below (g := gb701) (o := .cells #[.slice (some ad706) l0_0.length c0_0, .slice A0_1 l0_1.length c0_1] 81 (0, 0)) (by (with_reducible repeat (first | refine blk_drewN ?_ _ | refine blk_drew ?_ | refine blk_alloc ?_ _)); refine blk_far ?_ NB701_709.out _; (with_reducible repeat (first | refine blk_drewN ?_ _ | refine blk_drew ?_ | refine blk_alloc ?_ _)); refine blk_far ?_ NB701_709.out _; (with_reducible repeat (first | refine blk_drewN ?_ _ | refine blk_drew ?_ | refine blk_alloc ?_ _)); refine blk_far ?_ NB701_709.out _; (with_reducible repeat (first | refine blk_drewN ?_ _ | refine blk_drew ?_ | refine blk_alloc ?_ _)); exact BK701.out) hb); have n2_ := Aside0.mk (blk_below (g := gb707) (o := .cells #[.string ((rd_T34 l0_0 x20_1).f0), .int .i64 ((rd_T34 l0_0 x20_1).f1), .slice A706_2 ((rd_T34 l0_0 x20_1).f2).length c706_2] 34 (0, 0)) (by (with_reducible repeat (first | refine blk_drewN ?_ _ | refine blk_drew ?_ | refine blk_alloc ?_ _)); refine blk_far ?_ NB707_709.out _; (with_reducible repeat (first | refine blk_drewN ?_ _ | refine blk_drew ?_ | refine blk_alloc ?_ _)); refine blk_far ?_ NB707_709.out _; (with_reducible repeat (first | refine blk_drewN ?_ _ | refine blk_drew ?_ | refine blk_alloc ?_ _)); refine blk_far ?_ NB707_709.out _; (with_reducible repeat (first | refine blk_drewN ?_ _ | refine blk_drew ?_ | refine blk_alloc ?_ _)); exact BK707.out) hb); have n3_ := Aside0.mk (blk_below (g := gb709) (o := .cells #[.int .i64 ((rd_T38 l1 x27_2).f0), .string ((rd_T38 l1 x27_2).f1), .slice A708_2 ((rd_T38 l1 x27_2).f2).length c708_2] 38 (0, 0)) (by (with_reducible repeat (first | refine blk_drewN ?_ _ | refine blk_drew ?_ | refine blk_alloc ?_ _)); refine blk_put (cs := #[.int .i64 ((rd_T38 l1 x27_2).f0), .string ((rd_T38 l1 x27_2).f1), .slice none 0 0]) ?_ 2 _ rfl; (with_reducible repeat (first | refine blk_drewN ?_ _ | refine blk_drew ?_ | refine blk_alloc ?_ _)); refine blk_put (cs := #[.int .i64 ((rd_T38 l1 x27_2).f0), .string (⟨#[]⟩ : ByteArray), .slice none 0 0]) ?_ 1 _ rfl; (with_reducible repeat (first | refine blk_drewN ?_ _ | refine blk_drew ?_ | refine blk_alloc ?_ _)); refine blk_put (cs := #[.int .i64 0, .string (⟨#[]⟩ : ByteArray), .slice none 0 0]) ?_ 0 _ rfl; (with_reducible repeat (first | refine blk_drewN ?_ _ | refine blk_drew ?_ | refine blk_alloc ?_ _)); exact BK709.out) hb); have n4_ := Aside0.mk (below_step (by repeat (first | (with_reducible first | exact HB.out | apply below_alloc | apply pw_below_drewN | apply below_drew1 | refine below_set ?_ GE701.out | refine below_set ?_ GE707.out | refine below_set ?_ GE709.out) | exact HB.out)) hb); clear HO_5; clear BK701; clear BK707; clear BK709; clear HB; have HO_5 := n0_; have BK701 := n1_; have BK707 := n2_; have BK709 := n3_; have HB := n4_; clear n0_ n1_ n2_ n3_ n4_; (try clear hb); (try clear hb2); (try clear hk); (try clear hi)))
               go_roundg k2
               case measure => have := HK1.out; have := HK2.out; omega
               case rel => exact ⟨(x5_2), (wrap64 (x27_2 + 1)), (by first | rfl | (simp; done) | (simp [*]; done)), H', ⟨by have := HK1.out; have := HK2.out; omega⟩, ⟨by (with_reducible repeat (first | apply Kd.S_alloc | apply Kd.S_drewN | apply Kd.S_drew)); exact HO_5.out⟩, ⟨by (with_reducible repeat (first | refine blk_drewN ?_ _ | refine blk_drew ?_ | refine blk_alloc ?_ _)); exact BK701.out⟩, ⟨by (with_reducible repeat (first | refine blk_drewN ?_ _ | refine blk_drew ?_ | refine blk_alloc ?_ _)); exact BK707.out⟩, ⟨by repeat (first | (with_reducible first | exact HB.out | apply below_alloc | apply pw_below_drewN | apply below_drew1 | refine below_set ?_ GE701.out | refine below_set ?_ GE707.out | refine below_set ?_ GE709.out) | exact HB.out)⟩⟩
             ·rw [if_neg c21] at H
              exact absurd H (by simp)
            ·rw [if_neg c20] at H
             exact absurd H (by simp)
           ·rw [if_neg c19] at H
            have c19b0 : decide (x27_2 < (l1.length : Int)) = false := decide_eq_false c19
            clear c19
            have H' := Aside0.mk H
            clear H
            go_wp2
            go_roundg k2
            case measure => have := HK1.out; have := HK2.out; omega
            case rel => exact ⟨(x5_2), (wrap64 (x20_1 + 1)), (by first | rfl | (simp; done) | (simp [*]; done)), H', ⟨by have := HK1.out; have := HK2.out; omega⟩, ⟨by (with_reducible repeat (first | apply Kd.S_alloc | apply Kd.S_drewN | apply Kd.S_drew)); exact HO_5.out⟩, ⟨by (with_reducible repeat (first | refine blk_drewN ?_ _ | refine blk_drew ?_ | refine blk_alloc ?_ _)); exact BK701.out⟩, ⟨by repeat (first | (with_reducible first | exact HB.out | apply below_alloc | apply pw_below_drewN | apply below_drew1 | refine below_set ?_ GE701.out | refine below_set ?_ GE707.out) | exact HB.out)⟩⟩
        ·rw [if_neg c15] at H
         exact absurd H (by simp)
       ·rw [if_neg c14] at H
        exact absurd H (by simp)
      ·rw [if_neg c13] at H
       have c13b0 : decide (x20_1 < (l0_0.length : Int)) = false := decide_eq_false c13
       clear c13
       obtain rfl := Option.some.inj H
       go_wp2
       go_ret
       exact ⟨_, by first | rfl | (simp [errW_none, errW_some] <;> rfl) | (simp [*, errW_none, errW_some] <;> rfl), by (with_reducible repeat (first | apply Kd.S_alloc | apply Kd.S_drewN | apply Kd.S_drew)); exact HO_5.out, by repeat (first | (with_reducible first | exact HB.out | apply below_alloc | apply pw_below_drewN | apply below_drew1 | refine below_set ?_ GE701.out) | exact HB.out)⟩
   ·rw [if_neg c6] at H
    exact absurd H (by simp)
  ·rw [if_neg c5] at H
   exact absurd H (by simp)
 ·replace c4 := Bool.eq_false_iff.mpr c4
  subst c4
  have H1 : (some ([] : List (List Int))) = some r := by first | (rw [if_neg (show ¬ (false = true) by decide)] at H; exact H) | rfl
  clear H
  have H := H1
  clear H1
  obtain rfl := Option.some.inj H
  go_enter Try.func42, Try.ntmps42
  go_wp2_with (first | ((with_reducible refine gate_dst (N := 2) rfl ?_); refine box_event ?hg (N := 2) ?hd (cs := #[.slice A0_0 l0_0.length c0_0, .slice A0_1 l0_1.length c0_1]) (t := 81) ?hr ?_; (case hd => rfl); (case hg => rfl); (case hr => first | (go_simp; done) | (go_simp; rfl)); intro gb701 hg w49 hbox hb; have n0_ := Aside0.mk (below_step (by repeat (first | (with_reducible first | exact HB.out | apply below_alloc | apply pw_below_drewN | apply below_drew1) | exact HB.out)) hb); have n1_ := Aside0.mk (hbox); have n2_ := Aside0.mk ((by rw [hg]; exact (below_size (by repeat (first | (with_reducible first | exact HB.out | apply below_alloc | apply pw_below_drewN | apply below_drew1) | exact HB.out))) : w.heap.size ≤ gb701)); have n3_ := Aside0.mk ((by rw [hg]; exact (below_size (by repeat (first | (with_reducible first | exact HB.out | apply below_alloc | apply pw_below_drewN | apply below_drew1) | exact HB.out))) : w.heap.size ≤ gb701)); clear HB; have HB := n0_; have BK701 := n1_; have GW701 := n2_; have GE701 := n3_; clear n0_ n1_ n2_ n3_; clear hb hbox hg) | ((with_reducible refine gate_callee (f := 68) rfl ?_); refine goesL_ (some 11) rfl rfl Try.func68 (by kernel_rfl) rfl #[.slice A1 l1.length c1] rfl (by (try simp only [List.map_toArray, List.map_cons, List.map_nil]); first | done | rfl | (simp only [List.length_drop, List.length_take]; rfl)) ?_; (with_reducible refine (impl_goodFacts.calls k _ _ l1 false _ ?side1 ?side2 A3.out).mono ?_); (case side1 => repeat (first | exact (Kd.C_below HR1.out HB.out) | (with_reducible refine Kd.C_alloc ?_ _) | (with_reducible refine Kd.C_drewN ?_ _) | (with_reducible refine Kd.C_drew ?_))); (case side2 => exact HC1.out); rintro e w50 ⟨rfl, hb⟩; refine ⟨_, rfl, ?_⟩; have n0_ := Aside0.mk (blk_below (g := gb701) (o := .cells #[.slice A0_0 l0_0.length c0_0, .slice A0_1 l0_1.length c0_1] 81 (0, 0)) (by (with_reducible repeat (first | refine blk_drewN ?_ _ | refine blk_drew ?_ | refine blk_alloc ?_ _)); exact BK701.out) hb); have n1_ := Aside0.mk (below_step (by repeat (first | (with_reducible first | exact HB.out | apply below_alloc | apply pw_below_drewN | apply below_drew1 | refine below_set ?_ GE701.out) | exact HB.out)) hb); clear BK701; clear HB; have BK701 := n0_; have HB := n1_; clear n0_ n1_; (try clear hb); (try clear hb2); (try clear hk); (try clear hi)))
  go_ret
  exact ⟨_, by first | rfl | (simp [errW_none, errW_some] <;> rfl) | (simp [*, errW_none, errW_some] <;> rfl), by first | exact Kd.S_nil _ _ _ _ _ | exact Kd.N_nil _ _ _ _ _ | exact Kd.V_nil _ _ _ _ _ | exact Kd.Q_nil _ _ _ _ _ | exact Kd.R_nil _ _ _ _ _, by repeat (first | (with_reducible first | exact HB.out | apply below_alloc | apply pw_below_drewN | apply below_drew1 | refine below_set ?_ GE701.out) | exact HB.out)⟩
end Go.Proofs.Ytoncacdehhmpaaa.P
namespace Go.Proofs.Ytoncacdehhmpaaa.P
open Go.RowKit Go.Proofs.YtoncacdehhmpaaaW.PrintWords Go.Proofs.YtoncacdehhmpaaaW.PrintLast Go.Proofs.YtoncacdehhmpaaaW.PrintMore
attribute [local go_sem] max2_int min2_int max_two min_two max_three min_three max_four min_four
set_option linter.unusedVariables false
set_option linter.unusedSimpArgs false
def recencyL (l : List Int) : List Int := if 1000 < l.length then [] else (l.mergeSort fun x y => decide (x ≤ y)).reverse
def impl_Recency.f (l0 : List Int) : Option (List Int) := some (recencyL l0)
end Go.Proofs.Ytoncacdehhmpaaa.P
