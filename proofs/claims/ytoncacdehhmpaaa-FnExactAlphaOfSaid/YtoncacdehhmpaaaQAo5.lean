/- The row of the law FnExactAlphaOf: for every input the call returns true, and each argument reads behind it as it read before; no condition of ours. -/
import Derived.ChangeArms
import Derived.DataReads
import Derived.WideShapes
import Derived.Test.YtoncacdehhmpaaaQAo4
namespace Go.Proofs.Ytoncacdehhmpaaa.P
open Go.RowKit Go.Proofs.YtoncacdehhmpaaaW.PrintWords Go.Proofs.YtoncacdehhmpaaaW.PrintLast Go.Proofs.YtoncacdehhmpaaaW.PrintMore
attribute [local go_sem] max2_int min2_int max_two min_two max_three min_three max_four min_four
set_option linter.unusedVariables false
set_option linter.unusedSimpArgs false
def laws_heldAlpha.f (k : Nat) (a0_0 : ByteArray) (a0_1 : Int) (l0_2 : List (S106)) (a1 : Int) : Option (Int) := (laws_heldAlphaTestS.f k l0_2 a1).bind fun t402 => (if t402 < 0 then (some (-1)) else (some t402))
theorem laws_heldAlpha.mono : ∀ a0 a1 a2 a3 k, LeO (laws_heldAlpha.f k a0 a1 a2 a3) (laws_heldAlpha.f (k + 1) a0 a1 a2 a3) := by
  intro a0 a1 a2 a3 k
  unfold laws_heldAlpha.f
  repeat' first
      | (with_reducible exact laws_heldAlphaTestS.mono _ _ _)
      | (with_reducible exact LeO.refl _)
      | (with_reducible exact LeO.none _)
      | (with_reducible refine LeO.ite ?_ ?_)
      | (with_reducible refine LeO.bind ?_ (fun _ => ?_))
      | exact laws_heldAlphaTestS.mono _ _ _
      | exact LeO.none _
      | refine LeO.ite ?_ ?_
      | refine LeO.bind ?_ (fun _ => ?_)
set_option maxHeartbeats 8000000 in
set_option maxRecDepth 100000 in
theorem laws_heldAlpha.calls (k : Nat) (a0_0 : ByteArray) (a0_1 : Int) (A0_2 : Option Addr) (c0_2 : Nat) (l0_2 : List (S106)) (a1 : Int) (r : Int) (w : World) (hr0_2 : Kd.C k106 w A0_2 l0_2.length l0_2) (hc0_2 : l0_2.length ≤ c0_2) (h : laws_heldAlpha.f k a0_0 a0_1 l0_2 a1 = some r) :
    Calls Try.prog 30 #[.agg #[.string a0_0, .int .i64 a0_1, .slice A0_2 l0_2.length c0_2], .int .i64 a1] w fun e w' => e = .returned (.int .i64 r) ∧ Below w.heap.size w w' := by
  have hu34 := Try.underlying34
  have HR0_2 := Aside0.mk hr0_2
  have HC0_2 := Aside0.mk hc0_2
  clear hr0_2 hc0_2
  have HB := Aside0.mk (Below.refl w.heap.size w)
  have H : ((laws_heldAlphaTestS.f k l0_2 a1).bind fun t402 => (if t402 < 0 then (some (-1)) else (some t402))) = some r := h
  clear h
  replace H := Option.bind_eq_some_iff.mp H
  obtain ⟨t402, A30, H⟩ := H
  replace H : (if t402 < 0 then (some (-1)) else (some t402)) = some r := H
  have A3 := Aside0.mk A30
  clear A30
  by_cases c4 : t402 < 0
  · rw [if_pos c4] at H
    have c4b0 : decide (t402 < 0) = true := decide_eq_true c4
    clear c4
    obtain rfl := Option.some.inj H
    go_enter Try.func30, Try.ntmps30
    go_wp2_with (first | ((with_reducible refine gate_dst (N := 2) rfl ?_); refine box_event ?hg (N := 2) ?hd (cs := #[.string a0_0, .int .i64 a0_1, .slice A0_2 l0_2.length c0_2]) (t := 34) ?hr ?_; (case hd => rfl); (case hg => rfl); (case hr => first | (go_simp; done) | (go_simp; rfl)); intro gb401 hg w5 hbox hb; have n0_ := Aside0.mk (below_step (by repeat (first | (with_reducible first | exact HB.out | apply below_alloc | apply pw_below_drewN | apply below_drew1) | exact HB.out)) hb); have n1_ := Aside0.mk (hbox); have n2_ := Aside0.mk ((by rw [hg]; exact (below_size (by repeat (first | (with_reducible first | exact HB.out | apply below_alloc | apply pw_below_drewN | apply below_drew1) | exact HB.out))) : w.heap.size ≤ gb401)); have n3_ := Aside0.mk ((by rw [hg]; exact (below_size (by repeat (first | (with_reducible first | exact HB.out | apply below_alloc | apply pw_below_drewN | apply below_drew1) | exact HB.out))) : w.heap.size ≤ gb401)); clear HB; have HB := n0_; have BK401 := n1_; have GW401 := n2_; have GE401 := n3_; clear n0_ n1_ n2_ n3_; clear hb hbox hg; have hcz6_0 : w5.cell? ⟨gb401, 0, none⟩ = some (.string a0_0) := (blk_cell BK401.out 0).trans rfl; have hcz6_1 : w5.cell? ⟨gb401, 1, none⟩ = some (.int .i64 a0_1) := (blk_cell BK401.out 1).trans rfl; have hcz6_2 : w5.cell? ⟨gb401, 2, none⟩ = some (.slice A0_2 l0_2.length c0_2) := (blk_cell BK401.out 2).trans rfl; have hfz6_0 := blk_frozen BK401.out 0; have hfz6_1 := blk_frozen BK401.out 1; have hfz6_2 := blk_frozen BK401.out 2) | ((with_reducible refine gate_callee (f := 78) rfl ?_); refine goesL_ (some 8) rfl rfl Try.func78 (by kernel_rfl) rfl #[.slice A0_2 l0_2.length c0_2, .int .i64 a1] rfl (by (try simp only [List.map_toArray, List.map_cons, List.map_nil]); first | done | rfl | (simp only [List.length_drop, List.length_take]; rfl)) ?_; (with_reducible refine (laws_heldAlphaTestS.calls k _ _ l0_2 a1 t402 _ ?side1 ?side2 A3.out).mono ?_); (case side1 => repeat (first | exact (Kd.C_below HR0_2.out HB.out) | (with_reducible refine Kd.C_alloc ?_ _) | (with_reducible refine Kd.C_drewN ?_ _) | (with_reducible refine Kd.C_drew ?_))); (case side2 => exact HC0_2.out); rintro e w7 ⟨rfl, hb⟩; refine ⟨_, rfl, ?_⟩; have n0_ := Aside0.mk (blk_below (g := gb401) (o := .cells #[.string a0_0, .int .i64 a0_1, .slice A0_2 l0_2.length c0_2] 34 (0, 0)) (by (with_reducible repeat (first | refine blk_drewN ?_ _ | refine blk_drew ?_ | refine blk_alloc ?_ _)); exact BK401.out) hb); have n1_ := Aside0.mk (below_step (by repeat (first | (with_reducible first | exact HB.out | apply below_alloc | apply pw_below_drewN | apply below_drew1 | refine below_set ?_ GE401.out) | exact HB.out)) hb); clear BK401; clear HB; have BK401 := n0_; have HB := n1_; clear n0_ n1_; (try clear hb); (try clear hb2); (try clear hk); (try clear hi)))
    go_ret
    exact ⟨by first | rfl | (simp [errW_none, errW_some] <;> rfl) | (simp [*, errW_none, errW_some] <;> rfl), by repeat (first | (with_reducible first | exact HB.out | apply below_alloc | apply pw_below_drewN | apply below_drew1 | refine below_set ?_ GE401.out) | exact HB.out)⟩
  · rw [if_neg c4] at H
    have c4b0 : decide (t402 < 0) = false := decide_eq_false c4
    clear c4
    obtain rfl := Option.some.inj H
    go_enter Try.func30, Try.ntmps30
    go_wp2_with (first | ((with_reducible refine gate_dst (N := 2) rfl ?_); refine box_event ?hg (N := 2) ?hd (cs := #[.string a0_0, .int .i64 a0_1, .slice A0_2 l0_2.length c0_2]) (t := 34) ?hr ?_; (case hd => rfl); (case hg => rfl); (case hr => first | (go_simp; done) | (go_simp; rfl)); intro gb401 hg w8 hbox hb; have n0_ := Aside0.mk (below_step (by repeat (first | (with_reducible first | exact HB.out | apply below_alloc | apply pw_below_drewN | apply below_drew1) | exact HB.out)) hb); have n1_ := Aside0.mk (hbox); have n2_ := Aside0.mk ((by rw [hg]; exact (below_size (by repeat (first | (with_reducible first | exact HB.out | apply below_alloc | apply pw_below_drewN | apply below_drew1) | exact HB.out))) : w.heap.size ≤ gb401)); have n3_ := Aside0.mk ((by rw [hg]; exact (below_size (by repeat (first | (with_reducible first | exact HB.out | apply below_alloc | apply pw_below_drewN | apply below_drew1) | exact HB.out))) : w.heap.size ≤ gb401)); clear HB; have HB := n0_; have BK401 := n1_; have GW401 := n2_; have GE401 := n3_; clear n0_ n1_ n2_ n3_; clear hb hbox hg; have hcz9_0 : w8.cell? ⟨gb401, 0, none⟩ = some (.string a0_0) := (blk_cell BK401.out 0).trans rfl; have hcz9_1 : w8.cell? ⟨gb401, 1, none⟩ = some (.int .i64 a0_1) := (blk_cell BK401.out 1).trans rfl; have hcz9_2 : w8.cell? ⟨gb401, 2, none⟩ = some (.slice A0_2 l0_2.length c0_2) := (blk_cell BK401.out 2).trans rfl; have hfz9_0 := blk_frozen BK401.out 0; have hfz9_1 := blk_frozen BK401.out 1; have hfz9_2 := blk_frozen BK401.out 2) | ((with_reducible refine gate_callee (f := 78) rfl ?_); refine goesL_ (some 8) rfl rfl Try.func78 (by kernel_rfl) rfl #[.slice A0_2 l0_2.length c0_2, .int .i64 a1] rfl (by (try simp only [List.map_toArray, List.map_cons, List.map_nil]); first | done | rfl | (simp only [List.length_drop, List.length_take]; rfl)) ?_; (with_reducible refine (laws_heldAlphaTestS.calls k _ _ l0_2 a1 t402 _ ?side1 ?side2 A3.out).mono ?_); (case side1 => repeat (first | exact (Kd.C_below HR0_2.out HB.out) | (with_reducible refine Kd.C_alloc ?_ _) | (with_reducible refine Kd.C_drewN ?_ _) | (with_reducible refine Kd.C_drew ?_))); (case side2 => exact HC0_2.out); rintro e w10 ⟨rfl, hb⟩; refine ⟨_, rfl, ?_⟩; have n0_ := Aside0.mk (blk_below (g := gb401) (o := .cells #[.string a0_0, .int .i64 a0_1, .slice A0_2 l0_2.length c0_2] 34 (0, 0)) (by (with_reducible repeat (first | refine blk_drewN ?_ _ | refine blk_drew ?_ | refine blk_alloc ?_ _)); exact BK401.out) hb); have n1_ := Aside0.mk (below_step (by repeat (first | (with_reducible first | exact HB.out | apply below_alloc | apply pw_below_drewN | apply below_drew1 | refine below_set ?_ GE401.out) | exact HB.out)) hb); clear BK401; clear HB; have BK401 := n0_; have HB := n1_; clear n0_ n1_; (try clear hb); (try clear hb2); (try clear hk); (try clear hi)))
    go_ret
    exact ⟨by first | rfl | (simp [errW_none, errW_some] <;> rfl) | (simp [*, errW_none, errW_some] <;> rfl), by repeat (first | (with_reducible first | exact HB.out | apply below_alloc | apply pw_below_drewN | apply below_drew1 | refine below_set ?_ GE401.out) | exact HB.out)⟩
def laws_FnExactAlphaOf.j0 : Nat → Bool → Bool → ByteArray → List (S174) → ByteArray → Int → List (S106) → ByteArray → Int → List (S106) → Option (Bool)
  | 0, _, _, _, _, _, _, _, _, _, _ => none
  | k + 1, x42, x404000, x404001, x404002, x416000, x416001, x416002, x428000, x428001, x428002 => if x42 = true then (some false) else ((laws_markAlpha.f k x428000 x428001 x428002 1).bind fun bt438 => ((laws_heldAlpha.f k x428000 x428001 bt438.2 1).bind fun t440 => (if t440 < 0 then (some false) else (if t440 = bt438.1 then ((laws_toPattern.f k x404000 x404001 x404002).bind fun bt441 => ((impl_AlphaOf.f bt441.1 bt441.2.1 bt441.2.2).bind fun bt446 => ((laws_eqAlpha.f k bt446.1 bt446.2.1 bt446.2.2 x416000 x416001 x416002).bind fun t452 => (if t452 = true then ((laws_heldAlpha.f k x428000 x428001 bt438.2 1).bind fun t453 => (if t453 < 0 then (some false) else (if t453 = bt438.1 then (some true) else (some false)))) else (some false))))) else (some false)))))
def laws_FnExactAlphaOf.f (k : Nat) (a0_0 : Bool) (a0_1 : ByteArray) (l0_2 : List (S174)) : Option (Bool) := (laws_szPattern.f k a0_0 a0_1 l0_2 1048576).bind fun t404 => (if t404 < 0 then (some true) else ((laws_toPattern.f k a0_0 a0_1 l0_2).bind fun bt405 => ((spec_AlphaOf.f k bt405.1 bt405.2.1 bt405.2.2).bind fun bt410 => ((laws_toPattern.f k a0_0 a0_1 l0_2).bind fun bt416 => ((impl_AlphaOf.f bt416.1 bt416.2.1 bt416.2.2).bind fun bt422 => ((laws_eqAlpha.f k bt422.1 bt422.2.1 bt422.2.2 bt410.1 bt410.2.1 bt410.2.2).bind fun t428 => (if t428 = true then ((laws_toPattern.f k a0_0 a0_1 l0_2).bind fun bt429 => ((laws_eqPattern.f k bt416.1 bt416.2.1 bt416.2.2 bt429.1 bt429.2.1 bt429.2.2).bind fun t434 => (if t434 = true then ((laws_markPattern.f k bt416.1 bt416.2.1 bt416.2.2 1).bind fun bt435 => (if bt435.1 < 0 then (laws_FnExactAlphaOf.j0 k true a0_0 a0_1 l0_2 bt410.1 bt410.2.1 bt410.2.2 bt422.1 bt422.2.1 bt422.2.2) else ((laws_eqAlpha.f k bt422.1 bt422.2.1 bt422.2.2 bt410.1 bt410.2.1 bt410.2.2).bind fun t437 => (laws_FnExactAlphaOf.j0 k (!t437) a0_0 a0_1 l0_2 bt410.1 bt410.2.1 bt410.2.2 bt422.1 bt422.2.1 bt422.2.2)))) else (some false)))) else (some false))))))))
theorem laws_FnExactAlphaOf.mono_l : ∀ k, (∀ y0 y1 y2 y3 y4 y5 y6 y7 y8 y9, LeO (laws_FnExactAlphaOf.j0 k y0 y1 y2 y3 y4 y5 y6 y7 y8 y9) (laws_FnExactAlphaOf.j0 (k + 1) y0 y1 y2 y3 y4 y5 y6 y7 y8 y9))
  | 0 => fun _ _ _ _ _ _ _ _ _ _ r h => by simp [laws_FnExactAlphaOf.j0] at h
  | k + 1 => by
    have ih0 := laws_FnExactAlphaOf.mono_l k
    · intro y0 y1 y2 y3 y4 y5 y6 y7 y8 y9
      unfold laws_FnExactAlphaOf.j0
      repeat' first
      | (with_reducible exact ih0 _ _ _ _ _ _ _ _ _ _)
      | (with_reducible exact laws_eqAlpha.mono _ _ _ _ _ _ _)
      | (with_reducible exact laws_eqPattern.mono _ _ _ _ _ _ _)
      | (with_reducible exact laws_heldAlpha.mono _ _ _ _ _)
      | (with_reducible exact laws_markAlpha.mono _ _ _ _ _)
      | (with_reducible exact laws_markPattern.mono _ _ _ _ _)
      | (with_reducible exact laws_szPattern.mono _ _ _ _ _)
      | (with_reducible exact laws_toPattern.mono _ _ _ _)
      | (with_reducible exact spec_AlphaOf.mono _ _ _ _)
      | (with_reducible exact LeO.refl _)
      | (with_reducible exact LeO.none _)
      | (with_reducible refine LeO.ite ?_ ?_)
      | (with_reducible refine LeO.bind ?_ (fun _ => ?_))
      | exact ih0 _ _ _ _ _ _ _ _ _ _
      | exact laws_eqAlpha.mono _ _ _ _ _ _ _
      | exact laws_eqPattern.mono _ _ _ _ _ _ _
      | exact laws_heldAlpha.mono _ _ _ _ _
      | exact laws_markAlpha.mono _ _ _ _ _
      | exact laws_markPattern.mono _ _ _ _ _
      | exact laws_szPattern.mono _ _ _ _ _
      | exact laws_toPattern.mono _ _ _ _
      | exact spec_AlphaOf.mono _ _ _ _
      | exact LeO.none _
      | refine LeO.ite ?_ ?_
      | refine LeO.bind ?_ (fun _ => ?_)
theorem laws_FnExactAlphaOf.mono : ∀ a0 a1 a2 k, LeO (laws_FnExactAlphaOf.f k a0 a1 a2) (laws_FnExactAlphaOf.f (k + 1) a0 a1 a2) := by
  intro a0 a1 a2 k
  have ih0 := laws_FnExactAlphaOf.mono_l k
  unfold laws_FnExactAlphaOf.f
  repeat' first
      | (with_reducible exact ih0 _ _ _ _ _ _ _ _ _ _)
      | (with_reducible exact laws_eqAlpha.mono _ _ _ _ _ _ _)
      | (with_reducible exact laws_eqPattern.mono _ _ _ _ _ _ _)
      | (with_reducible exact laws_heldAlpha.mono _ _ _ _ _)
      | (with_reducible exact laws_markAlpha.mono _ _ _ _ _)
      | (with_reducible exact laws_markPattern.mono _ _ _ _ _)
      | (with_reducible exact laws_szPattern.mono _ _ _ _ _)
      | (with_reducible exact laws_toPattern.mono _ _ _ _)
      | (with_reducible exact spec_AlphaOf.mono _ _ _ _)
      | (with_reducible exact LeO.refl _)
      | (with_reducible exact LeO.none _)
      | (with_reducible refine LeO.ite ?_ ?_)
      | (with_reducible refine LeO.bind ?_ (fun _ => ?_))
      | exact ih0 _ _ _ _ _ _ _ _ _ _
      | exact laws_eqAlpha.mono _ _ _ _ _ _ _
      | exact laws_eqPattern.mono _ _ _ _ _ _ _
      | exact laws_heldAlpha.mono _ _ _ _ _
      | exact laws_markAlpha.mono _ _ _ _ _
      | exact laws_markPattern.mono _ _ _ _ _
      | exact laws_szPattern.mono _ _ _ _ _
      | exact laws_toPattern.mono _ _ _ _
      | exact spec_AlphaOf.mono _ _ _ _
      | exact LeO.none _
      | refine LeO.ite ?_ ?_
      | refine LeO.bind ?_ (fun _ => ?_)
set_option maxHeartbeats 8000000 in
set_option maxRecDepth 100000 in
theorem laws_FnExactAlphaOf.calls (k : Nat) (a0_0 : Bool) (a0_1 : ByteArray) (A0_2 : Option Addr) (c0_2 : Nat) (l0_2 : List (S174)) (r : Bool) (w : World) (hr0_2 : Kd.C k174 w A0_2 l0_2.length l0_2) (hc0_2 : l0_2.length ≤ c0_2) (h : laws_FnExactAlphaOf.f k a0_0 a0_1 l0_2 = some r) (hT_ : r = true := by first | rfl | assumption) :
    Calls Try.prog 6 #[.agg #[.bool a0_0, .string a0_1, .slice A0_2 l0_2.length c0_2]] w fun e w' => e = .returned (.bool r) ∧ Below w.heap.size w w' := by
  subst hT_
  have hu56 := Try.underlying56
  have hu34 := Try.underlying34
  have hu61 := Try.underlying61
  have HR0_2 := Aside0.mk hr0_2
  have HC0_2 := Aside0.mk hc0_2
  clear hr0_2 hc0_2
  have HB := Aside0.mk (Below.refl w.heap.size w)
  have H : ((laws_szPattern.f k a0_0 a0_1 l0_2 1048576).bind fun t404 => (if t404 < 0 then (some true) else ((laws_toPattern.f k a0_0 a0_1 l0_2).bind fun bt405 => ((spec_AlphaOf.f k bt405.1 bt405.2.1 bt405.2.2).bind fun bt410 => ((laws_toPattern.f k a0_0 a0_1 l0_2).bind fun bt416 => ((impl_AlphaOf.f bt416.1 bt416.2.1 bt416.2.2).bind fun bt422 => ((laws_eqAlpha.f k bt422.1 bt422.2.1 bt422.2.2 bt410.1 bt410.2.1 bt410.2.2).bind fun t428 => (if t428 = true then ((laws_toPattern.f k a0_0 a0_1 l0_2).bind fun bt429 => ((laws_eqPattern.f k bt416.1 bt416.2.1 bt416.2.2 bt429.1 bt429.2.1 bt429.2.2).bind fun t434 => (if t434 = true then ((laws_markPattern.f k bt416.1 bt416.2.1 bt416.2.2 1).bind fun bt435 => (if bt435.1 < 0 then (laws_FnExactAlphaOf.j0 k true a0_0 a0_1 l0_2 bt410.1 bt410.2.1 bt410.2.2 bt422.1 bt422.2.1 bt422.2.2) else ((laws_eqAlpha.f k bt422.1 bt422.2.1 bt422.2.2 bt410.1 bt410.2.1 bt410.2.2).bind fun t437 => (laws_FnExactAlphaOf.j0 k (!t437) a0_0 a0_1 l0_2 bt410.1 bt410.2.1 bt410.2.2 bt422.1 bt422.2.1 bt422.2.2)))) else (some false)))) else (some false))))))))) = some true := h
  clear h
  replace H := Option.bind_eq_some_iff.mp H
  obtain ⟨t404, A20, H⟩ := H
  replace H : (if t404 < 0 then (some true) else ((laws_toPattern.f k a0_0 a0_1 l0_2).bind fun bt405 => ((spec_AlphaOf.f k bt405.1 bt405.2.1 bt405.2.2).bind fun bt410 => ((laws_toPattern.f k a0_0 a0_1 l0_2).bind fun bt416 => ((impl_AlphaOf.f bt416.1 bt416.2.1 bt416.2.2).bind fun bt422 => ((laws_eqAlpha.f k bt422.1 bt422.2.1 bt422.2.2 bt410.1 bt410.2.1 bt410.2.2).bind fun t428 => (if t428 = true then ((laws_toPattern.f k a0_0 a0_1 l0_2).bind fun bt429 => ((laws_eqPattern.f k bt416.1 bt416.2.1 bt416.2.2 bt429.1 bt429.2.1 bt429.2.2).bind fun t434 => (if t434 = true then ((laws_markPattern.f k bt416.1 bt416.2.1 bt416.2.2 1).bind fun bt435 => (if bt435.1 < 0 then (laws_FnExactAlphaOf.j0 k true a0_0 a0_1 l0_2 bt410.1 bt410.2.1 bt410.2.2 bt422.1 bt422.2.1 bt422.2.2) else ((laws_eqAlpha.f k bt422.1 bt422.2.1 bt422.2.2 bt410.1 bt410.2.1 bt410.2.2).bind fun t437 => (laws_FnExactAlphaOf.j0 k (!t437) a0_0 a0_1 l0_2 bt410.1 bt410.2.1 bt410.2.2 bt422.1 bt422.2.1 bt422.2.2)))) else (some false)))) else (some false)))))))) = some true := H
  have A2 := Aside0.mk A20
  clear A20
  by_cases c3 : t404 < 0
  · rw [if_pos c3] at H
    have c3b0 : decide (t404 < 0) = true := decide_eq_true c3
    clear c3
    clear H
    go_enter Try.func6, Try.ntmps6
    go_wp2_with (first | ((with_reducible refine gate_dst (N := 1) rfl ?_); refine box_event ?hg (N := 1) ?hd (cs := #[.bool a0_0, .string a0_1, .slice A0_2 l0_2.length c0_2]) (t := 56) ?hr ?_; (case hd => rfl); (case hg => rfl); (case hr => first | (go_simp; done) | (go_simp; rfl)); intro gb403 hg w4 hbox hb; have n0_ := Aside0.mk (below_step (by repeat (first | (with_reducible first | exact HB.out | apply below_alloc | apply pw_below_drewN | apply below_drew1) | exact HB.out)) hb); have n1_ := Aside0.mk (hbox); have n2_ := Aside0.mk ((by rw [hg]; exact (below_size (by repeat (first | (with_reducible first | exact HB.out | apply below_alloc | apply pw_below_drewN | apply below_drew1) | exact HB.out))) : w.heap.size ≤ gb403)); have n3_ := Aside0.mk ((by rw [hg]; exact (below_size (by repeat (first | (with_reducible first | exact HB.out | apply below_alloc | apply pw_below_drewN | apply below_drew1) | exact HB.out))) : w.heap.size ≤ gb403)); clear HB; have HB := n0_; have BK403 := n1_; have GW403 := n2_; have GE403 := n3_; clear n0_ n1_ n2_ n3_; clear hb hbox hg; have hcz5_0 : w4.cell? ⟨gb403, 0, none⟩ = some (.bool a0_0) := (blk_cell BK403.out 0).trans rfl; have hcz5_1 : w4.cell? ⟨gb403, 1, none⟩ = some (.string a0_1) := (blk_cell BK403.out 1).trans rfl; have hcz5_2 : w4.cell? ⟨gb403, 2, none⟩ = some (.slice A0_2 l0_2.length c0_2) := (blk_cell BK403.out 2).trans rfl; have hfz5_0 := blk_frozen BK403.out 0; have hfz5_1 := blk_frozen BK403.out 1; have hfz5_2 := blk_frozen BK403.out 2) | ((with_reducible refine gate_callee (f := 23) rfl ?_); refine goesL_ (some 13) rfl rfl Try.func23 (by kernel_rfl) rfl #[.agg #[.bool a0_0, .string a0_1, .slice A0_2 l0_2.length c0_2], .int .i64 1048576] rfl (by (try simp only [List.map_toArray, List.map_cons, List.map_nil]); first | done | rfl | (simp only [List.length_drop, List.length_take]; rfl)) ?_; (with_reducible refine (laws_szPattern.calls k a0_0 a0_1 _ _ l0_2 1048576 t404 _ ?side1 ?side2 A2.out).mono ?_); (case side1 => repeat (first | exact (Kd.C_below HR0_2.out HB.out) | (with_reducible refine Kd.C_alloc ?_ _) | (with_reducible refine Kd.C_drewN ?_ _) | (with_reducible refine Kd.C_drew ?_))); (case side2 => exact HC0_2.out); rintro e w6 ⟨rfl, hb⟩; refine ⟨_, rfl, ?_⟩; have n0_ := Aside0.mk (blk_below (g := gb403) (o := .cells #[.bool a0_0, .string a0_1, .slice A0_2 l0_2.length c0_2] 56 (0, 0)) (by (with_reducible repeat (first | refine blk_drewN ?_ _ | refine blk_drew ?_ | refine blk_alloc ?_ _)); exact BK403.out) hb); have n1_ := Aside0.mk (below_step (by repeat (first | (with_reducible first | exact HB.out | apply below_alloc | apply pw_below_drewN | apply below_drew1 | refine below_set ?_ GE403.out) | exact HB.out)) hb); clear BK403; clear HB; have BK403 := n0_; have HB := n1_; clear n0_ n1_; (try clear hb); (try clear hb2); (try clear hk); (try clear hi)))
    go_ret
    exact ⟨by first | rfl | (simp [errW_none, errW_some] <;> rfl) | (simp [*, errW_none, errW_some] <;> rfl), by repeat (first | (with_reducible first | exact HB.out | apply below_alloc | apply pw_below_drewN | apply below_drew1 | refine below_set ?_ GE403.out) | exact HB.out)⟩
  · rw [if_neg c3] at H
    have c3b0 : decide (t404 < 0) = false := decide_eq_false c3
    clear c3
    replace H := Option.bind_eq_some_iff.mp H
    obtain ⟨⟨t405, t406, t407⟩, A70, H⟩ := H
    replace H : ((spec_AlphaOf.f k t405 t406 t407).bind fun bt410 => ((laws_toPattern.f k a0_0 a0_1 l0_2).bind fun bt416 => ((impl_AlphaOf.f bt416.1 bt416.2.1 bt416.2.2).bind fun bt422 => ((laws_eqAlpha.f k bt422.1 bt422.2.1 bt422.2.2 bt410.1 bt410.2.1 bt410.2.2).bind fun t428 => (if t428 = true then ((laws_toPattern.f k a0_0 a0_1 l0_2).bind fun bt429 => ((laws_eqPattern.f k bt416.1 bt416.2.1 bt416.2.2 bt429.1 bt429.2.1 bt429.2.2).bind fun t434 => (if t434 = true then ((laws_markPattern.f k bt416.1 bt416.2.1 bt416.2.2 1).bind fun bt435 => (if bt435.1 < 0 then (laws_FnExactAlphaOf.j0 k true a0_0 a0_1 l0_2 bt410.1 bt410.2.1 bt410.2.2 bt422.1 bt422.2.1 bt422.2.2) else ((laws_eqAlpha.f k bt422.1 bt422.2.1 bt422.2.2 bt410.1 bt410.2.1 bt410.2.2).bind fun t437 => (laws_FnExactAlphaOf.j0 k (!t437) a0_0 a0_1 l0_2 bt410.1 bt410.2.1 bt410.2.2 bt422.1 bt422.2.1 bt422.2.2)))) else (some false)))) else (some false)))))) = some true := H
    have A7 := Aside0.mk A70
    clear A70
    replace H := Option.bind_eq_some_iff.mp H
    obtain ⟨⟨t410, t411, t412⟩, A80, H⟩ := H
    replace H : ((laws_toPattern.f k a0_0 a0_1 l0_2).bind fun bt416 => ((impl_AlphaOf.f bt416.1 bt416.2.1 bt416.2.2).bind fun bt422 => ((laws_eqAlpha.f k bt422.1 bt422.2.1 bt422.2.2 t410 t411 t412).bind fun t428 => (if t428 = true then ((laws_toPattern.f k a0_0 a0_1 l0_2).bind fun bt429 => ((laws_eqPattern.f k bt416.1 bt416.2.1 bt416.2.2 bt429.1 bt429.2.1 bt429.2.2).bind fun t434 => (if t434 = true then ((laws_markPattern.f k bt416.1 bt416.2.1 bt416.2.2 1).bind fun bt435 => (if bt435.1 < 0 then (laws_FnExactAlphaOf.j0 k true a0_0 a0_1 l0_2 t410 t411 t412 bt422.1 bt422.2.1 bt422.2.2) else ((laws_eqAlpha.f k bt422.1 bt422.2.1 bt422.2.2 t410 t411 t412).bind fun t437 => (laws_FnExactAlphaOf.j0 k (!t437) a0_0 a0_1 l0_2 t410 t411 t412 bt422.1 bt422.2.1 bt422.2.2)))) else (some false)))) else (some false))))) = some true := H
    have A8 := Aside0.mk A80
    clear A80
    replace H := Option.bind_eq_some_iff.mp H
    obtain ⟨⟨t416, t417, t418⟩, A90, H⟩ := H
    replace H : ((impl_AlphaOf.f t416 t417 t418).bind fun bt422 => ((laws_eqAlpha.f k bt422.1 bt422.2.1 bt422.2.2 t410 t411 t412).bind fun t428 => (if t428 = true then ((laws_toPattern.f k a0_0 a0_1 l0_2).bind fun bt429 => ((laws_eqPattern.f k t416 t417 t418 bt429.1 bt429.2.1 bt429.2.2).bind fun t434 => (if t434 = true then ((laws_markPattern.f k t416 t417 t418 1).bind fun bt435 => (if bt435.1 < 0 then (laws_FnExactAlphaOf.j0 k true a0_0 a0_1 l0_2 t410 t411 t412 bt422.1 bt422.2.1 bt422.2.2) else ((laws_eqAlpha.f k bt422.1 bt422.2.1 bt422.2.2 t410 t411 t412).bind fun t437 => (laws_FnExactAlphaOf.j0 k (!t437) a0_0 a0_1 l0_2 t410 t411 t412 bt422.1 bt422.2.1 bt422.2.2)))) else (some false)))) else (some false)))) = some true := H
    have A9 := Aside0.mk A90
    clear A90
    replace H := Option.bind_eq_some_iff.mp H
    obtain ⟨⟨t422, t423, t424⟩, A100, H⟩ := H
    replace H : ((laws_eqAlpha.f k t422 t423 t424 t410 t411 t412).bind fun t428 => (if t428 = true then ((laws_toPattern.f k a0_0 a0_1 l0_2).bind fun bt429 => ((laws_eqPattern.f k t416 t417 t418 bt429.1 bt429.2.1 bt429.2.2).bind fun t434 => (if t434 = true then ((laws_markPattern.f k t416 t417 t418 1).bind fun bt435 => (if bt435.1 < 0 then (laws_FnExactAlphaOf.j0 k true a0_0 a0_1 l0_2 t410 t411 t412 t422 t423 t424) else ((laws_eqAlpha.f k t422 t423 t424 t410 t411 t412).bind fun t437 => (laws_FnExactAlphaOf.j0 k (!t437) a0_0 a0_1 l0_2 t410 t411 t412 t422 t423 t424)))) else (some false)))) else (some false))) = some true := H
    have A10 := Aside0.mk A100
    clear A100
    replace H := Option.bind_eq_some_iff.mp H
    obtain ⟨t428, A110, H⟩ := H
    replace H : (if t428 = true then ((laws_toPattern.f k a0_0 a0_1 l0_2).bind fun bt429 => ((laws_eqPattern.f k t416 t417 t418 bt429.1 bt429.2.1 bt429.2.2).bind fun t434 => (if t434 = true then ((laws_markPattern.f k t416 t417 t418 1).bind fun bt435 => (if bt435.1 < 0 then (laws_FnExactAlphaOf.j0 k true a0_0 a0_1 l0_2 t410 t411 t412 t422 t423 t424) else ((laws_eqAlpha.f k t422 t423 t424 t410 t411 t412).bind fun t437 => (laws_FnExactAlphaOf.j0 k (!t437) a0_0 a0_1 l0_2 t410 t411 t412 t422 t423 t424)))) else (some false)))) else (some false)) = some true := H
    have A11 := Aside0.mk A110
    clear A110
    by_cases c12 : t428 = true
    · subst c12
      have H1 : ((laws_toPattern.f k a0_0 a0_1 l0_2).bind fun bt429 => ((laws_eqPattern.f k t416 t417 t418 bt429.1 bt429.2.1 bt429.2.2).bind fun t434 => (if t434 = true then ((laws_markPattern.f k t416 t417 t418 1).bind fun bt435 => (if bt435.1 < 0 then (laws_FnExactAlphaOf.j0 k true a0_0 a0_1 l0_2 t410 t411 t412 t422 t423 t424) else ((laws_eqAlpha.f k t422 t423 t424 t410 t411 t412).bind fun t437 => (laws_FnExactAlphaOf.j0 k (!t437) a0_0 a0_1 l0_2 t410 t411 t412 t422 t423 t424)))) else (some false)))) = some true := by first | (rw [if_pos rfl] at H; exact H) | rfl
      clear H
      have H := H1
      clear H1
      replace H := Option.bind_eq_some_iff.mp H
      obtain ⟨⟨t429, t430, t431⟩, A130, H⟩ := H
      replace H : ((laws_eqPattern.f k t416 t417 t418 t429 t430 t431).bind fun t434 => (if t434 = true then ((laws_markPattern.f k t416 t417 t418 1).bind fun bt435 => (if bt435.1 < 0 then (laws_FnExactAlphaOf.j0 k true a0_0 a0_1 l0_2 t410 t411 t412 t422 t423 t424) else ((laws_eqAlpha.f k t422 t423 t424 t410 t411 t412).bind fun t437 => (laws_FnExactAlphaOf.j0 k (!t437) a0_0 a0_1 l0_2 t410 t411 t412 t422 t423 t424)))) else (some false))) = some true := H
      have A13 := Aside0.mk A130
      clear A130
      replace H := Option.bind_eq_some_iff.mp H
      obtain ⟨t434, A140, H⟩ := H
      replace H : (if t434 = true then ((laws_markPattern.f k t416 t417 t418 1).bind fun bt435 => (if bt435.1 < 0 then (laws_FnExactAlphaOf.j0 k true a0_0 a0_1 l0_2 t410 t411 t412 t422 t423 t424) else ((laws_eqAlpha.f k t422 t423 t424 t410 t411 t412).bind fun t437 => (laws_FnExactAlphaOf.j0 k (!t437) a0_0 a0_1 l0_2 t410 t411 t412 t422 t423 t424)))) else (some false)) = some true := H
      have A14 := Aside0.mk A140
      clear A140
      by_cases c15 : t434 = true
      · subst c15
        have H1 : ((laws_markPattern.f k t416 t417 t418 1).bind fun bt435 => (if bt435.1 < 0 then (laws_FnExactAlphaOf.j0 k true a0_0 a0_1 l0_2 t410 t411 t412 t422 t423 t424) else ((laws_eqAlpha.f k t422 t423 t424 t410 t411 t412).bind fun t437 => (laws_FnExactAlphaOf.j0 k (!t437) a0_0 a0_1 l0_2 t410 t411 t412 t422 t423 t424)))) = some true := by first | (rw [if_pos rfl] at H; exact H) | rfl
        clear H
        have H := H1
        clear H1
        replace H := Option.bind_eq_some_iff.mp H
        obtain ⟨⟨t435, t436⟩, A160, H⟩ := H
        replace H : (if t435 < 0 then (laws_FnExactAlphaOf.j0 k true a0_0 a0_1 l0_2 t410 t411 t412 t422 t423 t424) else ((laws_eqAlpha.f k t422 t423 t424 t410 t411 t412).bind fun t437 => (laws_FnExactAlphaOf.j0 k (!t437) a0_0 a0_1 l0_2 t410 t411 t412 t422 t423 t424))) = some true := H
        have A16 := Aside0.mk A160
        clear A160
        have HC17 := Aside0.mk H
        clear H
        go_enter Try.func6, Try.ntmps6
        try go_wp2_with (first | ((with_reducible refine gate_dst (N := 1) rfl ?_); refine box_event ?hg (N := 1) ?hd (cs := #[.bool a0_0, .string a0_1, .slice A0_2 l0_2.length c0_2]) (t := 56) ?hr ?_; (case hd => rfl); (case hg => rfl); (case hr => first | (go_simp; done) | (go_simp; rfl)); intro gb403 hg w18 hbox hb; have n0_ := Aside0.mk (below_step (by repeat (first | (with_reducible first | exact HB.out | apply below_alloc | apply pw_below_drewN | apply below_drew1) | exact HB.out)) hb); have n1_ := Aside0.mk (hbox); have n2_ := Aside0.mk ((by rw [hg]; exact (below_size (by repeat (first | (with_reducible first | exact HB.out | apply below_alloc | apply pw_below_drewN | apply below_drew1) | exact HB.out))) : w.heap.size ≤ gb403)); have n3_ := Aside0.mk ((by rw [hg]; exact (below_size (by repeat (first | (with_reducible first | exact HB.out | apply below_alloc | apply pw_below_drewN | apply below_drew1) | exact HB.out))) : w.heap.size ≤ gb403)); clear HB; have HB := n0_; have BK403 := n1_; have GW403 := n2_; have GE403 := n3_; clear n0_ n1_ n2_ n3_; clear hb hbox hg; have hcz19_0 : w18.cell? ⟨gb403, 0, none⟩ = some (.bool a0_0) := (blk_cell BK403.out 0).trans rfl; have hcz19_1 : w18.cell? ⟨gb403, 1, none⟩ = some (.string a0_1) := (blk_cell BK403.out 1).trans rfl; have hcz19_2 : w18.cell? ⟨gb403, 2, none⟩ = some (.slice A0_2 l0_2.length c0_2) := (blk_cell BK403.out 2).trans rfl; have hfz19_0 := blk_frozen BK403.out 0; have hfz19_1 := blk_frozen BK403.out 1; have hfz19_2 := blk_frozen BK403.out 2) | ((with_reducible refine gate_callee (f := 23) rfl ?_); refine goesL_ (some 13) rfl rfl Try.func23 (by kernel_rfl) rfl #[.agg #[.bool a0_0, .string a0_1, .slice A0_2 l0_2.length c0_2], .int .i64 1048576] rfl (by (try simp only [List.map_toArray, List.map_cons, List.map_nil]); first | done | rfl | (simp only [List.length_drop, List.length_take]; rfl)) ?_; (with_reducible refine (laws_szPattern.calls k a0_0 a0_1 _ _ l0_2 1048576 t404 _ ?side1 ?side2 A2.out).mono ?_); (case side1 => repeat (first | exact (Kd.C_below HR0_2.out HB.out) | (with_reducible refine Kd.C_alloc ?_ _) | (with_reducible refine Kd.C_drewN ?_ _) | (with_reducible refine Kd.C_drew ?_))); (case side2 => exact HC0_2.out); rintro e w20 ⟨rfl, hb⟩; refine ⟨_, rfl, ?_⟩; have n0_ := Aside0.mk (blk_below (g := gb403) (o := .cells #[.bool a0_0, .string a0_1, .slice A0_2 l0_2.length c0_2] 56 (0, 0)) (by (with_reducible repeat (first | refine blk_drewN ?_ _ | refine blk_drew ?_ | refine blk_alloc ?_ _)); exact BK403.out) hb); have n1_ := Aside0.mk (below_step (by repeat (first | (with_reducible first | exact HB.out | apply below_alloc | apply pw_below_drewN | apply below_drew1 | refine below_set ?_ GE403.out) | exact HB.out)) hb); clear BK403; clear HB; have BK403 := n0_; have HB := n1_; clear n0_ n1_; (try clear hb); (try clear hb2); (try clear hk); (try clear hi); have hcz21_0 : w20.cell? ⟨gb403, 0, none⟩ = some (.bool a0_0) := (blk_cell BK403.out 0).trans rfl; have hcz21_1 : w20.cell? ⟨gb403, 1, none⟩ = some (.string a0_1) := (blk_cell BK403.out 1).trans rfl; have hcz21_2 : w20.cell? ⟨gb403, 2, none⟩ = some (.slice A0_2 l0_2.length c0_2) := (blk_cell BK403.out 2).trans rfl; have hfz21_0 := blk_frozen BK403.out 0; have hfz21_1 := blk_frozen BK403.out 1; have hfz21_2 := blk_frozen BK403.out 2) | ((with_reducible refine gate_callee (f := 25) rfl ?_); refine goesL_ (some 17) rfl rfl Try.func25 (by kernel_rfl) rfl #[.agg #[.bool a0_0, .string a0_1, .slice A0_2 l0_2.length c0_2]] rfl (by (try simp only [List.map_toArray, List.map_cons, List.map_nil]); first | done | rfl | (simp only [List.length_drop, List.length_take]; rfl)) ?_; (with_reducible refine (laws_toPattern.calls k a0_0 a0_1 _ _ l0_2 t405 t406 t407 _ ?side1 ?side2 A7.out).mono ?_); (case side1 => repeat (first | exact (Kd.C_below HR0_2.out HB.out) | (with_reducible refine Kd.C_alloc ?_ _) | (with_reducible refine Kd.C_drewN ?_ _) | (with_reducible refine Kd.C_drew ?_))); (case side2 => exact HC0_2.out); rintro e w22 ⟨v408, rfl, ho0, hb⟩; refine ⟨_, rfl, ?_⟩; have n0_ := Aside0.mk (Kd.R_lower ho0 (below_size (by repeat (first | (with_reducible first | exact HB.out | apply below_alloc | apply pw_below_drewN | apply below_drew1 | refine below_set ?_ GE403.out) | exact HB.out)))); have n1_ := Aside0.mk (blk_below (g := gb403) (o := .cells #[.bool a0_0, .string a0_1, .slice A0_2 l0_2.length c0_2] 56 (0, 0)) (by (with_reducible repeat (first | refine blk_drewN ?_ _ | refine blk_drew ?_ | refine blk_alloc ?_ _)); exact BK403.out) hb); have n2_ := Aside0.mk (below_step (by repeat (first | (with_reducible first | exact HB.out | apply below_alloc | apply pw_below_drewN | apply below_drew1 | refine below_set ?_ GE403.out) | exact HB.out)) hb); clear BK403; clear HB; have HO409 := n0_; have BK403 := n1_; have HB := n2_; clear n0_ n1_ n2_; (try clear hb); (try clear hb2); (try clear hk); (try clear hi); (try clear ho0); obtain ⟨Ao23, co23, eo23⟩ := Kd.R_slice HO409.out; subst eo23) | ((with_reducible refine gate_callee (f := 24) rfl ?_); refine goesL_ (some 18) rfl rfl Try.func24 (by kernel_rfl) rfl #[.agg #[.bool t405, .string t406, .slice Ao23 t407.length co23]] rfl (by (try simp only [List.map_toArray, List.map_cons, List.map_nil]); first | done | rfl | (simp only [List.length_drop, List.length_take]; rfl)) ?_; (with_reducible refine (spec_AlphaOf.calls k t405 t406 _ _ t407 t410 t411 t412 _ ?side1 ?side2 A8.out).mono ?_); (case side1 => repeat (first | exact (Kd.R_reads' HO409.out).2.2 | (with_reducible refine Kd.C_alloc ?_ _) | (with_reducible refine Kd.C_drewN ?_ _) | (with_reducible refine Kd.C_drew ?_))); (case side2 => exact (Kd.R_reads' HO409.out).2.1); rintro e w24 ⟨v413, rfl, ho0, hb⟩; refine ⟨_, rfl, ?_⟩; have n0_ := Aside0.mk (Kd.R_below (by (with_reducible repeat (first | apply Kd.R_alloc | apply Kd.R_drewN | apply Kd.R_drew)); exact HO409.out) hb); have n1_ := Aside0.mk (Kd.R_lower ho0 (below_size (by repeat (first | (with_reducible first | exact HB.out | apply below_alloc | apply pw_below_drewN | apply below_drew1 | refine below_set ?_ GE403.out) | exact HB.out)))); have n2_ := Aside0.mk (blk_below (g := gb403) (o := .cells #[.bool a0_0, .string a0_1, .slice A0_2 l0_2.length c0_2] 56 (0, 0)) (by (with_reducible repeat (first | refine blk_drewN ?_ _ | refine blk_drew ?_ | refine blk_alloc ?_ _)); exact BK403.out) hb); have n3_ := Aside0.mk (below_step (by repeat (first | (with_reducible first | exact HB.out | apply below_alloc | apply pw_below_drewN | apply below_drew1 | refine below_set ?_ GE403.out) | exact HB.out)) hb); clear HO409; clear BK403; clear HB; have HO409 := n0_; have HO414 := n1_; have BK403 := n2_; have HB := n3_; clear n0_ n1_ n2_ n3_; (try clear hb); (try clear hb2); (try clear hk); (try clear hi); (try clear ho0)) | ((with_reducible refine gate_dst (N := 4) rfl ?_); refine box_event ?hg (N := 4) ?hd (cs := #[.string (⟨#[]⟩ : ByteArray), .int .i64 0, .slice none 0 0]) (t := 34) ?hr ?_; (case hd => rfl); (case hg => rfl); (case hr => first | (go_simp; done) | (go_simp; rfl)); intro gb415 hg w25 hbox hb; have n0_ := Aside0.mk (Kd.R_below (by (with_reducible repeat (first | apply Kd.R_alloc | apply Kd.R_drewN | apply Kd.R_drew)); exact HO409.out) hb); have n1_ := Aside0.mk (Kd.R_below (by (with_reducible repeat (first | apply Kd.R_alloc | apply Kd.R_drewN | apply Kd.R_drew)); exact HO414.out) hb); have n2_ := Aside0.mk (blk_below (g := gb403) (o := .cells #[.bool a0_0, .string a0_1, .slice A0_2 l0_2.length c0_2] 56 (0, 0)) (by (with_reducible repeat (first | refine blk_drewN ?_ _ | refine blk_drew ?_ | refine blk_alloc ?_ _)); exact BK403.out) hb); have n3_ := Aside0.mk (below_step (by repeat (first | (with_reducible first | exact HB.out | apply below_alloc | apply pw_below_drewN | apply below_drew1 | refine below_set ?_ GE403.out) | exact HB.out)) hb); have n4_ := Aside0.mk (hbox); have n5_ := Aside0.mk ((by rw [hg]; exact (below_size (by repeat (first | (with_reducible first | exact HB.out | apply below_alloc | apply pw_below_drewN | apply below_drew1 | refine below_set ?_ GE403.out) | exact HB.out))) : w.heap.size ≤ gb415)); have n6_ := Aside0.mk ((by rw [hg]; exact (below_size (by repeat (first | (with_reducible first | exact HB.out | apply below_alloc | apply pw_below_drewN | apply below_drew1 | refine below_set ?_ GE403.out) | exact HB.out))) : w.heap.size ≤ gb415)); have n7_ := Aside0.mk ((by rw [hg]; exact Nat.ne_of_lt (blk_lt (g := gb403) (o := .cells #[.bool a0_0, .string a0_1, .slice A0_2 l0_2.length c0_2] 56 (0, 0)) (by (with_reducible repeat (first | refine blk_drewN ?_ _ | refine blk_drew ?_ | refine blk_alloc ?_ _)); exact BK403.out)) : gb403 ≠ gb415)); have n8_ := Aside0.mk ((by rw [hg]; exact Nat.ne_of_gt (blk_lt (g := gb403) (o := .cells #[.bool a0_0, .string a0_1, .slice A0_2 l0_2.length c0_2] 56 (0, 0)) (by (with_reducible repeat (first | refine blk_drewN ?_ _ | refine blk_drew ?_ | refine blk_alloc ?_ _)); exact BK403.out)) : gb415 ≠ gb403)); clear HO409; clear HO414; clear BK403; clear HB; have HO409 := n0_; have HO414 := n1_; have BK403 := n2_; have HB := n3_; have BK415 := n4_; have GW415 := n5_; have GE415 := n6_; have NB403_415 := n7_; have NB415_403 := n8_; clear n0_ n1_ n2_ n3_ n4_ n5_ n6_ n7_ n8_; clear hb hbox hg; have hnb26 := NB415_403.out; have hnc26 := NB403_415.out; have hcz27_0 : w25.cell? ⟨gb415, 0, none⟩ = some (.string (⟨#[]⟩ : ByteArray)) := (blk_cell BK415.out 0).trans rfl; have hcz27_1 : w25.cell? ⟨gb415, 1, none⟩ = some (.int .i64 0) := (blk_cell BK415.out 1).trans rfl; have hcz27_2 : w25.cell? ⟨gb415, 2, none⟩ = some (.slice none 0 0) := (blk_cell BK415.out 2).trans rfl; have hfz27_0 := blk_frozen BK415.out 0; have hfz27_1 := blk_frozen BK415.out 1; have hfz27_2 := blk_frozen BK415.out 2; obtain ⟨Ao28, co28, eo28⟩ := Kd.R_slice HO414.out; subst eo28; have hcz29_0 : w25.cell? ⟨gb403, 0, none⟩ = some (.bool a0_0) := (blk_cell BK403.out 0).trans rfl; have hcz29_1 : w25.cell? ⟨gb403, 1, none⟩ = some (.string a0_1) := (blk_cell BK403.out 1).trans rfl; have hcz29_2 : w25.cell? ⟨gb403, 2, none⟩ = some (.slice A0_2 l0_2.length c0_2) := (blk_cell BK403.out 2).trans rfl; have hfz29_0 := blk_frozen BK403.out 0; have hfz29_1 := blk_frozen BK403.out 1; have hfz29_2 := blk_frozen BK403.out 2) | ((with_reducible refine gate_callee (f := 25) rfl ?_); refine goesL_ (some 20) rfl rfl Try.func25 (by kernel_rfl) rfl #[.agg #[.bool a0_0, .string a0_1, .slice A0_2 l0_2.length c0_2]] rfl (by (try simp only [List.map_toArray, List.map_cons, List.map_nil]); first | done | rfl | (simp only [List.length_drop, List.length_take]; rfl)) ?_; (with_reducible refine (laws_toPattern.calls k a0_0 a0_1 _ _ l0_2 t416 t417 t418 _ ?side1 ?side2 A9.out).mono ?_); (case side1 => exact Kd.C_below HR0_2.out (by repeat (first | (with_reducible first | exact HB.out | apply below_alloc | apply pw_below_drewN | apply below_drew1 | refine below_set ?_ GE403.out | refine below_set ?_ GE415.out) | exact HB.out))); (case side2 => exact HC0_2.out); rintro e w30 ⟨v419, rfl, ho0, hb⟩; refine ⟨_, rfl, ?_⟩; have n0_ := Aside0.mk (Kd.R_elder' (by (with_reducible repeat (first | apply Kd.R_alloc | apply Kd.R_drewN | apply Kd.R_drew)); exact (Kd.R_mono (Kd.R_far (p := ⟨gb415, 2, none⟩) (Kd.R_far (p := ⟨gb415, 1, none⟩) (Kd.R_far (p := ⟨gb415, 0, none⟩) (Kd.R_types HO409.out BK415.out (by decide)) (fun _ hk => hk.2) (.string t410)) (fun _ hk => hk.2) (.int .i64 t411)) (fun _ hk => hk.2) (.slice Ao28 t412.length co28)) (fun _ h_ => h_.1))) (Kd.R_base ho0) hb); have n1_ := Aside0.mk (Kd.R_below (by (with_reducible repeat (first | apply Kd.R_alloc | apply Kd.R_drewN | apply Kd.R_drew)); exact (Kd.R_mono (Kd.R_far (p := ⟨gb415, 2, none⟩) (Kd.R_far (p := ⟨gb415, 1, none⟩) (Kd.R_far (p := ⟨gb415, 0, none⟩) (Kd.R_types HO414.out BK415.out (by decide)) (fun _ hk => hk.2) (.string t410)) (fun _ hk => hk.2) (.int .i64 t411)) (fun _ hk => hk.2) (.slice Ao28 t412.length co28)) (fun _ h_ => h_.1))) hb); have n2_ := Aside0.mk (Kd.R_lower (Kd.R_new' ho0 (Kd.R_lt (by (with_reducible repeat (first | apply Kd.R_alloc | apply Kd.R_drewN | apply Kd.R_drew)); exact (Kd.R_mono (Kd.R_far (p := ⟨gb415, 2, none⟩) (Kd.R_far (p := ⟨gb415, 1, none⟩) (Kd.R_far (p := ⟨gb415, 0, none⟩) (Kd.R_types HO409.out BK415.out (by decide)) (fun _ hk => hk.2) (.string t410)) (fun _ hk => hk.2) (.int .i64 t411)) (fun _ hk => hk.2) (.slice Ao28 t412.length co28)) (fun _ h_ => h_.1))))) (below_size (by repeat (first | (with_reducible first | exact HB.out | apply below_alloc | apply pw_below_drewN | apply below_drew1 | refine below_set ?_ GE403.out | refine below_set ?_ GE415.out) | exact HB.out)))); have n3_ := Aside0.mk (blk_below (g := gb403) (o := .cells #[.bool a0_0, .string a0_1, .slice A0_2 l0_2.length c0_2] 56 (0, 0)) (by (with_reducible repeat (first | refine blk_drewN ?_ _ | refine blk_drew ?_ | refine blk_alloc ?_ _)); refine blk_far ?_ NB403_415.out _; (with_reducible repeat (first | refine blk_drewN ?_ _ | refine blk_drew ?_ | refine blk_alloc ?_ _)); refine blk_far ?_ NB403_415.out _; (with_reducible repeat (first | refine blk_drewN ?_ _ | refine blk_drew ?_ | refine blk_alloc ?_ _)); refine blk_far ?_ NB403_415.out _; (with_reducible repeat (first | refine blk_drewN ?_ _ | refine blk_drew ?_ | refine blk_alloc ?_ _)); exact BK403.out) hb); have n4_ := Aside0.mk (blk_below (g := gb415) (o := .cells #[.string t410, .int .i64 t411, .slice Ao28 t412.length co28] 34 (0, 0)) (by (with_reducible repeat (first | refine blk_drewN ?_ _ | refine blk_drew ?_ | refine blk_alloc ?_ _)); refine blk_put (cs := #[.string t410, .int .i64 t411, .slice none 0 0]) ?_ 2 _ rfl; (with_reducible repeat (first | refine blk_drewN ?_ _ | refine blk_drew ?_ | refine blk_alloc ?_ _)); refine blk_put (cs := #[.string t410, .int .i64 0, .slice none 0 0]) ?_ 1 _ rfl; (with_reducible repeat (first | refine blk_drewN ?_ _ | refine blk_drew ?_ | refine blk_alloc ?_ _)); refine blk_put (cs := #[.string (⟨#[]⟩ : ByteArray), .int .i64 0, .slice none 0 0]) ?_ 0 _ rfl; (with_reducible repeat (first | refine blk_drewN ?_ _ | refine blk_drew ?_ | refine blk_alloc ?_ _)); exact BK415.out) hb); have n5_ := Aside0.mk (below_step (by repeat (first | (with_reducible first | exact HB.out | apply below_alloc | apply pw_below_drewN | apply below_drew1 | refine below_set ?_ GE403.out | refine below_set ?_ GE415.out) | exact HB.out)) hb); clear HO409; clear HO414; clear BK403; clear BK415; clear HB; have HO409 := n0_; have HO414 := n1_; have HO420 := n2_; have BK403 := n3_; have BK415 := n4_; have HB := n5_; clear n0_ n1_ n2_ n3_ n4_ n5_; (try clear hb); (try clear hb2); (try clear hk); (try clear hi); (try clear ho0)) | ((with_reducible refine gate_dst (N := 5) rfl ?_); refine box_event ?hg (N := 5) ?hd (cs := #[.bool false, .string (⟨#[]⟩ : ByteArray), .slice none 0 0]) (t := 61) ?hr ?_; (case hd => rfl); (case hg => rfl); (case hr => first | (go_simp; done) | (go_simp; rfl)); intro gb421 hg w31 hbox hb; have n0_ := Aside0.mk (Kd.R_below (by (with_reducible repeat (first | apply Kd.R_alloc | apply Kd.R_drewN | apply Kd.R_drew)); exact HO409.out) hb); have n1_ := Aside0.mk (Kd.R_below (by (with_reducible repeat (first | apply Kd.R_alloc | apply Kd.R_drewN | apply Kd.R_drew)); exact HO414.out) hb); have n2_ := Aside0.mk (Kd.R_below (by (with_reducible repeat (first | apply Kd.R_alloc | apply Kd.R_drewN | apply Kd.R_drew)); exact HO420.out) hb); have n3_ := Aside0.mk (blk_below (g := gb403) (o := .cells #[.bool a0_0, .string a0_1, .slice A0_2 l0_2.length c0_2] 56 (0, 0)) (by (with_reducible repeat (first | refine blk_drewN ?_ _ | refine blk_drew ?_ | refine blk_alloc ?_ _)); exact BK403.out) hb); have n4_ := Aside0.mk (blk_below (g := gb415) (o := .cells #[.string t410, .int .i64 t411, .slice Ao28 t412.length co28] 34 (0, 0)) (by (with_reducible repeat (first | refine blk_drewN ?_ _ | refine blk_drew ?_ | refine blk_alloc ?_ _)); exact BK415.out) hb); have n5_ := Aside0.mk (below_step (by repeat (first | (with_reducible first | exact HB.out | apply below_alloc | apply pw_below_drewN | apply below_drew1 | refine below_set ?_ GE403.out | refine below_set ?_ GE415.out) | exact HB.out)) hb); have n6_ := Aside0.mk (hbox); have n7_ := Aside0.mk ((by rw [hg]; exact (below_size (by repeat (first | (with_reducible first | exact HB.out | apply below_alloc | apply pw_below_drewN | apply below_drew1 | refine below_set ?_ GE403.out | refine below_set ?_ GE415.out) | exact HB.out))) : w.heap.size ≤ gb421)); have n8_ := Aside0.mk ((by rw [hg]; exact (below_size (by repeat (first | (with_reducible first | exact HB.out | apply below_alloc | apply pw_below_drewN | apply below_drew1 | refine below_set ?_ GE403.out | refine below_set ?_ GE415.out) | exact HB.out))) : w.heap.size ≤ gb421)); have n9_ := Aside0.mk ((by rw [hg]; exact Nat.ne_of_lt (blk_lt (g := gb403) (o := .cells #[.bool a0_0, .string a0_1, .slice A0_2 l0_2.length c0_2] 56 (0, 0)) (by (with_reducible repeat (first | refine blk_drewN ?_ _ | refine blk_drew ?_ | refine blk_alloc ?_ _)); exact BK403.out)) : gb403 ≠ gb421)); have n10_ := Aside0.mk ((by rw [hg]; exact Nat.ne_of_gt (blk_lt (g := gb403) (o := .cells #[.bool a0_0, .string a0_1, .slice A0_2 l0_2.length c0_2] 56 (0, 0)) (by (with_reducible repeat (first | refine blk_drewN ?_ _ | refine blk_drew ?_ | refine blk_alloc ?_ _)); exact BK403.out)) : gb421 ≠ gb403)); have n11_ := Aside0.mk ((by rw [hg]; exact Nat.ne_of_lt (blk_lt (g := gb415) (o := .cells #[.string t410, .int .i64 t411, .slice Ao28 t412.length co28] 34 (0, 0)) (by (with_reducible repeat (first | refine blk_drewN ?_ _ | refine blk_drew ?_ | refine blk_alloc ?_ _)); exact BK415.out)) : gb415 ≠ gb421)); have n12_ := Aside0.mk ((by rw [hg]; exact Nat.ne_of_gt (blk_lt (g := gb415) (o := .cells #[.string t410, .int .i64 t411, .slice Ao28 t412.length co28] 34 (0, 0)) (by (with_reducible repeat (first | refine blk_drewN ?_ _ | refine blk_drew ?_ | refine blk_alloc ?_ _)); exact BK415.out)) : gb421 ≠ gb415)); clear HO409; clear HO414; clear HO420; clear BK403; clear BK415; clear HB; have HO409 := n0_; have HO414 := n1_; have HO420 := n2_; have BK403 := n3_; have BK415 := n4_; have HB := n5_; have BK421 := n6_; have GW421 := n7_; have GE421 := n8_; have NB403_421 := n9_; have NB421_403 := n10_; have NB415_421 := n11_; have NB421_415 := n12_; clear n0_ n1_ n2_ n3_ n4_ n5_ n6_ n7_ n8_ n9_ n10_ n11_ n12_; clear hb hbox hg; have hnb32 := NB421_403.out; have hnc32 := NB403_421.out; have hnb33 := NB421_415.out; have hnc33 := NB415_421.out; have hcz34_0 : w31.cell? ⟨gb421, 0, none⟩ = some (.bool false) := (blk_cell BK421.out 0).trans rfl; have hcz34_1 : w31.cell? ⟨gb421, 1, none⟩ = some (.string (⟨#[]⟩ : ByteArray)) := (blk_cell BK421.out 1).trans rfl; have hcz34_2 : w31.cell? ⟨gb421, 2, none⟩ = some (.slice none 0 0) := (blk_cell BK421.out 2).trans rfl; have hfz34_0 := blk_frozen BK421.out 0; have hfz34_1 := blk_frozen BK421.out 1; have hfz34_2 := blk_frozen BK421.out 2; obtain ⟨Ao35, co35, eo35⟩ := Kd.R_slice HO420.out; subst eo35) | ((with_reducible refine gate_callee (f := 26) rfl ?_); refine goesL_ (some 22) rfl rfl Try.func26 (by kernel_rfl) rfl #[.agg #[.bool t416, .string t417, .slice Ao35 t418.length co35]] rfl (by (try simp only [List.map_toArray, List.map_cons, List.map_nil]); first | done | rfl | (simp only [List.length_drop, List.length_take]; rfl)) ?_; (with_reducible refine (impl_AlphaOf.calls t416 t417 _ _ t418 t422 t423 t424 _ ?side1 ?side2 A10.out).mono ?_); (case side1 => refine (Kd.R_reads' (e := 120) (base := w.heap.size) (ok := fun k_ => (True ∧ some k_ ≠ (.slice Ao23 t407.length co23 : Value).ownBlock)) (n := t418.length) (c := co35) ?_).2.2; exact (by (with_reducible repeat (first | apply Kd.R_alloc | apply Kd.R_drewN | apply Kd.R_drew)); exact (Kd.R_mono (Kd.R_far (p := ⟨gb421, 2, none⟩) (Kd.R_far (p := ⟨gb421, 1, none⟩) (Kd.R_far (p := ⟨gb421, 0, none⟩) (Kd.R_types HO420.out BK421.out (by decide)) (fun _ hk => hk.2) (.bool t416)) (fun _ hk => hk.2) (.string t417)) (fun _ hk => hk.2) (.slice Ao35 t418.length co35)) (fun _ h_ => h_.1)))); (case side2 => exact (Kd.R_reads' HO420.out).2.1); rintro e w36 ⟨v425, rfl, ho0, hb⟩; refine ⟨_, rfl, ?_⟩; have n0_ := Aside0.mk (Kd.R_below (by (with_reducible repeat (first | apply Kd.R_alloc | apply Kd.R_drewN | apply Kd.R_drew)); exact (Kd.R_mono (Kd.R_far (p := ⟨gb421, 2, none⟩) (Kd.R_far (p := ⟨gb421, 1, none⟩) (Kd.R_far (p := ⟨gb421, 0, none⟩) (Kd.R_types HO409.out BK421.out (by decide)) (fun _ hk => hk.2) (.bool t416)) (fun _ hk => hk.2) (.string t417)) (fun _ hk => hk.2) (.slice Ao35 t418.length co35)) (fun _ h_ => h_.1))) hb); have n1_ := Aside0.mk (Kd.R_elder' (by (with_reducible repeat (first | apply Kd.R_alloc | apply Kd.R_drewN | apply Kd.R_drew)); exact (Kd.R_mono (Kd.R_far (p := ⟨gb421, 2, none⟩) (Kd.R_far (p := ⟨gb421, 1, none⟩) (Kd.R_far (p := ⟨gb421, 0, none⟩) (Kd.R_types HO414.out BK421.out (by decide)) (fun _ hk => hk.2) (.bool t416)) (fun _ hk => hk.2) (.string t417)) (fun _ hk => hk.2) (.slice Ao35 t418.length co35)) (fun _ h_ => h_.1))) (Kd.R_base ho0) hb); have n2_ := Aside0.mk (Kd.R_below (by (with_reducible repeat (first | apply Kd.R_alloc | apply Kd.R_drewN | apply Kd.R_drew)); exact (Kd.R_mono (Kd.R_far (p := ⟨gb421, 2, none⟩) (Kd.R_far (p := ⟨gb421, 1, none⟩) (Kd.R_far (p := ⟨gb421, 0, none⟩) (Kd.R_types HO420.out BK421.out (by decide)) (fun _ hk => hk.2) (.bool t416)) (fun _ hk => hk.2) (.string t417)) (fun _ hk => hk.2) (.slice Ao35 t418.length co35)) (fun _ h_ => h_.1))) hb); have n3_ := Aside0.mk (Kd.R_lower (Kd.R_new' ho0 (Kd.R_lt (by (with_reducible repeat (first | apply Kd.R_alloc | apply Kd.R_drewN | apply Kd.R_drew)); exact (Kd.R_mono (Kd.R_far (p := ⟨gb421, 2, none⟩) (Kd.R_far (p := ⟨gb421, 1, none⟩) (Kd.R_far (p := ⟨gb421, 0, none⟩) (Kd.R_types HO414.out BK421.out (by decide)) (fun _ hk => hk.2) (.bool t416)) (fun _ hk => hk.2) (.string t417)) (fun _ hk => hk.2) (.slice Ao35 t418.length co35)) (fun _ h_ => h_.1))))) (below_size (by repeat (first | (with_reducible first | exact HB.out | apply below_alloc | apply pw_below_drewN | apply below_drew1 | refine below_set ?_ GE403.out | refine below_set ?_ GE415.out | refine below_set ?_ GE421.out) | exact HB.out)))); have n4_ := Aside0.mk (blk_below (g := gb403) (o := .cells #[.bool a0_0, .string a0_1, .slice A0_2 l0_2.length c0_2] 56 (0, 0)) (by (with_reducible repeat (first | refine blk_drewN ?_ _ | refine blk_drew ?_ | refine blk_alloc ?_ _)); refine blk_far ?_ NB403_421.out _; (with_reducible repeat (first | refine blk_drewN ?_ _ | refine blk_drew ?_ | refine blk_alloc ?_ _)); refine blk_far ?_ NB403_421.out _; (with_reducible repeat (first | refine blk_drewN ?_ _ | refine blk_drew ?_ | refine blk_alloc ?_ _)); refine blk_far ?_ NB403_421.out _; (with_reducible repeat (first | refine blk_drewN ?_ _ | refine blk_drew ?_ | refine blk_alloc ?_ _)); exact BK403.out) hb); have n5_ := Aside0.mk (blk_below (g := gb415) (o := .cells #[.string t410, .int .i64 t411, .slice Ao28 t412.length co28] 34 (0, 0)) (by (with_reducible repeat (first | refine blk_drewN ?_ _ | refine blk_drew ?_ | refine blk_alloc ?_ _)); refine blk_far ?_ NB415_421.out _; (with_reducible repeat (first | refine blk_drewN ?_ _ | refine blk_drew ?_ | refine blk_alloc ?_ _)); refine blk_far ?_ NB415_421.out _; (with_reducible repeat (first | refine blk_drewN ?_ _ | refine blk_drew ?_ | refine blk_alloc ?_ _)); refine blk_far ?_ NB415_421.out _; (with_reducible repeat (first | refine blk_drewN ?_ _ | refine blk_drew ?_ | refine blk_alloc ?_ _)); exact BK415.out) hb); have n6_ := Aside0.mk (blk_below (g := gb421) (o := .cells #[.bool t416, .string t417, .slice Ao35 t418.length co35] 61 (0, 0)) (by (with_reducible repeat (first | refine blk_drewN ?_ _ | refine blk_drew ?_ | refine blk_alloc ?_ _)); refine blk_put (cs := #[.bool t416, .string t417, .slice none 0 0]) ?_ 2 _ rfl; (with_reducible repeat (first | refine blk_drewN ?_ _ | refine blk_drew ?_ | refine blk_alloc ?_ _)); refine blk_put (cs := #[.bool t416, .string (⟨#[]⟩ : ByteArray), .slice none 0 0]) ?_ 1 _ rfl; (with_reducible repeat (first | refine blk_drewN ?_ _ | refine blk_drew ?_ | refine blk_alloc ?_ _)); refine blk_put (cs := #[.bool false, .string (⟨#[]⟩ : ByteArray), .slice none 0 0]) ?_ 0 _ rfl; (with_reducible repeat (first | refine blk_drewN ?_ _ | refine blk_drew ?_ | refine blk_alloc ?_ _)); exact BK421.out) hb); have n7_ := Aside0.mk (below_step (by repeat (first | (with_reducible first | exact HB.out | apply below_alloc | apply pw_below_drewN | apply below_drew1 | refine below_set ?_ GE403.out | refine below_set ?_ GE415.out | refine below_set ?_ GE421.out) | exact HB.out)) hb); clear HO409; clear HO414; clear HO420; clear BK403; clear BK415; clear BK421; clear HB; have HO409 := n0_; have HO414 := n1_; have HO420 := n2_; have HO426 := n3_; have BK403 := n4_; have BK415 := n5_; have BK421 := n6_; have HB := n7_; clear n0_ n1_ n2_ n3_ n4_ n5_ n6_ n7_; (try clear hb); (try clear hb2); (try clear hk); (try clear hi); (try clear ho0)) | ((with_reducible refine gate_dst (N := 6) rfl ?_); refine box_event ?hg (N := 6) ?hd (cs := #[.string (⟨#[]⟩ : ByteArray), .int .i64 0, .slice none 0 0]) (t := 34) ?hr ?_; (case hd => rfl); (case hg => rfl); (case hr => first | (go_simp; done) | (go_simp; rfl)); intro gb427 hg w37 hbox hb; have n0_ := Aside0.mk (Kd.R_below (by (with_reducible repeat (first | apply Kd.R_alloc | apply Kd.R_drewN | apply Kd.R_drew)); exact HO409.out) hb); have n1_ := Aside0.mk (Kd.R_below (by (with_reducible repeat (first | apply Kd.R_alloc | apply Kd.R_drewN | apply Kd.R_drew)); exact HO414.out) hb); have n2_ := Aside0.mk (Kd.R_below (by (with_reducible repeat (first | apply Kd.R_alloc | apply Kd.R_drewN | apply Kd.R_drew)); exact HO420.out) hb); have n3_ := Aside0.mk (Kd.R_below (by (with_reducible repeat (first | apply Kd.R_alloc | apply Kd.R_drewN | apply Kd.R_drew)); exact HO426.out) hb); have n4_ := Aside0.mk (blk_below (g := gb403) (o := .cells #[.bool a0_0, .string a0_1, .slice A0_2 l0_2.length c0_2] 56 (0, 0)) (by (with_reducible repeat (first | refine blk_drewN ?_ _ | refine blk_drew ?_ | refine blk_alloc ?_ _)); exact BK403.out) hb); have n5_ := Aside0.mk (blk_below (g := gb415) (o := .cells #[.string t410, .int .i64 t411, .slice Ao28 t412.length co28] 34 (0, 0)) (by (with_reducible repeat (first | refine blk_drewN ?_ _ | refine blk_drew ?_ | refine blk_alloc ?_ _)); exact BK415.out) hb); have n6_ := Aside0.mk (blk_below (g := gb421) (o := .cells #[.bool t416, .string t417, .slice Ao35 t418.length co35] 61 (0, 0)) (by (with_reducible repeat (first | refine blk_drewN ?_ _ | refine blk_drew ?_ | refine blk_alloc ?_ _)); exact BK421.out) hb); have n7_ := Aside0.mk (below_step (by repeat (first | (with_reducible first | exact HB.out | apply below_alloc | apply pw_below_drewN | apply below_drew1 | refine below_set ?_ GE403.out | refine below_set ?_ GE415.out | refine below_set ?_ GE421.out) | exact HB.out)) hb); have n8_ := Aside0.mk (hbox); have n9_ := Aside0.mk ((by rw [hg]; exact (below_size (by repeat (first | (with_reducible first | exact HB.out | apply below_alloc | apply pw_below_drewN | apply below_drew1 | refine below_set ?_ GE403.out | refine below_set ?_ GE415.out | refine below_set ?_ GE421.out) | exact HB.out))) : w.heap.size ≤ gb427)); have n10_ := Aside0.mk ((by rw [hg]; exact (below_size (by repeat (first | (with_reducible first | exact HB.out | apply below_alloc | apply pw_below_drewN | apply below_drew1 | refine below_set ?_ GE403.out | refine below_set ?_ GE415.out | refine below_set ?_ GE421.out) | exact HB.out))) : w.heap.size ≤ gb427)); have n11_ := Aside0.mk ((by rw [hg]; exact Nat.ne_of_lt (blk_lt (g := gb403) (o := .cells #[.bool a0_0, .string a0_1, .slice A0_2 l0_2.length c0_2] 56 (0, 0)) (by (with_reducible repeat (first | refine blk_drewN ?_ _ | refine blk_drew ?_ | refine blk_alloc ?_ _)); exact BK403.out)) : gb403 ≠ gb427)); have n12_ := Aside0.mk ((by rw [hg]; exact Nat.ne_of_gt (blk_lt (g := gb403) (o := .cells #[.bool a0_0, .string a0_1, .slice A0_2 l0_2.length c0_2] 56 (0, 0)) (by (with_reducible repeat (first | refine blk_drewN ?_ _ | refine blk_drew ?_ | refine blk_alloc ?_ _)); exact BK403.out)) : gb427 ≠ gb403)); have n13_ := Aside0.mk ((by rw [hg]; exact Nat.ne_of_lt (blk_lt (g := gb415) (o := .cells #[.string t410, .int .i64 t411, .slice Ao28 t412.length co28] 34 (0, 0)) (by (with_reducible repeat (first | refine blk_drewN ?_ _ | refine blk_drew ?_ | refine blk_alloc ?_ _)); exact BK415.out)) : gb415 ≠ gb427)); have n14_ := Aside0.mk ((by rw [hg]; exact Nat.ne_of_gt (blk_lt (g := gb415) (o := .cells #[.string t410, .int .i64 t411, .slice Ao28 t412.length co28] 34 (0, 0)) (by (with_reducible repeat (first | refine blk_drewN ?_ _ | refine blk_drew ?_ | refine blk_alloc ?_ _)); exact BK415.out)) : gb427 ≠ gb415)); have n15_ := Aside0.mk ((by rw [hg]; exact Nat.ne_of_lt (blk_lt (g := gb421) (o := .cells #[.bool t416, .string t417, .slice Ao35 t418.length co35] 61 (0, 0)) (by (with_reducible repeat (first | refine blk_drewN ?_ _ | refine blk_drew ?_ | refine blk_alloc ?_ _)); exact BK421.out)) : gb421 ≠ gb427)); have n16_ := Aside0.mk ((by rw [hg]; exact Nat.ne_of_gt (blk_lt (g := gb421) (o := .cells #[.bool t416, .string t417, .slice Ao35 t418.length co35] 61 (0, 0)) (by (with_reducible repeat (first | refine blk_drewN ?_ _ | refine blk_drew ?_ | refine blk_alloc ?_ _)); exact BK421.out)) : gb427 ≠ gb421)); clear HO409; clear HO414; clear HO420; clear HO426; clear BK403; clear BK415; clear BK421; clear HB; have HO409 := n0_; have HO414 := n1_; have HO420 := n2_; have HO426 := n3_; have BK403 := n4_; have BK415 := n5_; have BK421 := n6_; have HB := n7_; have BK427 := n8_; have GW427 := n9_; have GE427 := n10_; have NB403_427 := n11_; have NB427_403 := n12_; have NB415_427 := n13_; have NB427_415 := n14_; have NB421_427 := n15_; have NB427_421 := n16_; clear n0_ n1_ n2_ n3_ n4_ n5_ n6_ n7_ n8_ n9_ n10_ n11_ n12_ n13_ n14_ n15_ n16_; clear hb hbox hg; have hnb38 := NB427_403.out; have hnc38 := NB403_427.out; have hnb39 := NB427_415.out; have hnc39 := NB415_427.out; have hnb40 := NB427_421.out; have hnc40 := NB421_427.out; have hcz41_0 : w37.cell? ⟨gb427, 0, none⟩ = some (.string (⟨#[]⟩ : ByteArray)) := (blk_cell BK427.out 0).trans rfl; have hcz41_1 : w37.cell? ⟨gb427, 1, none⟩ = some (.int .i64 0) := (blk_cell BK427.out 1).trans rfl; have hcz41_2 : w37.cell? ⟨gb427, 2, none⟩ = some (.slice none 0 0) := (blk_cell BK427.out 2).trans rfl; have hfz41_0 := blk_frozen BK427.out 0; have hfz41_1 := blk_frozen BK427.out 1; have hfz41_2 := blk_frozen BK427.out 2; obtain ⟨Ao42, co42, eo42⟩ := Kd.R_slice HO426.out; subst eo42; have hcz43_0 : w37.cell? ⟨gb415, 0, none⟩ = some (.string t410) := (blk_cell BK415.out 0).trans rfl; have hcz43_1 : w37.cell? ⟨gb415, 1, none⟩ = some (.int .i64 t411) := (blk_cell BK415.out 1).trans rfl; have hcz43_2 : w37.cell? ⟨gb415, 2, none⟩ = some (.slice Ao28 t412.length co28) := (blk_cell BK415.out 2).trans rfl; have hfz43_0 := blk_frozen BK415.out 0; have hfz43_1 := blk_frozen BK415.out 1; have hfz43_2 := blk_frozen BK415.out 2) | ((with_reducible refine gate_callee (f := 16) rfl ?_); refine goesL_ (some 25) rfl rfl Try.func16 (by kernel_rfl) rfl #[.agg #[.string t422, .int .i64 t423, .slice Ao42 t424.length co42], .agg #[.string t410, .int .i64 t411, .slice Ao28 t412.length co28]] rfl (by (try simp only [List.map_toArray, List.map_cons, List.map_nil]); first | done | rfl | (simp only [List.length_drop, List.length_take]; rfl)) ?_; (with_reducible refine (laws_eqAlpha.calls k t422 t423 _ _ t424 t410 t411 _ _ t412 true _ ?side1 ?side2 ?side3 ?side4 A11.out).mono ?_); (case side1 => refine (Kd.R_reads' (e := 106) (base := w.heap.size) (ok := fun k_ => (True ∧ some k_ ≠ (.slice Ao28 t412.length co28 : Value).ownBlock)) (n := t424.length) (c := co42) ?_).2.2; exact (by (with_reducible repeat (first | apply Kd.R_alloc | apply Kd.R_drewN | apply Kd.R_drew)); exact (Kd.R_mono (Kd.R_far (p := ⟨gb427, 2, none⟩) (Kd.R_far (p := ⟨gb427, 1, none⟩) (Kd.R_far (p := ⟨gb427, 0, none⟩) (Kd.R_types HO426.out BK427.out (by decide)) (fun _ hk => hk.2) (.string t422)) (fun _ hk => hk.2) (.int .i64 t423)) (fun _ hk => hk.2) (.slice Ao42 t424.length co42)) (fun _ h_ => h_.1)))); (case side2 => exact (Kd.R_reads' HO426.out).2.1); (case side3 => refine (Kd.R_reads' (e := 106) (base := w.heap.size) (ok := fun k_ => (True ∧ some k_ ≠ (.slice Ao42 t424.length co42 : Value).ownBlock)) (n := t412.length) (c := co28) ?_).2.2; exact (by (with_reducible repeat (first | apply Kd.R_alloc | apply Kd.R_drewN | apply Kd.R_drew)); exact (Kd.R_mono (Kd.R_far (p := ⟨gb427, 2, none⟩) (Kd.R_far (p := ⟨gb427, 1, none⟩) (Kd.R_far (p := ⟨gb427, 0, none⟩) (Kd.R_types HO414.out BK427.out (by decide)) (fun _ hk => hk.2) (.string t422)) (fun _ hk => hk.2) (.int .i64 t423)) (fun _ hk => hk.2) (.slice Ao42 t424.length co42)) (fun _ h_ => h_.1)))); (case side4 => exact (Kd.R_reads' HO414.out).2.1); rintro e w44 ⟨rfl, hb⟩; refine ⟨_, rfl, ?_⟩; have n0_ := Aside0.mk (Kd.R_below (by (with_reducible repeat (first | apply Kd.R_alloc | apply Kd.R_drewN | apply Kd.R_drew)); exact (Kd.R_mono (Kd.R_far (p := ⟨gb427, 2, none⟩) (Kd.R_far (p := ⟨gb427, 1, none⟩) (Kd.R_far (p := ⟨gb427, 0, none⟩) (Kd.R_types HO409.out BK427.out (by decide)) (fun _ hk => hk.2) (.string t422)) (fun _ hk => hk.2) (.int .i64 t423)) (fun _ hk => hk.2) (.slice Ao42 t424.length co42)) (fun _ h_ => h_.1))) hb); have n1_ := Aside0.mk (Kd.R_below (by (with_reducible repeat (first | apply Kd.R_alloc | apply Kd.R_drewN | apply Kd.R_drew)); exact (Kd.R_mono (Kd.R_far (p := ⟨gb427, 2, none⟩) (Kd.R_far (p := ⟨gb427, 1, none⟩) (Kd.R_far (p := ⟨gb427, 0, none⟩) (Kd.R_types HO414.out BK427.out (by decide)) (fun _ hk => hk.2) (.string t422)) (fun _ hk => hk.2) (.int .i64 t423)) (fun _ hk => hk.2) (.slice Ao42 t424.length co42)) (fun _ h_ => h_.1))) hb); have n2_ := Aside0.mk (Kd.R_below (by (with_reducible repeat (first | apply Kd.R_alloc | apply Kd.R_drewN | apply Kd.R_drew)); exact (Kd.R_mono (Kd.R_far (p := ⟨gb427, 2, none⟩) (Kd.R_far (p := ⟨gb427, 1, none⟩) (Kd.R_far (p := ⟨gb427, 0, none⟩) (Kd.R_types HO420.out BK427.out (by decide)) (fun _ hk => hk.2) (.string t422)) (fun _ hk => hk.2) (.int .i64 t423)) (fun _ hk => hk.2) (.slice Ao42 t424.length co42)) (fun _ h_ => h_.1))) hb); have n3_ := Aside0.mk (Kd.R_below (by (with_reducible repeat (first | apply Kd.R_alloc | apply Kd.R_drewN | apply Kd.R_drew)); exact (Kd.R_mono (Kd.R_far (p := ⟨gb427, 2, none⟩) (Kd.R_far (p := ⟨gb427, 1, none⟩) (Kd.R_far (p := ⟨gb427, 0, none⟩) (Kd.R_types HO426.out BK427.out (by decide)) (fun _ hk => hk.2) (.string t422)) (fun _ hk => hk.2) (.int .i64 t423)) (fun _ hk => hk.2) (.slice Ao42 t424.length co42)) (fun _ h_ => h_.1))) hb); have n4_ := Aside0.mk (blk_below (g := gb403) (o := .cells #[.bool a0_0, .string a0_1, .slice A0_2 l0_2.length c0_2] 56 (0, 0)) (by (with_reducible repeat (first | refine blk_drewN ?_ _ | refine blk_drew ?_ | refine blk_alloc ?_ _)); refine blk_far ?_ NB403_427.out _; (with_reducible repeat (first | refine blk_drewN ?_ _ | refine blk_drew ?_ | refine blk_alloc ?_ _)); refine blk_far ?_ NB403_427.out _; (with_reducible repeat (first | refine blk_drewN ?_ _ | refine blk_drew ?_ | refine blk_alloc ?_ _)); refine blk_far ?_ NB403_427.out _; (with_reducible repeat (first | refine blk_drewN ?_ _ | refine blk_drew ?_ | refine blk_alloc ?_ _)); exact BK403.out) hb); have n5_ := Aside0.mk (blk_below (g := gb415) (o := .cells #[.string t410, .int .i64 t411, .slice Ao28 t412.length co28] 34 (0, 0)) (by (with_reducible repeat (first | refine blk_drewN ?_ _ | refine blk_drew ?_ | refine blk_alloc ?_ _)); refine blk_far ?_ NB415_427.out _; (with_reducible repeat (first | refine blk_drewN ?_ _ | refine blk_drew ?_ | refine blk_alloc ?_ _)); refine blk_far ?_ NB415_427.out _; (with_reducible repeat (first | refine blk_drewN ?_ _ | refine blk_drew ?_ | refine blk_alloc ?_ _)); refine blk_far ?_ NB415_427.out _; (with_reducible repeat (first | refine blk_drewN ?_ _ | refine blk_drew ?_ | refine blk_alloc ?_ _)); exact BK415.out) hb); have n6_ := Aside0.mk (blk_below (g := gb421) (o := .cells #[.bool t416, .string t417, .slice Ao35 t418.length co35] 61 (0, 0)) (by (with_reducible repeat (first | refine blk_drewN ?_ _ | refine blk_drew ?_ | refine blk_alloc ?_ _)); refine blk_far ?_ NB421_427.out _; (with_reducible repeat (first | refine blk_drewN ?_ _ | refine blk_drew ?_ | refine blk_alloc ?_ _)); refine blk_far ?_ NB421_427.out _; (with_reducible repeat (first | refine blk_drewN ?_ _ | refine blk_drew ?_ | refine blk_alloc ?_ _)); refine blk_far ?_ NB421_427.out _; (with_reducible repeat (first | refine blk_drewN ?_ _ | refine blk_drew ?_ | refine blk_alloc ?_ _)); exact BK421.out) hb); have n7_ := Aside0.mk (blk_below (g := gb427) (o := .cells #[.string t422, .int .i64 t423, .slice Ao42 t424.length co42] 34 (0, 0)) (by (with_reducible repeat (first | refine blk_drewN ?_ _ | refine blk_drew ?_ | refine blk_alloc ?_ _)); refine blk_put (cs := #[.string t422, .int .i64 t423, .slice none 0 0]) ?_ 2 _ rfl; (with_reducible repeat (first | refine blk_drewN ?_ _ | refine blk_drew ?_ | refine blk_alloc ?_ _)); refine blk_put (cs := #[.string t422, .int .i64 0, .slice none 0 0]) ?_ 1 _ rfl; (with_reducible repeat (first | refine blk_drewN ?_ _ | refine blk_drew ?_ | refine blk_alloc ?_ _)); refine blk_put (cs := #[.string (⟨#[]⟩ : ByteArray), .int .i64 0, .slice none 0 0]) ?_ 0 _ rfl; (with_reducible repeat (first | refine blk_drewN ?_ _ | refine blk_drew ?_ | refine blk_alloc ?_ _)); exact BK427.out) hb); have n8_ := Aside0.mk (below_step (by repeat (first | (with_reducible first | exact HB.out | apply below_alloc | apply pw_below_drewN | apply below_drew1 | refine below_set ?_ GE403.out | refine below_set ?_ GE415.out | refine below_set ?_ GE421.out | refine below_set ?_ GE427.out) | exact HB.out)) hb); clear HO409; clear HO414; clear HO420; clear HO426; clear BK403; clear BK415; clear BK421; clear BK427; clear HB; have HO409 := n0_; have HO414 := n1_; have HO420 := n2_; have HO426 := n3_; have BK403 := n4_; have BK415 := n5_; have BK421 := n6_; have BK427 := n7_; have HB := n8_; clear n0_ n1_ n2_ n3_ n4_ n5_ n6_ n7_ n8_; (try clear hb); (try clear hb2); (try clear hk); (try clear hi)))
        have n0_ := Aside0.mk (Kd.R_drew HO409.out)
        have n1_ := Aside0.mk (Kd.R_drew HO414.out)
        have n2_ := Aside0.mk (Kd.R_drew HO420.out)
        have n3_ := Aside0.mk (Kd.R_drew HO426.out)
        have n4_ := Aside0.mk (blk_drew BK403.out)
        have n5_ := Aside0.mk (blk_drew BK415.out)
        have n6_ := Aside0.mk (blk_drew BK421.out)
        have n7_ := Aside0.mk (blk_drew BK427.out)
        have n8_ := Aside0.mk (below_drew1 HB.out)
        clear HO409
        clear HO414
        clear HO420
        clear HO426
        clear BK403
        clear BK415
        clear BK421
        clear BK427
        clear HB
        have HO409 := n0_
        have HO414 := n1_
        have HO420 := n2_
        have HO426 := n3_
        have BK403 := n4_
        have BK415 := n5_
        have BK421 := n6_
        have BK427 := n7_
        have HB := n8_
        clear n0_ n1_ n2_ n3_ n4_ n5_ n6_ n7_ n8_
        refine start_ (n := 5) (S := fun w' => w'.cell? ⟨gb421, 0, none⟩ = some (.bool t416) ∧ w'.cell? ⟨gb421, 1, none⟩ = some (.string t417) ∧ w'.cell? ⟨gb421, 2, none⟩ = some (.slice Ao35 t418.length co35) ∧ w'.cell? ⟨gb403, 0, none⟩ = some (.bool a0_0) ∧ w'.cell? ⟨gb403, 1, none⟩ = some (.string a0_1) ∧ w'.cell? ⟨gb403, 2, none⟩ = some (.slice A0_2 l0_2.length c0_2)) (ds := []) #[false, false, false, false, false] (by kernel_rfl) rfl rfl ⟨(blk_cell BK421.out 0).trans rfl, (blk_cell BK421.out 1).trans rfl, (blk_cell BK421.out 2).trans rfl, (blk_cell BK403.out 0).trans rfl, (blk_cell BK403.out 1).trans rfl, (blk_cell BK403.out 2).trans rfl⟩ (fun hHeld => ?_)
        generalize w44.drew = w45 at HO409 HO414 HO420 HO426 BK403 BK415 BK421 BK427 HB hHeld ⊢
        refine take_ (i := 0) (N := some 27) (v := ?_) (a' := ?_) #[true, false, false, false, false] rfl rfl (by kernel_rfl) (fun _ _ _ h => h) (Or.inl ⟨by rfl, ?_⟩) hHeld ?_ ?_
        rotate_left
        · rintro w' ⟨s0, s1, s2, s3, s4, s5⟩
          go_simp
          with_reducible rfl
        rotate_left
        · simp only [Act.put, List.setIfInBounds_toArray, List.set_cons_zero, List.set_cons_succ, i64_w, i32_w]
          rfl
        refine take_ (i := 1) (N := some 28) (v := ?_) (a' := ?_) #[true, true, false, false, false] rfl rfl (by kernel_rfl) (fun _ _ _ h => h) (Or.inl ⟨by rfl, ?_⟩) hHeld ?_ ?_
        rotate_left
        · rintro w' ⟨s0, s1, s2, s3, s4, s5⟩
          go_simp
          with_reducible rfl
        rotate_left
        · simp only [Act.put, List.setIfInBounds_toArray, List.set_cons_zero, List.set_cons_succ, i64_w, i32_w]
          rfl
        refine one_ (i := 2) (N := some 29) #[true, true, true, false, false] rfl rfl (by kernel_rfl) (by decide) (fun K hK => ?_)
        refine goes_ Try.func25 (by kernel_rfl) rfl #[.agg #[.bool a0_0, .string a0_1, .slice A0_2 l0_2.length c0_2]] (by rfl) rfl rfl (by (try simp only [List.map_toArray, List.map_cons, List.map_nil]); first | done | rfl | (simp only [List.length_drop, List.length_take]; rfl)) ?_
        with_reducible refine (laws_toPattern.calls k a0_0 a0_1 _ _ l0_2 t429 t430 t431 _ ?side1 ?side2 A13.out).mono ?_
        (case side1 => repeat (first | exact (Kd.C_below HR0_2.out HB.out) | (with_reducible refine Kd.C_alloc ?_ _) | (with_reducible refine Kd.C_drewN ?_ _) | (with_reducible refine Kd.C_drew ?_)))
        (case side2 => exact HC0_2.out)
        rintro e w46 ⟨v432, rfl, ho0, hb⟩
        refine ⟨_, rfl, ?_⟩
        have n0_ := Aside0.mk (Kd.R_elder' (by (with_reducible repeat (first | apply Kd.R_alloc | apply Kd.R_drewN | apply Kd.R_drew)); exact HO409.out) (Kd.R_base ho0) hb)
        have n1_ := Aside0.mk (Kd.R_below (by (with_reducible repeat (first | apply Kd.R_alloc | apply Kd.R_drewN | apply Kd.R_drew)); exact HO414.out) hb)
        have n2_ := Aside0.mk (Kd.R_elder' (by (with_reducible repeat (first | apply Kd.R_alloc | apply Kd.R_drewN | apply Kd.R_drew)); exact HO420.out) (Kd.R_base ho0) hb)
        have n3_ := Aside0.mk (Kd.R_below (by (with_reducible repeat (first | apply Kd.R_alloc | apply Kd.R_drewN | apply Kd.R_drew)); exact HO426.out) hb)
        have n4_ := Aside0.mk (Kd.R_lower (Kd.R_new' (Kd.R_new' ho0 (Kd.R_lt (by (with_reducible repeat (first | apply Kd.R_alloc | apply Kd.R_drewN | apply Kd.R_drew)); exact HO409.out))) (Kd.R_lt (by (with_reducible repeat (first | apply Kd.R_alloc | apply Kd.R_drewN | apply Kd.R_drew)); exact HO420.out))) (below_size (by repeat (first | (with_reducible first | exact HB.out | apply below_alloc | apply pw_below_drewN | apply below_drew1 | refine below_set ?_ GE403.out | refine below_set ?_ GE415.out | refine below_set ?_ GE421.out | refine below_set ?_ GE427.out) | exact HB.out))))
        have n5_ := Aside0.mk (blk_below (g := gb403) (o := .cells #[.bool a0_0, .string a0_1, .slice A0_2 l0_2.length c0_2] 56 (0, 0)) (by (with_reducible repeat (first | refine blk_drewN ?_ _ | refine blk_drew ?_ | refine blk_alloc ?_ _)); exact BK403.out) hb)
        have n6_ := Aside0.mk (blk_below (g := gb415) (o := .cells #[.string t410, .int .i64 t411, .slice Ao28 t412.length co28] 34 (0, 0)) (by (with_reducible repeat (first | refine blk_drewN ?_ _ | refine blk_drew ?_ | refine blk_alloc ?_ _)); exact BK415.out) hb)
        have n7_ := Aside0.mk (blk_below (g := gb421) (o := .cells #[.bool t416, .string t417, .slice Ao35 t418.length co35] 61 (0, 0)) (by (with_reducible repeat (first | refine blk_drewN ?_ _ | refine blk_drew ?_ | refine blk_alloc ?_ _)); exact BK421.out) hb)
        have n8_ := Aside0.mk (blk_below (g := gb427) (o := .cells #[.string t422, .int .i64 t423, .slice Ao42 t424.length co42] 34 (0, 0)) (by (with_reducible repeat (first | refine blk_drewN ?_ _ | refine blk_drew ?_ | refine blk_alloc ?_ _)); exact BK427.out) hb)
        have n9_ := Aside0.mk (below_step (by repeat (first | (with_reducible first | exact HB.out | apply below_alloc | apply pw_below_drewN | apply below_drew1 | refine below_set ?_ GE403.out | refine below_set ?_ GE415.out | refine below_set ?_ GE421.out | refine below_set ?_ GE427.out) | exact HB.out)) hb)
        clear HO409
        clear HO414
        clear HO420
        clear HO426
        clear BK403
        clear BK415
        clear BK421
        clear BK427
        clear HB
        have HO409 := n0_
        have HO414 := n1_
        have HO420 := n2_
        have HO426 := n3_
        have HO433 := n4_
        have BK403 := n5_
        have BK415 := n6_
        have BK421 := n7_
        have BK427 := n8_
        have HB := n9_
        clear n0_ n1_ n2_ n3_ n4_ n5_ n6_ n7_ n8_ n9_
        (try clear hb)
        (try clear hb2)
        (try clear hk)
        (try clear hi)
        (try clear ho0)
        obtain ⟨Ao47, co47, eo47⟩ := Kd.R_slice HO433.out
        (first | subst eo47 | (injection eo47 with f1_ f2_ f3_; have f4_ := f1_.symm; have f5_ := f3_.symm; clear f1_ f2_ f3_; subst f4_; subst f5_))
        refine hK.out _ _ ⟨(blk_cell BK421.out 0).trans rfl, (blk_cell BK421.out 1).trans rfl, (blk_cell BK421.out 2).trans rfl, (blk_cell BK403.out 0).trans rfl, (blk_cell BK403.out 1).trans rfl, (blk_cell BK403.out 2).trans rfl⟩ (fun hHeld => ?_)
        clear hK K
        refine norm_ (a' := ?_) ?_ ?_
        rotate_left
        · show Act.put _ (some 29) _ = _
          simp only [Act.put, List.setIfInBounds_toArray, List.set_cons_zero, List.set_cons_succ, i64_w, i32_w]
          rfl
        refine one_ (i := 3) (N := some 30) #[true, true, true, true, false] rfl rfl (by kernel_rfl) (by decide) (fun K hK => ?_)
        refine goes_ Try.func27 (by kernel_rfl) rfl #[.agg #[.bool t416, .string t417, .slice Ao35 t418.length co35], .agg #[.bool t429, .string t430, .slice Ao47 t431.length co47]] (by rfl) rfl rfl (by (try simp only [List.map_toArray, List.map_cons, List.map_nil]); first | done | rfl | (simp only [List.length_drop, List.length_take]; rfl)) ?_
        with_reducible refine (laws_eqPattern.calls k t416 t417 _ _ t418 t429 t430 _ _ t431 true _ ?side1 ?side2 ?side3 ?side4 A14.out).mono ?_
        (case side1 => repeat (first | exact (Kd.R_reads' HO420.out).2.2 | (with_reducible refine Kd.C_alloc ?_ _) | (with_reducible refine Kd.C_drewN ?_ _) | (with_reducible refine Kd.C_drew ?_)))
        (case side2 => exact (Kd.R_reads' HO420.out).2.1)
        (case side3 => repeat (first | exact (Kd.R_reads' HO433.out).2.2 | (with_reducible refine Kd.C_alloc ?_ _) | (with_reducible refine Kd.C_drewN ?_ _) | (with_reducible refine Kd.C_drew ?_)))
        (case side4 => exact (Kd.R_reads' HO433.out).2.1)
        rintro e w48 ⟨rfl, hb⟩
        refine ⟨_, rfl, ?_⟩
        have n0_ := Aside0.mk (Kd.R_below (by (with_reducible repeat (first | apply Kd.R_alloc | apply Kd.R_drewN | apply Kd.R_drew)); exact HO409.out) hb)
        have n1_ := Aside0.mk (Kd.R_below (by (with_reducible repeat (first | apply Kd.R_alloc | apply Kd.R_drewN | apply Kd.R_drew)); exact HO414.out) hb)
        have n2_ := Aside0.mk (Kd.R_below (by (with_reducible repeat (first | apply Kd.R_alloc | apply Kd.R_drewN | apply Kd.R_drew)); exact HO420.out) hb)
        have n3_ := Aside0.mk (Kd.R_below (by (with_reducible repeat (first | apply Kd.R_alloc | apply Kd.R_drewN | apply Kd.R_drew)); exact HO426.out) hb)
        have n4_ := Aside0.mk (Kd.R_below (by (with_reducible repeat (first | apply Kd.R_alloc | apply Kd.R_drewN | apply Kd.R_drew)); exact HO433.out) hb)
        have n5_ := Aside0.mk (blk_below (g := gb403) (o := .cells #[.bool a0_0, .string a0_1, .slice A0_2 l0_2.length c0_2] 56 (0, 0)) (by (with_reducible repeat (first | refine blk_drewN ?_ _ | refine blk_drew ?_ | refine blk_alloc ?_ _)); exact BK403.out) hb)
        have n6_ := Aside0.mk (blk_below (g := gb415) (o := .cells #[.string t410, .int .i64 t411, .slice Ao28 t412.length co28] 34 (0, 0)) (by (with_reducible repeat (first | refine blk_drewN ?_ _ | refine blk_drew ?_ | refine blk_alloc ?_ _)); exact BK415.out) hb)
        have n7_ := Aside0.mk (blk_below (g := gb421) (o := .cells #[.bool t416, .string t417, .slice Ao35 t418.length co35] 61 (0, 0)) (by (with_reducible repeat (first | refine blk_drewN ?_ _ | refine blk_drew ?_ | refine blk_alloc ?_ _)); exact BK421.out) hb)
        have n8_ := Aside0.mk (blk_below (g := gb427) (o := .cells #[.string t422, .int .i64 t423, .slice Ao42 t424.length co42] 34 (0, 0)) (by (with_reducible repeat (first | refine blk_drewN ?_ _ | refine blk_drew ?_ | refine blk_alloc ?_ _)); exact BK427.out) hb)
        have n9_ := Aside0.mk (below_step (by repeat (first | (with_reducible first | exact HB.out | apply below_alloc | apply pw_below_drewN | apply below_drew1 | refine below_set ?_ GE403.out | refine below_set ?_ GE415.out | refine below_set ?_ GE421.out | refine below_set ?_ GE427.out) | exact HB.out)) hb)
        clear HO409
        clear HO414
        clear HO420
        clear HO426
        clear HO433
        clear BK403
        clear BK415
        clear BK421
        clear BK427
        clear HB
        have HO409 := n0_
        have HO414 := n1_
        have HO420 := n2_
        have HO426 := n3_
        have HO433 := n4_
        have BK403 := n5_
        have BK415 := n6_
        have BK421 := n7_
        have BK427 := n8_
        have HB := n9_
        clear n0_ n1_ n2_ n3_ n4_ n5_ n6_ n7_ n8_ n9_
        (try clear hb)
        (try clear hb2)
        (try clear hk)
        (try clear hi)
        refine hK.out _ _ ⟨(blk_cell BK421.out 0).trans rfl, (blk_cell BK421.out 1).trans rfl, (blk_cell BK421.out 2).trans rfl, (blk_cell BK403.out 0).trans rfl, (blk_cell BK403.out 1).trans rfl, (blk_cell BK403.out 2).trans rfl⟩ (fun hHeld => ?_)
        clear hK K
        refine norm_ (a' := ?_) ?_ ?_
        rotate_left
        · show Act.put _ (some 30) _ = _
          simp only [Act.put, List.setIfInBounds_toArray, List.set_cons_zero, List.set_cons_succ, i64_w, i32_w]
          rfl
        refine pure_ (i := 4) (N := some 31) (v := ?_) (a' := ?_) #[true, true, true, true, true] rfl rfl (by kernel_rfl) (fun _ _ _ h => h) (Or.inl ⟨by rfl, ?_⟩) ?_ ?_
        rotate_left
        · intro w'
          go_simp
          with_reducible rfl
        rotate_left
        · simp only [Act.put, List.setIfInBounds_toArray, List.set_cons_zero, List.set_cons_succ, i64_w, i32_w]
          rfl
        refine done_ (by kernel_rfl) ?_
        have hcz49_0 : w48.cell? ⟨gb421, 0, none⟩ = some (.bool t416) := (blk_cell BK421.out 0).trans rfl
        have hcz49_1 : w48.cell? ⟨gb421, 1, none⟩ = some (.string t417) := (blk_cell BK421.out 1).trans rfl
        have hcz49_2 : w48.cell? ⟨gb421, 2, none⟩ = some (.slice Ao35 t418.length co35) := (blk_cell BK421.out 2).trans rfl
        have hfz49_0 := blk_frozen BK421.out 0
        have hfz49_1 := blk_frozen BK421.out 1
        have hfz49_2 := blk_frozen BK421.out 2
        go_upto_region 14 with (first | ((with_reducible refine gate_callee (f := 28) rfl ?_); refine goesL_ (some 34) rfl rfl Try.func28 (by kernel_rfl) rfl #[.agg #[.bool t416, .string t417, .slice Ao35 t418.length co35], .int .i64 1] rfl (by (try simp only [List.map_toArray, List.map_cons, List.map_nil]); first | done | rfl | (simp only [List.length_drop, List.length_take]; rfl)) ?_; (with_reducible refine (laws_markPattern.calls k t416 t417 (fun k_ => some k_ = (.slice Ao35 t418.length co35 : Value).ownBlock) (.slice Ao35 t418.length co35) t418 1 t435 t436 w _ ?side1 ?side2 A16.out).mono ?_); (case side1 => repeat (first | (with_reducible first | exact HB.out | apply below_alloc | apply pw_below_drewN | apply below_drew1 | refine below_set ?_ GE403.out | refine below_set ?_ GE415.out | refine below_set ?_ GE421.out | refine below_set ?_ GE427.out) | exact HB.out)); (case side2 => exact Kd.R_tight rfl HO420.out); rintro e w50 ⟨rfl, hy0, hb, hkp⟩; refine ⟨_, rfl, ?_⟩; have n0_ := Aside0.mk (blk_kept (by (with_reducible repeat (first | refine blk_drewN ?_ _ | refine blk_drew ?_ | refine blk_alloc ?_ _)); exact BK403.out) hkp (fun hs_ => (fun e_ => (Kd.R_ne HO420.out BK403.out (by decide)) e_) hs_)); have n1_ := Aside0.mk (Kd.R_mono (ok' := fun k_ => some k_ ≠ (.slice Ao35 t418.length co35 : Value).ownBlock ∧ some k_ ≠ (.slice Ao47 t431.length co47 : Value).ownBlock) (Kd.R_keptB (HO409.out) hkp (fun k_ hk_ hs_ => (hk_.1.2) hs_)) (fun k_ hk_ => ⟨hk_.1.1.2, hk_.1.2⟩)); have n2_ := Aside0.mk (Kd.R_mono (ok' := fun k_ => some k_ ≠ (.slice Ao42 t424.length co42 : Value).ownBlock) (Kd.R_keptB ((Kd.R_apart' HO414.out (Kd.R_typed HO420.out) (by decide))) hkp (fun k_ hk_ hs_ => (hk_.2) hs_)) (fun k_ hk_ => hk_.1.1.2)); have n3_ := Aside0.mk (blk_kept (by (with_reducible repeat (first | refine blk_drewN ?_ _ | refine blk_drew ?_ | refine blk_alloc ?_ _)); exact BK415.out) hkp (fun hs_ => (fun e_ => (Kd.R_ne HO420.out BK415.out (by decide)) e_) hs_)); have n4_ := Aside0.mk (Kd.R_reok rfl hy0 (fun k_ e_ => HO420.out.1 k_ e_)); have n5_ := Aside0.mk (blk_kept (by (with_reducible repeat (first | refine blk_drewN ?_ _ | refine blk_drew ?_ | refine blk_alloc ?_ _)); exact BK421.out) hkp (fun hs_ => (fun e_ => (Kd.R_ne HO420.out BK421.out (by decide)) e_) hs_)); have n6_ := Aside0.mk (Kd.R_mono (ok' := fun k_ => some k_ ≠ (.slice Ao28 t412.length co28 : Value).ownBlock) (Kd.R_keptB ((Kd.R_apart' HO426.out (Kd.R_typed HO420.out) (by decide))) hkp (fun k_ hk_ hs_ => (hk_.2) hs_)) (fun k_ hk_ => hk_.1.1.2)); have n7_ := Aside0.mk (blk_kept (by (with_reducible repeat (first | refine blk_drewN ?_ _ | refine blk_drew ?_ | refine blk_alloc ?_ _)); exact BK427.out) hkp (fun hs_ => (fun e_ => (Kd.R_ne HO420.out BK427.out (by decide)) e_) hs_)); have n8_ := Aside0.mk (Kd.R_mono (ok' := fun k_ => some k_ ≠ (.slice Ao23 t407.length co23 : Value).ownBlock ∧ some k_ ≠ (.slice Ao35 t418.length co35 : Value).ownBlock) (Kd.R_keptB (HO433.out) hkp (fun k_ hk_ hs_ => (hk_.2) hs_)) (fun k_ hk_ => ⟨hk_.1.1.2, hk_.1.2⟩)); have n9_ := Aside0.mk (hb); clear BK403; clear HO409; clear HO414; clear BK415; clear HO420; clear BK421; clear HO426; clear BK427; clear HO433; clear HB; have BK403 := n0_; have HO409 := n1_; have HO414 := n2_; have BK415 := n3_; have HO420 := n4_; have BK421 := n5_; have HO426 := n6_; have BK427 := n7_; have HO433 := n8_; have HB := n9_; clear n0_ n1_ n2_ n3_ n4_ n5_ n6_ n7_ n8_ n9_; (try clear hb); (try clear hkp); (try clear hy0)))
        (try simp only [Act.put, List.setIfInBounds_toArray, List.set_cons_zero, List.set_cons_succ])
        go_cut [42] (fun v42 wc => ∃ (kq : Nat) (x42_16 : Bool), v42 = .bool x42_16 ∧ Aside0 (laws_FnExactAlphaOf.j0 kq x42_16 a0_0 a0_1 l0_2 t410 t411 t412 t422 t423 t424 = some true) ∧ Aside0 (kq ≤ k) ∧ Aside0 (Kd.R k106 106 wc w.heap.size (fun k_ => some k_ ≠ ((.slice Ao42 t424.length co42) : Value).ownBlock) (.slice Ao28 t412.length co28) t412) ∧ Aside0 (Kd.R k120 120 wc w.heap.size (fun _ => True) (.slice Ao35 t418.length co35) t436) ∧ Aside0 (Kd.R k106 106 wc w.heap.size (fun k_ => some k_ ≠ ((.slice Ao28 t412.length co28) : Value).ownBlock) (.slice Ao42 t424.length co42) t424) ∧ Aside0 (wc.heap[gb403]? = some (.cells #[.bool a0_0, .string a0_1, (.slice A0_2 l0_2.length c0_2)] 56 (0, 0))) ∧ Aside0 (wc.heap[gb415]? = some (.cells #[.string t410, .int .i64 t411, (.slice Ao28 t412.length co28)] 34 (0, 0))) ∧ Aside0 (wc.heap[gb421]? = some (.cells #[.bool t416, .string t417, (.slice Ao35 t418.length co35)] 61 (0, 0))) ∧ Aside0 (wc.heap[gb427]? = some (.cells #[.string t422, .int .i64 t423, (.slice Ao42 t424.length co42)] 34 (0, 0))) ∧ Aside0 (Below w.heap.size w wc))
        case first =>
          have H := HC17.out
          clear HC17
          by_cases c51 : t435 < 0
          · rw [if_pos c51] at H
            have c51b0 : decide (t435 < 0) = true := decide_eq_true c51
            clear c51
            (first | rw [c51b0] | (simp only [i64_w, i32_w]; rw [c51b0]) | skip)
            have H' := Aside0.mk H
            clear H
            go_wp2
            go_meet
            case rel => exact ⟨_, (true), (by first | rfl | (simp; done) | (simp [*]; done)), H', ⟨by first | omega | exact Nat.le_refl _⟩, ⟨by (with_reducible repeat (first | apply Kd.R_alloc | apply Kd.R_drewN | apply Kd.R_drew)); exact HO414.out⟩, ⟨by (with_reducible repeat (first | apply Kd.R_alloc | apply Kd.R_drewN | apply Kd.R_drew)); exact Kd.R_mono HO420.out (fun _ hk => trivial)⟩, ⟨by (with_reducible repeat (first | apply Kd.R_alloc | apply Kd.R_drewN | apply Kd.R_drew)); exact HO426.out⟩, ⟨by (with_reducible repeat (first | refine blk_drewN ?_ _ | refine blk_drew ?_ | refine blk_alloc ?_ _)); exact BK403.out⟩, ⟨by (with_reducible repeat (first | refine blk_drewN ?_ _ | refine blk_drew ?_ | refine blk_alloc ?_ _)); exact BK415.out⟩, ⟨by (with_reducible repeat (first | refine blk_drewN ?_ _ | refine blk_drew ?_ | refine blk_alloc ?_ _)); exact BK421.out⟩, ⟨by (with_reducible repeat (first | refine blk_drewN ?_ _ | refine blk_drew ?_ | refine blk_alloc ?_ _)); exact BK427.out⟩, ⟨by repeat (first | (with_reducible first | exact HB.out | apply below_alloc | apply pw_below_drewN | apply below_drew1 | refine below_set ?_ GE403.out | refine below_set ?_ GE415.out | refine below_set ?_ GE421.out | refine below_set ?_ GE427.out) | exact HB.out)⟩⟩
          · rw [if_neg c51] at H
            have c51b0 : decide (t435 < 0) = false := decide_eq_false c51
            clear c51
            (first | rw [c51b0] | (simp only [i64_w, i32_w]; rw [c51b0]) | skip)
            replace H := Option.bind_eq_some_iff.mp H
            obtain ⟨t437, A520, H⟩ := H
            replace H : (laws_FnExactAlphaOf.j0 k (!t437) a0_0 a0_1 l0_2 t410 t411 t412 t422 t423 t424) = some true := H
            have hTt437_ : t437 = true := by
              cases t437 with
              | true => rfl
              | false => exact absurd H (by cases k <;> simp [laws_FnExactAlphaOf.j0])
            have A52 := Aside0.mk A520
            clear A520
            have H' := Aside0.mk H
            clear H
            have hnb53 := NB427_403.out
            have hnc53 := NB403_427.out
            have hnb54 := NB427_415.out
            have hnc54 := NB415_427.out
            have hnb55 := NB427_421.out
            have hnc55 := NB421_427.out
            have hcz56_0 : w50.cell? ⟨gb427, 0, none⟩ = some (.string t422) := (blk_cell BK427.out 0).trans rfl
            have hcz56_1 : w50.cell? ⟨gb427, 1, none⟩ = some (.int .i64 t423) := (blk_cell BK427.out 1).trans rfl
            have hcz56_2 : w50.cell? ⟨gb427, 2, none⟩ = some (.slice Ao42 t424.length co42) := (blk_cell BK427.out 2).trans rfl
            have hfz56_0 := blk_frozen BK427.out 0
            have hfz56_1 := blk_frozen BK427.out 1
            have hfz56_2 := blk_frozen BK427.out 2
            have hnb57 := NB415_403.out
            have hnc57 := NB403_415.out
            have hnb58 := NB415_421.out
            have hnc58 := NB421_415.out
            have hcz59_0 : w50.cell? ⟨gb415, 0, none⟩ = some (.string t410) := (blk_cell BK415.out 0).trans rfl
            have hcz59_1 : w50.cell? ⟨gb415, 1, none⟩ = some (.int .i64 t411) := (blk_cell BK415.out 1).trans rfl
            have hcz59_2 : w50.cell? ⟨gb415, 2, none⟩ = some (.slice Ao28 t412.length co28) := (blk_cell BK415.out 2).trans rfl
            have hfz59_0 := blk_frozen BK415.out 0
            have hfz59_1 := blk_frozen BK415.out 1
            have hfz59_2 := blk_frozen BK415.out 2
            go_wp2_with (first | (go_at_call 16; (with_reducible refine (laws_eqAlpha.calls k t422 t423 _ _ t424 t410 t411 _ _ t412 t437 _ ?side1 ?side2 ?side3 ?side4 A52.out).mono ?_); (case side1 => repeat (first | exact (Kd.R_reads' HO426.out).2.2 | (with_reducible refine Kd.C_alloc ?_ _) | (with_reducible refine Kd.C_drewN ?_ _) | (with_reducible refine Kd.C_drew ?_))); (case side2 => exact (Kd.R_reads' HO426.out).2.1); (case side3 => repeat (first | exact (Kd.R_reads' HO414.out).2.2 | (with_reducible refine Kd.C_alloc ?_ _) | (with_reducible refine Kd.C_drewN ?_ _) | (with_reducible refine Kd.C_drew ?_))); (case side4 => exact (Kd.R_reads' HO414.out).2.1); rintro e w60 ⟨rfl, hb⟩; have n0_ := Aside0.mk (Kd.R_below (by (with_reducible repeat (first | apply Kd.R_alloc | apply Kd.R_drewN | apply Kd.R_drew)); exact HO409.out) hb); have n1_ := Aside0.mk (Kd.R_below (by (with_reducible repeat (first | apply Kd.R_alloc | apply Kd.R_drewN | apply Kd.R_drew)); exact HO414.out) hb); have n2_ := Aside0.mk (Kd.R_below (by (with_reducible repeat (first | apply Kd.R_alloc | apply Kd.R_drewN | apply Kd.R_drew)); exact HO420.out) hb); have n3_ := Aside0.mk (Kd.R_below (by (with_reducible repeat (first | apply Kd.R_alloc | apply Kd.R_drewN | apply Kd.R_drew)); exact HO426.out) hb); have n4_ := Aside0.mk (Kd.R_below (by (with_reducible repeat (first | apply Kd.R_alloc | apply Kd.R_drewN | apply Kd.R_drew)); exact HO433.out) hb); have n5_ := Aside0.mk (blk_below (g := gb403) (o := .cells #[.bool a0_0, .string a0_1, .slice A0_2 l0_2.length c0_2] 56 (0, 0)) (by (with_reducible repeat (first | refine blk_drewN ?_ _ | refine blk_drew ?_ | refine blk_alloc ?_ _)); exact BK403.out) hb); have n6_ := Aside0.mk (blk_below (g := gb415) (o := .cells #[.string t410, .int .i64 t411, .slice Ao28 t412.length co28] 34 (0, 0)) (by (with_reducible repeat (first | refine blk_drewN ?_ _ | refine blk_drew ?_ | refine blk_alloc ?_ _)); exact BK415.out) hb); have n7_ := Aside0.mk (blk_below (g := gb421) (o := .cells #[.bool t416, .string t417, .slice Ao35 t418.length co35] 61 (0, 0)) (by (with_reducible repeat (first | refine blk_drewN ?_ _ | refine blk_drew ?_ | refine blk_alloc ?_ _)); exact BK421.out) hb); have n8_ := Aside0.mk (blk_below (g := gb427) (o := .cells #[.string t422, .int .i64 t423, .slice Ao42 t424.length co42] 34 (0, 0)) (by (with_reducible repeat (first | refine blk_drewN ?_ _ | refine blk_drew ?_ | refine blk_alloc ?_ _)); exact BK427.out) hb); have n9_ := Aside0.mk (below_step (by repeat (first | (with_reducible first | exact HB.out | apply below_alloc | apply pw_below_drewN | apply below_drew1 | refine below_set ?_ GE403.out | refine below_set ?_ GE415.out | refine below_set ?_ GE421.out | refine below_set ?_ GE427.out) | exact HB.out)) hb); clear HO409; clear HO414; clear HO420; clear HO426; clear HO433; clear BK403; clear BK415; clear BK421; clear BK427; clear HB; have HO409 := n0_; have HO414 := n1_; have HO420 := n2_; have HO426 := n3_; have HO433 := n4_; have BK403 := n5_; have BK415 := n6_; have BK421 := n7_; have BK427 := n8_; have HB := n9_; clear n0_ n1_ n2_ n3_ n4_ n5_ n6_ n7_ n8_ n9_; (try clear hb); (try clear hb2); (try clear hk); (try clear hi)))
            go_meet
            case rel => exact ⟨_, (!t437), (by first | rfl | (simp; done) | (simp [*]; done)), H', ⟨by first | omega | exact Nat.le_refl _⟩, ⟨by (with_reducible repeat (first | apply Kd.R_alloc | apply Kd.R_drewN | apply Kd.R_drew)); exact HO414.out⟩, ⟨by (with_reducible repeat (first | apply Kd.R_alloc | apply Kd.R_drewN | apply Kd.R_drew)); exact Kd.R_mono HO420.out (fun _ hk => trivial)⟩, ⟨by (with_reducible repeat (first | apply Kd.R_alloc | apply Kd.R_drewN | apply Kd.R_drew)); exact HO426.out⟩, ⟨by (with_reducible repeat (first | refine blk_drewN ?_ _ | refine blk_drew ?_ | refine blk_alloc ?_ _)); exact BK403.out⟩, ⟨by (with_reducible repeat (first | refine blk_drewN ?_ _ | refine blk_drew ?_ | refine blk_alloc ?_ _)); exact BK415.out⟩, ⟨by (with_reducible repeat (first | refine blk_drewN ?_ _ | refine blk_drew ?_ | refine blk_alloc ?_ _)); exact BK421.out⟩, ⟨by (with_reducible repeat (first | refine blk_drewN ?_ _ | refine blk_drew ?_ | refine blk_alloc ?_ _)); exact BK427.out⟩, ⟨by repeat (first | (with_reducible first | exact HB.out | apply below_alloc | apply pw_below_drewN | apply below_drew1 | refine below_set ?_ GE403.out | refine below_set ?_ GE415.out | refine below_set ?_ GE421.out | refine below_set ?_ GE427.out) | exact HB.out)⟩⟩
        case rest =>
          clear HC17
          try clear c1
          try clear c2
          try clear p2
          try clear c3
          try clear c3b0
          try clear c4
          try clear c5
          try clear c6
          try clear c12
          try clear c15
          try clear c16
          try clear c23
          try clear c24
          try clear c25
          try clear c26
          try clear c27
          try clear c28
          try clear c32
          try clear c33
          try clear c38
          try clear c39
          try clear c40
          try clear c51
          try clear c51b0
          try clear c53
          try clear c54
          try clear c55
          try clear c57
          try clear c58
          try clear hcz19_0
          try clear hcz19_1
          try clear hcz19_2
          try clear hcz21_0
          try clear hcz21_1
          try clear hcz21_2
          try clear hcz27_0
          try clear hcz27_1
          try clear hcz27_2
          try clear hcz29_0
          try clear hcz29_1
          try clear hcz29_2
          try clear hcz34_0
          try clear hcz34_1
          try clear hcz34_2
          try clear hcz41_0
          try clear hcz41_1
          try clear hcz41_2
          try clear hcz43_0
          try clear hcz43_1
          try clear hcz43_2
          try clear hcz49_0
          try clear hcz49_1
          try clear hcz49_2
          try clear hcz56_0
          try clear hcz56_1
          try clear hcz56_2
          try clear hcz59_0
          try clear hcz59_1
          try clear hcz59_2
          try clear hcz5_0
          try clear hcz5_1
          try clear hcz5_2
          try clear hfz19_0
          try clear hfz19_1
          try clear hfz19_2
          try clear hfz21_0
          try clear hfz21_1
          try clear hfz21_2
          try clear hfz27_0
          try clear hfz27_1
          try clear hfz27_2
          try clear hfz29_0
          try clear hfz29_1
          try clear hfz29_2
          try clear hfz34_0
          try clear hfz34_1
          try clear hfz34_2
          try clear hfz41_0
          try clear hfz41_1
          try clear hfz41_2
          try clear hfz43_0
          try clear hfz43_1
          try clear hfz43_2
          try clear hfz49_0
          try clear hfz49_1
          try clear hfz49_2
          try clear hfz56_0
          try clear hfz56_1
          try clear hfz56_2
          try clear hfz59_0
          try clear hfz59_1
          try clear hfz59_2
          try clear hfz5_0
          try clear hfz5_1
          try clear hfz5_2
          obtain ⟨kq, x42_16, rfl, HA, HJ16, HO_416002, HO_422002, HO_428002, BK403, BK415, BK421, BK427, HB⟩ := hcut
          have hl422002_16 := (Kd.R_reads' HO_422002.out).1
          rw [hl422002_16] at HO_422002
          (try simp only [hl422002_16])
          (try simp only [hl422002_16] at BK403)
          (try simp only [hl422002_16] at BK415)
          (try simp only [hl422002_16] at BK421)
          (try simp only [hl422002_16] at BK427)
          (try simp only [hl422002_16] at HO_416002)
          (try simp only [hl422002_16] at HO_428002)
          cases kq with
          | zero => exact absurd HA.out (by simp [laws_FnExactAlphaOf.j0])
          | succ kj16 =>
            have H := HA.out
            clear HA
            simp only [laws_FnExactAlphaOf.j0] at H
            by_cases c61 : x42_16 = true
            · subst c61
              have H1 : (some false) = some true := by first | (rw [if_pos rfl] at H; exact H) | rfl
              clear H
              have H := H1
              clear H1
              exact absurd (Option.some.inj H) (by decide)
            · replace c61 := Bool.eq_false_iff.mpr c61
              subst c61
              have H1 : ((laws_markAlpha.f kj16 t422 t423 t424 1).bind fun bt438 => ((laws_heldAlpha.f kj16 t422 t423 bt438.2 1).bind fun t440 => (if t440 < 0 then (some false) else (if t440 = bt438.1 then ((laws_toPattern.f kj16 a0_0 a0_1 l0_2).bind fun bt441 => ((impl_AlphaOf.f bt441.1 bt441.2.1 bt441.2.2).bind fun bt446 => ((laws_eqAlpha.f kj16 bt446.1 bt446.2.1 bt446.2.2 t410 t411 t412).bind fun t452 => (if t452 = true then ((laws_heldAlpha.f kj16 t422 t423 bt438.2 1).bind fun t453 => (if t453 < 0 then (some false) else (if t453 = bt438.1 then (some true) else (some false)))) else (some false))))) else (some false))))) = some true := by first | (rw [if_neg (show ¬ (false = true) by decide)] at H; exact H) | rfl
              clear H
              have H := H1
              clear H1
              replace H := Option.bind_eq_some_iff.mp H
              obtain ⟨⟨t438, t439⟩, A620, H⟩ := H
              replace H : ((laws_heldAlpha.f kj16 t422 t423 t439 1).bind fun t440 => (if t440 < 0 then (some false) else (if t440 = t438 then ((laws_toPattern.f kj16 a0_0 a0_1 l0_2).bind fun bt441 => ((impl_AlphaOf.f bt441.1 bt441.2.1 bt441.2.2).bind fun bt446 => ((laws_eqAlpha.f kj16 bt446.1 bt446.2.1 bt446.2.2 t410 t411 t412).bind fun t452 => (if t452 = true then ((laws_heldAlpha.f kj16 t422 t423 t439 1).bind fun t453 => (if t453 < 0 then (some false) else (if t453 = t438 then (some true) else (some false)))) else (some false))))) else (some false)))) = some true := H
              have A62 := Aside0.mk A620
              clear A620
              replace H := Option.bind_eq_some_iff.mp H
              obtain ⟨t440, A630, H⟩ := H
              replace H : (if t440 < 0 then (some false) else (if t440 = t438 then ((laws_toPattern.f kj16 a0_0 a0_1 l0_2).bind fun bt441 => ((impl_AlphaOf.f bt441.1 bt441.2.1 bt441.2.2).bind fun bt446 => ((laws_eqAlpha.f kj16 bt446.1 bt446.2.1 bt446.2.2 t410 t411 t412).bind fun t452 => (if t452 = true then ((laws_heldAlpha.f kj16 t422 t423 t439 1).bind fun t453 => (if t453 < 0 then (some false) else (if t453 = t438 then (some true) else (some false)))) else (some false))))) else (some false))) = some true := H
              have A63 := Aside0.mk A630
              clear A630
              by_cases c64 : t440 < 0
              · rw [if_pos c64] at H
                have c64b0 : decide (t440 < 0) = true := decide_eq_true c64
                clear c64
                exact absurd (Option.some.inj H) (by decide)
              · rw [if_neg c64] at H
                have c64b0 : decide (t440 < 0) = false := decide_eq_false c64
                clear c64
                by_cases c65 : t440 = t438
                · rw [if_pos c65] at H
                  have c65b0 : (t440 == t438) = true := beq_iff_eq.mpr c65
                  have c65b1 : (t440 != t438) = false := bne_eq_false_iff_eq.mpr c65
                  clear c65
                  replace H := Option.bind_eq_some_iff.mp H
                  obtain ⟨⟨t441, t442, t443⟩, A660, H⟩ := H
                  replace H : ((impl_AlphaOf.f t441 t442 t443).bind fun bt446 => ((laws_eqAlpha.f kj16 bt446.1 bt446.2.1 bt446.2.2 t410 t411 t412).bind fun t452 => (if t452 = true then ((laws_heldAlpha.f kj16 t422 t423 t439 1).bind fun t453 => (if t453 < 0 then (some false) else (if t453 = t438 then (some true) else (some false)))) else (some false)))) = some true := H
                  have A66 := Aside0.mk A660
                  clear A660
                  replace H := Option.bind_eq_some_iff.mp H
                  obtain ⟨⟨t446, t447, t448⟩, A670, H⟩ := H
                  replace H : ((laws_eqAlpha.f kj16 t446 t447 t448 t410 t411 t412).bind fun t452 => (if t452 = true then ((laws_heldAlpha.f kj16 t422 t423 t439 1).bind fun t453 => (if t453 < 0 then (some false) else (if t453 = t438 then (some true) else (some false)))) else (some false))) = some true := H
                  have A67 := Aside0.mk A670
                  clear A670
                  replace H := Option.bind_eq_some_iff.mp H
                  obtain ⟨t452, A680, H⟩ := H
                  replace H : (if t452 = true then ((laws_heldAlpha.f kj16 t422 t423 t439 1).bind fun t453 => (if t453 < 0 then (some false) else (if t453 = t438 then (some true) else (some false)))) else (some false)) = some true := H
                  have A68 := Aside0.mk A680
                  clear A680
                  by_cases c69 : t452 = true
                  · subst c69
                    have H1 : ((laws_heldAlpha.f kj16 t422 t423 t439 1).bind fun t453 => (if t453 < 0 then (some false) else (if t453 = t438 then (some true) else (some false)))) = some true := by first | (rw [if_pos rfl] at H; exact H) | rfl
                    clear H
                    have H := H1
                    clear H1
                    replace H := Option.bind_eq_some_iff.mp H
                    obtain ⟨t453, A700, H⟩ := H
                    replace H : (if t453 < 0 then (some false) else (if t453 = t438 then (some true) else (some false))) = some true := H
                    have A70 := Aside0.mk A700
                    clear A700
                    by_cases c71 : t453 < 0
                    · rw [if_pos c71] at H
                      have c71b0 : decide (t453 < 0) = true := decide_eq_true c71
                      clear c71
                      exact absurd (Option.some.inj H) (by decide)
                    · rw [if_neg c71] at H
                      have c71b0 : decide (t453 < 0) = false := decide_eq_false c71
                      clear c71
                      by_cases c72 : t453 = t438
                      · rw [if_pos c72] at H
                        have c72b0 : (t453 == t438) = true := beq_iff_eq.mpr c72
                        have c72b1 : (t453 != t438) = false := bne_eq_false_iff_eq.mpr c72
                        clear c72
                        clear H
                        have hnb73 := NB427_403.out
                        have hnc73 := NB403_427.out
                        have hnb74 := NB427_415.out
                        have hnc74 := NB415_427.out
                        have hnb75 := NB427_421.out
                        have hnc75 := NB421_427.out
                        have hcz76_0 : wc.cell? ⟨gb427, 0, none⟩ = some (.string t422) := (blk_cell BK427.out 0).trans rfl
                        have hcz76_1 : wc.cell? ⟨gb427, 1, none⟩ = some (.int .i64 t423) := (blk_cell BK427.out 1).trans rfl
                        have hcz76_2 : wc.cell? ⟨gb427, 2, none⟩ = some (.slice Ao42 t424.length co42) := (blk_cell BK427.out 2).trans rfl
                        have hfz76_0 := blk_frozen BK427.out 0
                        have hfz76_1 := blk_frozen BK427.out 1
                        have hfz76_2 := blk_frozen BK427.out 2
                        go_wp2_with (first | ((with_reducible refine gate_callee (f := 29) rfl ?_); refine goesL_ (some 45) rfl rfl Try.func29 (by kernel_rfl) rfl #[.agg #[.string t422, .int .i64 t423, .slice Ao42 t424.length co42], .int .i64 1] rfl (by (try simp only [List.map_toArray, List.map_cons, List.map_nil]); first | done | rfl | (simp only [List.length_drop, List.length_take]; rfl)) ?_; (with_reducible refine (laws_markAlpha.calls kj16 t422 t423 (fun k_ => some k_ = (.slice Ao42 t424.length co42 : Value).ownBlock) (.slice Ao42 t424.length co42) t424 1 t438 t439 w _ ?side1 ?side2 A62.out).mono ?_); (case side1 => repeat (first | (with_reducible first | exact HB.out | apply below_alloc | apply pw_below_drewN | apply below_drew1 | refine below_set ?_ GE403.out | refine below_set ?_ GE415.out | refine below_set ?_ GE421.out | refine below_set ?_ GE427.out) | exact HB.out)); (case side2 => exact Kd.R_tight rfl HO_428002.out); rintro e w77 ⟨rfl, hy0, hb, hkp⟩; refine ⟨_, rfl, ?_⟩; have n0_ := Aside0.mk (Kd.R_mono (ok' := fun k_ => some k_ ≠ (.slice Ao42 t424.length co42 : Value).ownBlock) (Kd.R_keptB (HO_416002.out) hkp (fun k_ hk_ hs_ => (hk_) hs_)) (fun k_ hk_ => hk_.1)); have n1_ := Aside0.mk (Kd.R_mono (ok' := fun k_ => True) (Kd.R_keptB ((Kd.R_apart' HO_422002.out (Kd.R_typed HO_428002.out) (by decide))) hkp (fun k_ hk_ hs_ => (hk_.2) hs_)) (fun k_ hk_ => trivial)); have n2_ := Aside0.mk (Kd.R_reok rfl hy0 (fun k_ e_ => HO_428002.out.1 k_ e_)); have n3_ := Aside0.mk (blk_kept (by (with_reducible repeat (first | refine blk_drewN ?_ _ | refine blk_drew ?_ | refine blk_alloc ?_ _)); exact BK403.out) hkp (fun hs_ => (fun e_ => (Kd.R_ne HO_428002.out BK403.out (by decide)) e_) hs_)); have n4_ := Aside0.mk (blk_kept (by (with_reducible repeat (first | refine blk_drewN ?_ _ | refine blk_drew ?_ | refine blk_alloc ?_ _)); exact BK415.out) hkp (fun hs_ => (fun e_ => (Kd.R_ne HO_428002.out BK415.out (by decide)) e_) hs_)); have n5_ := Aside0.mk (blk_kept (by (with_reducible repeat (first | refine blk_drewN ?_ _ | refine blk_drew ?_ | refine blk_alloc ?_ _)); exact BK421.out) hkp (fun hs_ => (fun e_ => (Kd.R_ne HO_428002.out BK421.out (by decide)) e_) hs_)); have n6_ := Aside0.mk (blk_kept (by (with_reducible repeat (first | refine blk_drewN ?_ _ | refine blk_drew ?_ | refine blk_alloc ?_ _)); exact BK427.out) hkp (fun hs_ => (fun e_ => (Kd.R_ne HO_428002.out BK427.out (by decide)) e_) hs_)); have n7_ := Aside0.mk (hb); clear HO_416002; clear HO_422002; clear HO_428002; clear BK403; clear BK415; clear BK421; clear BK427; clear HB; have HO_416002 := n0_; have HO_422002 := n1_; have HO_428002 := n2_; have BK403 := n3_; have BK415 := n4_; have BK421 := n5_; have BK427 := n6_; have HB := n7_; clear n0_ n1_ n2_ n3_ n4_ n5_ n6_ n7_; (try clear hb); (try clear hkp); (try clear hy0); have hcz78_0 : w77.cell? ⟨gb427, 0, none⟩ = some (.string t422) := (blk_cell BK427.out 0).trans rfl; have hcz78_1 : w77.cell? ⟨gb427, 1, none⟩ = some (.int .i64 t423) := (blk_cell BK427.out 1).trans rfl; have hcz78_2 : w77.cell? ⟨gb427, 2, none⟩ = some (.slice Ao42 t424.length co42) := (blk_cell BK427.out 2).trans rfl; have hfz78_0 := blk_frozen BK427.out 0; have hfz78_1 := blk_frozen BK427.out 1; have hfz78_2 := blk_frozen BK427.out 2) | ((with_reducible refine gate_callee (f := 30) rfl ?_); refine goesL_ (some 48) rfl rfl Try.func30 (by kernel_rfl) rfl #[.agg #[.string t422, .int .i64 t423, .slice Ao42 t439.length co42], .int .i64 1] rfl (by (try simp only [List.map_toArray, List.map_cons, List.map_nil]); first | done | (rw [show t439.length = t424.length from (Kd.R_reads' HO_428002.out).1.symm] <;> rfl) | rfl | (simp only [List.length_drop, List.length_take]; rfl)) ?_; (with_reducible refine (laws_heldAlpha.calls kj16 t422 t423 _ _ t439 1 t440 _ ?side1 ?side2 A63.out).mono ?_); (case side1 => repeat (first | exact (Kd.R_reads' HO_428002.out).2.2 | (with_reducible refine Kd.C_alloc ?_ _) | (with_reducible refine Kd.C_drewN ?_ _) | (with_reducible refine Kd.C_drew ?_))); (case side2 => rw [show t439.length = t424.length from (Kd.R_reads' HO_428002.out).1.symm]; exact (Kd.R_reads' HO_428002.out).2.1); rintro e w79 ⟨rfl, hb⟩; refine ⟨_, rfl, ?_⟩; have n0_ := Aside0.mk (Kd.R_below (by (with_reducible repeat (first | apply Kd.R_alloc | apply Kd.R_drewN | apply Kd.R_drew)); exact HO_416002.out) hb); have n1_ := Aside0.mk (Kd.R_below (by (with_reducible repeat (first | apply Kd.R_alloc | apply Kd.R_drewN | apply Kd.R_drew)); exact HO_422002.out) hb); have n2_ := Aside0.mk (Kd.R_below (by (with_reducible repeat (first | apply Kd.R_alloc | apply Kd.R_drewN | apply Kd.R_drew)); exact HO_428002.out) hb); have n3_ := Aside0.mk (blk_below (g := gb403) (o := .cells #[.bool a0_0, .string a0_1, .slice A0_2 l0_2.length c0_2] 56 (0, 0)) (by (with_reducible repeat (first | refine blk_drewN ?_ _ | refine blk_drew ?_ | refine blk_alloc ?_ _)); exact BK403.out) hb); have n4_ := Aside0.mk (blk_below (g := gb415) (o := .cells #[.string t410, .int .i64 t411, .slice Ao28 t412.length co28] 34 (0, 0)) (by (with_reducible repeat (first | refine blk_drewN ?_ _ | refine blk_drew ?_ | refine blk_alloc ?_ _)); exact BK415.out) hb); have n5_ := Aside0.mk (blk_below (g := gb421) (o := .cells #[.bool t416, .string t417, .slice Ao35 t436.length co35] 61 (0, 0)) (by (with_reducible repeat (first | refine blk_drewN ?_ _ | refine blk_drew ?_ | refine blk_alloc ?_ _)); exact BK421.out) hb); have n6_ := Aside0.mk (blk_below (g := gb427) (o := .cells #[.string t422, .int .i64 t423, .slice Ao42 t424.length co42] 34 (0, 0)) (by (with_reducible repeat (first | refine blk_drewN ?_ _ | refine blk_drew ?_ | refine blk_alloc ?_ _)); exact BK427.out) hb); have n7_ := Aside0.mk (below_step (by repeat (first | (with_reducible first | exact HB.out | apply below_alloc | apply pw_below_drewN | apply below_drew1 | refine below_set ?_ GE403.out | refine below_set ?_ GE415.out | refine below_set ?_ GE421.out | refine below_set ?_ GE427.out) | exact HB.out)) hb); clear HO_416002; clear HO_422002; clear HO_428002; clear BK403; clear BK415; clear BK421; clear BK427; clear HB; have HO_416002 := n0_; have HO_422002 := n1_; have HO_428002 := n2_; have BK403 := n3_; have BK415 := n4_; have BK421 := n5_; have BK427 := n6_; have HB := n7_; clear n0_ n1_ n2_ n3_ n4_ n5_ n6_ n7_; (try clear hb); (try clear hb2); (try clear hk); (try clear hi); have hnb80 := NB403_415.out; have hnc80 := NB415_403.out; have hnb81 := NB403_421.out; have hnc81 := NB421_403.out; have hcz82_0 : w79.cell? ⟨gb403, 0, none⟩ = some (.bool a0_0) := (blk_cell BK403.out 0).trans rfl; have hcz82_1 : w79.cell? ⟨gb403, 1, none⟩ = some (.string a0_1) := (blk_cell BK403.out 1).trans rfl; have hcz82_2 : w79.cell? ⟨gb403, 2, none⟩ = some (.slice A0_2 l0_2.length c0_2) := (blk_cell BK403.out 2).trans rfl; have hfz82_0 := blk_frozen BK403.out 0; have hfz82_1 := blk_frozen BK403.out 1; have hfz82_2 := blk_frozen BK403.out 2) | ((with_reducible refine gate_callee (f := 25) rfl ?_); refine goesL_ (some 55) rfl rfl Try.func25 (by kernel_rfl) rfl #[.agg #[.bool a0_0, .string a0_1, .slice A0_2 l0_2.length c0_2]] rfl (by (try simp only [List.map_toArray, List.map_cons, List.map_nil]); first | done | rfl | (simp only [List.length_drop, List.length_take]; rfl)) ?_; (with_reducible refine (laws_toPattern.calls kj16 a0_0 a0_1 _ _ l0_2 t441 t442 t443 _ ?side1 ?side2 A66.out).mono ?_); (case side1 => repeat (first | exact (Kd.C_below HR0_2.out HB.out) | (with_reducible refine Kd.C_alloc ?_ _) | (with_reducible refine Kd.C_drewN ?_ _) | (with_reducible refine Kd.C_drew ?_))); (case side2 => exact HC0_2.out); rintro e w83 ⟨v444, rfl, ho0, hb⟩; refine ⟨_, rfl, ?_⟩; have n0_ := Aside0.mk (Kd.R_below (by (with_reducible repeat (first | apply Kd.R_alloc | apply Kd.R_drewN | apply Kd.R_drew)); exact HO_416002.out) hb); have n1_ := Aside0.mk (Kd.R_elder' (by (with_reducible repeat (first | apply Kd.R_alloc | apply Kd.R_drewN | apply Kd.R_drew)); exact HO_422002.out) (Kd.R_base ho0) hb); have n2_ := Aside0.mk (Kd.R_below (by (with_reducible repeat (first | apply Kd.R_alloc | apply Kd.R_drewN | apply Kd.R_drew)); exact HO_428002.out) hb); have n3_ := Aside0.mk (Kd.R_lower (Kd.R_new' ho0 (Kd.R_lt (by (with_reducible repeat (first | apply Kd.R_alloc | apply Kd.R_drewN | apply Kd.R_drew)); exact HO_422002.out))) (below_size (by repeat (first | (with_reducible first | exact HB.out | apply below_alloc | apply pw_below_drewN | apply below_drew1 | refine below_set ?_ GE403.out | refine below_set ?_ GE415.out | refine below_set ?_ GE421.out | refine below_set ?_ GE427.out) | exact HB.out)))); have n4_ := Aside0.mk (blk_below (g := gb403) (o := .cells #[.bool a0_0, .string a0_1, .slice A0_2 l0_2.length c0_2] 56 (0, 0)) (by (with_reducible repeat (first | refine blk_drewN ?_ _ | refine blk_drew ?_ | refine blk_alloc ?_ _)); exact BK403.out) hb); have n5_ := Aside0.mk (blk_below (g := gb415) (o := .cells #[.string t410, .int .i64 t411, .slice Ao28 t412.length co28] 34 (0, 0)) (by (with_reducible repeat (first | refine blk_drewN ?_ _ | refine blk_drew ?_ | refine blk_alloc ?_ _)); exact BK415.out) hb); have n6_ := Aside0.mk (blk_below (g := gb421) (o := .cells #[.bool t416, .string t417, .slice Ao35 t436.length co35] 61 (0, 0)) (by (with_reducible repeat (first | refine blk_drewN ?_ _ | refine blk_drew ?_ | refine blk_alloc ?_ _)); exact BK421.out) hb); have n7_ := Aside0.mk (blk_below (g := gb427) (o := .cells #[.string t422, .int .i64 t423, .slice Ao42 t424.length co42] 34 (0, 0)) (by (with_reducible repeat (first | refine blk_drewN ?_ _ | refine blk_drew ?_ | refine blk_alloc ?_ _)); exact BK427.out) hb); have n8_ := Aside0.mk (below_step (by repeat (first | (with_reducible first | exact HB.out | apply below_alloc | apply pw_below_drewN | apply below_drew1 | refine below_set ?_ GE403.out | refine below_set ?_ GE415.out | refine below_set ?_ GE421.out | refine below_set ?_ GE427.out) | exact HB.out)) hb); clear HO_416002; clear HO_422002; clear HO_428002; clear BK403; clear BK415; clear BK421; clear BK427; clear HB; have HO_416002 := n0_; have HO_422002 := n1_; have HO_428002 := n2_; have HO445 := n3_; have BK403 := n4_; have BK415 := n5_; have BK421 := n6_; have BK427 := n7_; have HB := n8_; clear n0_ n1_ n2_ n3_ n4_ n5_ n6_ n7_ n8_; (try clear hb); (try clear hb2); (try clear hk); (try clear hi); (try clear ho0); obtain ⟨Ao84, co84, eo84⟩ := Kd.R_slice HO445.out; subst eo84) | ((with_reducible refine gate_callee (f := 26) rfl ?_); refine goesL_ (some 56) rfl rfl Try.func26 (by kernel_rfl) rfl #[.agg #[.bool t441, .string t442, .slice Ao84 t443.length co84]] rfl (by (try simp only [List.map_toArray, List.map_cons, List.map_nil]); first | done | rfl | (simp only [List.length_drop, List.length_take]; rfl)) ?_; (with_reducible refine (impl_AlphaOf.calls t441 t442 _ _ t443 t446 t447 t448 _ ?side1 ?side2 A67.out).mono ?_); (case side1 => repeat (first | exact (Kd.R_reads' HO445.out).2.2 | (with_reducible refine Kd.C_alloc ?_ _) | (with_reducible refine Kd.C_drewN ?_ _) | (with_reducible refine Kd.C_drew ?_))); (case side2 => exact (Kd.R_reads' HO445.out).2.1); rintro e w85 ⟨v449, rfl, ho0, hb⟩; refine ⟨_, rfl, ?_⟩; have n0_ := Aside0.mk (Kd.R_elder' (by (with_reducible repeat (first | apply Kd.R_alloc | apply Kd.R_drewN | apply Kd.R_drew)); exact HO_416002.out) (Kd.R_base ho0) hb); have n1_ := Aside0.mk (Kd.R_below (by (with_reducible repeat (first | apply Kd.R_alloc | apply Kd.R_drewN | apply Kd.R_drew)); exact HO_422002.out) hb); have n2_ := Aside0.mk (Kd.R_elder' (by (with_reducible repeat (first | apply Kd.R_alloc | apply Kd.R_drewN | apply Kd.R_drew)); exact HO_428002.out) (Kd.R_base ho0) hb); have n3_ := Aside0.mk (Kd.R_below (by (with_reducible repeat (first | apply Kd.R_alloc | apply Kd.R_drewN | apply Kd.R_drew)); exact HO445.out) hb); have n4_ := Aside0.mk (Kd.R_lower (Kd.R_new' (Kd.R_new' ho0 (Kd.R_lt (by (with_reducible repeat (first | apply Kd.R_alloc | apply Kd.R_drewN | apply Kd.R_drew)); exact HO_416002.out))) (Kd.R_lt (by (with_reducible repeat (first | apply Kd.R_alloc | apply Kd.R_drewN | apply Kd.R_drew)); exact HO_428002.out))) (below_size (by repeat (first | (with_reducible first | exact HB.out | apply below_alloc | apply pw_below_drewN | apply below_drew1 | refine below_set ?_ GE403.out | refine below_set ?_ GE415.out | refine below_set ?_ GE421.out | refine below_set ?_ GE427.out) | exact HB.out)))); have n5_ := Aside0.mk (blk_below (g := gb403) (o := .cells #[.bool a0_0, .string a0_1, .slice A0_2 l0_2.length c0_2] 56 (0, 0)) (by (with_reducible repeat (first | refine blk_drewN ?_ _ | refine blk_drew ?_ | refine blk_alloc ?_ _)); exact BK403.out) hb); have n6_ := Aside0.mk (blk_below (g := gb415) (o := .cells #[.string t410, .int .i64 t411, .slice Ao28 t412.length co28] 34 (0, 0)) (by (with_reducible repeat (first | refine blk_drewN ?_ _ | refine blk_drew ?_ | refine blk_alloc ?_ _)); exact BK415.out) hb); have n7_ := Aside0.mk (blk_below (g := gb421) (o := .cells #[.bool t416, .string t417, .slice Ao35 t436.length co35] 61 (0, 0)) (by (with_reducible repeat (first | refine blk_drewN ?_ _ | refine blk_drew ?_ | refine blk_alloc ?_ _)); exact BK421.out) hb); have n8_ := Aside0.mk (blk_below (g := gb427) (o := .cells #[.string t422, .int .i64 t423, .slice Ao42 t424.length co42] 34 (0, 0)) (by (with_reducible repeat (first | refine blk_drewN ?_ _ | refine blk_drew ?_ | refine blk_alloc ?_ _)); exact BK427.out) hb); have n9_ := Aside0.mk (below_step (by repeat (first | (with_reducible first | exact HB.out | apply below_alloc | apply pw_below_drewN | apply below_drew1 | refine below_set ?_ GE403.out | refine below_set ?_ GE415.out | refine below_set ?_ GE421.out | refine below_set ?_ GE427.out) | exact HB.out)) hb); clear HO_416002; clear HO_422002; clear HO_428002; clear HO445; clear BK403; clear BK415; clear BK421; clear BK427; clear HB; have HO_416002 := n0_; have HO_422002 := n1_; have HO_428002 := n2_; have HO445 := n3_; have HO450 := n4_; have BK403 := n5_; have BK415 := n6_; have BK421 := n7_; have BK427 := n8_; have HB := n9_; clear n0_ n1_ n2_ n3_ n4_ n5_ n6_ n7_ n8_ n9_; (try clear hb); (try clear hb2); (try clear hk); (try clear hi); (try clear ho0)) | ((with_reducible refine gate_dst (N := 10) rfl ?_); refine box_event ?hg (N := 10) ?hd (cs := #[.string (⟨#[]⟩ : ByteArray), .int .i64 0, .slice none 0 0]) (t := 34) ?hr ?_; (case hd => rfl); (case hg => rfl); (case hr => first | (go_simp; done) | (go_simp; rfl)); intro gb451 hg w86 hbox hb; have n0_ := Aside0.mk (Kd.R_below (by (with_reducible repeat (first | apply Kd.R_alloc | apply Kd.R_drewN | apply Kd.R_drew)); exact HO_416002.out) hb); have n1_ := Aside0.mk (Kd.R_below (by (with_reducible repeat (first | apply Kd.R_alloc | apply Kd.R_drewN | apply Kd.R_drew)); exact HO_422002.out) hb); have n2_ := Aside0.mk (Kd.R_below (by (with_reducible repeat (first | apply Kd.R_alloc | apply Kd.R_drewN | apply Kd.R_drew)); exact HO_428002.out) hb); have n3_ := Aside0.mk (Kd.R_below (by (with_reducible repeat (first | apply Kd.R_alloc | apply Kd.R_drewN | apply Kd.R_drew)); exact HO445.out) hb); have n4_ := Aside0.mk (Kd.R_below (by (with_reducible repeat (first | apply Kd.R_alloc | apply Kd.R_drewN | apply Kd.R_drew)); exact HO450.out) hb); have n5_ := Aside0.mk (blk_below (g := gb403) (o := .cells #[.bool a0_0, .string a0_1, .slice A0_2 l0_2.length c0_2] 56 (0, 0)) (by (with_reducible repeat (first | refine blk_drewN ?_ _ | refine blk_drew ?_ | refine blk_alloc ?_ _)); exact BK403.out) hb); have n6_ := Aside0.mk (blk_below (g := gb415) (o := .cells #[.string t410, .int .i64 t411, .slice Ao28 t412.length co28] 34 (0, 0)) (by (with_reducible repeat (first | refine blk_drewN ?_ _ | refine blk_drew ?_ | refine blk_alloc ?_ _)); exact BK415.out) hb); have n7_ := Aside0.mk (blk_below (g := gb421) (o := .cells #[.bool t416, .string t417, .slice Ao35 t436.length co35] 61 (0, 0)) (by (with_reducible repeat (first | refine blk_drewN ?_ _ | refine blk_drew ?_ | refine blk_alloc ?_ _)); exact BK421.out) hb); have n8_ := Aside0.mk (blk_below (g := gb427) (o := .cells #[.string t422, .int .i64 t423, .slice Ao42 t424.length co42] 34 (0, 0)) (by (with_reducible repeat (first | refine blk_drewN ?_ _ | refine blk_drew ?_ | refine blk_alloc ?_ _)); exact BK427.out) hb); have n9_ := Aside0.mk (below_step (by repeat (first | (with_reducible first | exact HB.out | apply below_alloc | apply pw_below_drewN | apply below_drew1 | refine below_set ?_ GE403.out | refine below_set ?_ GE415.out | refine below_set ?_ GE421.out | refine below_set ?_ GE427.out) | exact HB.out)) hb); have n10_ := Aside0.mk (hbox); have n11_ := Aside0.mk ((by rw [hg]; exact (below_size (by repeat (first | (with_reducible first | exact HB.out | apply below_alloc | apply pw_below_drewN | apply below_drew1 | refine below_set ?_ GE403.out | refine below_set ?_ GE415.out | refine below_set ?_ GE421.out | refine below_set ?_ GE427.out) | exact HB.out))) : w.heap.size ≤ gb451)); have n12_ := Aside0.mk ((by rw [hg]; exact (below_size (by repeat (first | (with_reducible first | exact HB.out | apply below_alloc | apply pw_below_drewN | apply below_drew1 | refine below_set ?_ GE403.out | refine below_set ?_ GE415.out | refine below_set ?_ GE421.out | refine below_set ?_ GE427.out) | exact HB.out))) : w.heap.size ≤ gb451)); have n13_ := Aside0.mk ((by rw [hg]; exact Nat.ne_of_lt (blk_lt (g := gb403) (o := .cells #[.bool a0_0, .string a0_1, .slice A0_2 l0_2.length c0_2] 56 (0, 0)) (by (with_reducible repeat (first | refine blk_drewN ?_ _ | refine blk_drew ?_ | refine blk_alloc ?_ _)); exact BK403.out)) : gb403 ≠ gb451)); have n14_ := Aside0.mk ((by rw [hg]; exact Nat.ne_of_gt (blk_lt (g := gb403) (o := .cells #[.bool a0_0, .string a0_1, .slice A0_2 l0_2.length c0_2] 56 (0, 0)) (by (with_reducible repeat (first | refine blk_drewN ?_ _ | refine blk_drew ?_ | refine blk_alloc ?_ _)); exact BK403.out)) : gb451 ≠ gb403)); have n15_ := Aside0.mk ((by rw [hg]; exact Nat.ne_of_lt (blk_lt (g := gb415) (o := .cells #[.string t410, .int .i64 t411, .slice Ao28 t412.length co28] 34 (0, 0)) (by (with_reducible repeat (first | refine blk_drewN ?_ _ | refine blk_drew ?_ | refine blk_alloc ?_ _)); exact BK415.out)) : gb415 ≠ gb451)); have n16_ := Aside0.mk ((by rw [hg]; exact Nat.ne_of_gt (blk_lt (g := gb415) (o := .cells #[.string t410, .int .i64 t411, .slice Ao28 t412.length co28] 34 (0, 0)) (by (with_reducible repeat (first | refine blk_drewN ?_ _ | refine blk_drew ?_ | refine blk_alloc ?_ _)); exact BK415.out)) : gb451 ≠ gb415)); have n17_ := Aside0.mk ((by rw [hg]; exact Nat.ne_of_lt (blk_lt (g := gb421) (o := .cells #[.bool t416, .string t417, .slice Ao35 t436.length co35] 61 (0, 0)) (by (with_reducible repeat (first | refine blk_drewN ?_ _ | refine blk_drew ?_ | refine blk_alloc ?_ _)); exact BK421.out)) : gb421 ≠ gb451)); have n18_ := Aside0.mk ((by rw [hg]; exact Nat.ne_of_gt (blk_lt (g := gb421) (o := .cells #[.bool t416, .string t417, .slice Ao35 t436.length co35] 61 (0, 0)) (by (with_reducible repeat (first | refine blk_drewN ?_ _ | refine blk_drew ?_ | refine blk_alloc ?_ _)); exact BK421.out)) : gb451 ≠ gb421)); have n19_ := Aside0.mk ((by rw [hg]; exact Nat.ne_of_lt (blk_lt (g := gb427) (o := .cells #[.string t422, .int .i64 t423, .slice Ao42 t424.length co42] 34 (0, 0)) (by (with_reducible repeat (first | refine blk_drewN ?_ _ | refine blk_drew ?_ | refine blk_alloc ?_ _)); exact BK427.out)) : gb427 ≠ gb451)); have n20_ := Aside0.mk ((by rw [hg]; exact Nat.ne_of_gt (blk_lt (g := gb427) (o := .cells #[.string t422, .int .i64 t423, .slice Ao42 t424.length co42] 34 (0, 0)) (by (with_reducible repeat (first | refine blk_drewN ?_ _ | refine blk_drew ?_ | refine blk_alloc ?_ _)); exact BK427.out)) : gb451 ≠ gb427)); clear HO_416002; clear HO_422002; clear HO_428002; clear HO445; clear HO450; clear BK403; clear BK415; clear BK421; clear BK427; clear HB; have HO_416002 := n0_; have HO_422002 := n1_; have HO_428002 := n2_; have HO445 := n3_; have HO450 := n4_; have BK403 := n5_; have BK415 := n6_; have BK421 := n7_; have BK427 := n8_; have HB := n9_; have BK451 := n10_; have GW451 := n11_; have GE451 := n12_; have NB403_451 := n13_; have NB451_403 := n14_; have NB415_451 := n15_; have NB451_415 := n16_; have NB421_451 := n17_; have NB451_421 := n18_; have NB427_451 := n19_; have NB451_427 := n20_; clear n0_ n1_ n2_ n3_ n4_ n5_ n6_ n7_ n8_ n9_ n10_ n11_ n12_ n13_ n14_ n15_ n16_ n17_ n18_ n19_ n20_; clear hb hbox hg; have hnb87 := NB451_403.out; have hnc87 := NB403_451.out; have hnb88 := NB451_415.out; have hnc88 := NB415_451.out; have hnb89 := NB451_421.out; have hnc89 := NB421_451.out; have hnb90 := NB451_427.out; have hnc90 := NB427_451.out; have hcz91_0 : w86.cell? ⟨gb451, 0, none⟩ = some (.string (⟨#[]⟩ : ByteArray)) := (blk_cell BK451.out 0).trans rfl; have hcz91_1 : w86.cell? ⟨gb451, 1, none⟩ = some (.int .i64 0) := (blk_cell BK451.out 1).trans rfl; have hcz91_2 : w86.cell? ⟨gb451, 2, none⟩ = some (.slice none 0 0) := (blk_cell BK451.out 2).trans rfl; have hfz91_0 := blk_frozen BK451.out 0; have hfz91_1 := blk_frozen BK451.out 1; have hfz91_2 := blk_frozen BK451.out 2; obtain ⟨Ao92, co92, eo92⟩ := Kd.R_slice HO450.out; subst eo92; have hnb93 := NB415_421.out; have hnc93 := NB421_415.out; have hcz94_0 : w86.cell? ⟨gb415, 0, none⟩ = some (.string t410) := (blk_cell BK415.out 0).trans rfl; have hcz94_1 : w86.cell? ⟨gb415, 1, none⟩ = some (.int .i64 t411) := (blk_cell BK415.out 1).trans rfl; have hcz94_2 : w86.cell? ⟨gb415, 2, none⟩ = some (.slice Ao28 t412.length co28) := (blk_cell BK415.out 2).trans rfl; have hfz94_0 := blk_frozen BK415.out 0; have hfz94_1 := blk_frozen BK415.out 1; have hfz94_2 := blk_frozen BK415.out 2) | ((with_reducible refine gate_callee (f := 16) rfl ?_); refine goesL_ (some 59) rfl rfl Try.func16 (by kernel_rfl) rfl #[.agg #[.string t446, .int .i64 t447, .slice Ao92 t448.length co92], .agg #[.string t410, .int .i64 t411, .slice Ao28 t412.length co28]] rfl (by (try simp only [List.map_toArray, List.map_cons, List.map_nil]); first | done | rfl | (simp only [List.length_drop, List.length_take]; rfl)) ?_; (with_reducible refine (laws_eqAlpha.calls kj16 t446 t447 _ _ t448 t410 t411 _ _ t412 true _ ?side1 ?side2 ?side3 ?side4 A68.out).mono ?_); (case side1 => refine (Kd.R_reads' (e := 106) (base := w.heap.size) (ok := fun k_ => ((True ∧ some k_ ≠ (.slice Ao28 t412.length co28 : Value).ownBlock) ∧ some k_ ≠ (.slice Ao42 t424.length co42 : Value).ownBlock)) (n := t448.length) (c := co92) ?_).2.2; exact (by (with_reducible repeat (first | apply Kd.R_alloc | apply Kd.R_drewN | apply Kd.R_drew)); exact (Kd.R_mono (Kd.R_far (p := ⟨gb451, 2, none⟩) (Kd.R_far (p := ⟨gb451, 1, none⟩) (Kd.R_far (p := ⟨gb451, 0, none⟩) (Kd.R_types HO450.out BK451.out (by decide)) (fun _ hk => hk.2) (.string t446)) (fun _ hk => hk.2) (.int .i64 t447)) (fun _ hk => hk.2) (.slice Ao92 t448.length co92)) (fun _ h_ => h_.1)))); (case side2 => exact (Kd.R_reads' HO450.out).2.1); (case side3 => refine (Kd.R_reads' (e := 106) (base := w.heap.size) (ok := fun k_ => (some k_ ≠ (.slice Ao42 t424.length co42 : Value).ownBlock ∧ some k_ ≠ (.slice Ao92 t448.length co92 : Value).ownBlock)) (n := t412.length) (c := co28) ?_).2.2; exact (by (with_reducible repeat (first | apply Kd.R_alloc | apply Kd.R_drewN | apply Kd.R_drew)); exact (Kd.R_mono (Kd.R_far (p := ⟨gb451, 2, none⟩) (Kd.R_far (p := ⟨gb451, 1, none⟩) (Kd.R_far (p := ⟨gb451, 0, none⟩) (Kd.R_types HO_416002.out BK451.out (by decide)) (fun _ hk => hk.2) (.string t446)) (fun _ hk => hk.2) (.int .i64 t447)) (fun _ hk => hk.2) (.slice Ao92 t448.length co92)) (fun _ h_ => h_.1)))); (case side4 => exact (Kd.R_reads' HO_416002.out).2.1); rintro e w95 ⟨rfl, hb⟩; refine ⟨_, rfl, ?_⟩; have n0_ := Aside0.mk (Kd.R_below (by (with_reducible repeat (first | apply Kd.R_alloc | apply Kd.R_drewN | apply Kd.R_drew)); exact (Kd.R_mono (Kd.R_far (p := ⟨gb451, 2, none⟩) (Kd.R_far (p := ⟨gb451, 1, none⟩) (Kd.R_far (p := ⟨gb451, 0, none⟩) (Kd.R_types HO_416002.out BK451.out (by decide)) (fun _ hk => hk.2) (.string t446)) (fun _ hk => hk.2) (.int .i64 t447)) (fun _ hk => hk.2) (.slice Ao92 t448.length co92)) (fun _ h_ => h_.1))) hb); have n1_ := Aside0.mk (Kd.R_below (by (with_reducible repeat (first | apply Kd.R_alloc | apply Kd.R_drewN | apply Kd.R_drew)); exact (Kd.R_mono (Kd.R_far (p := ⟨gb451, 2, none⟩) (Kd.R_far (p := ⟨gb451, 1, none⟩) (Kd.R_far (p := ⟨gb451, 0, none⟩) (Kd.R_types HO_422002.out BK451.out (by decide)) (fun _ hk => hk.2) (.string t446)) (fun _ hk => hk.2) (.int .i64 t447)) (fun _ hk => hk.2) (.slice Ao92 t448.length co92)) (fun _ h_ => h_.1))) hb); have n2_ := Aside0.mk (Kd.R_below (by (with_reducible repeat (first | apply Kd.R_alloc | apply Kd.R_drewN | apply Kd.R_drew)); exact (Kd.R_mono (Kd.R_far (p := ⟨gb451, 2, none⟩) (Kd.R_far (p := ⟨gb451, 1, none⟩) (Kd.R_far (p := ⟨gb451, 0, none⟩) (Kd.R_types HO_428002.out BK451.out (by decide)) (fun _ hk => hk.2) (.string t446)) (fun _ hk => hk.2) (.int .i64 t447)) (fun _ hk => hk.2) (.slice Ao92 t448.length co92)) (fun _ h_ => h_.1))) hb); have n3_ := Aside0.mk (Kd.R_below (by (with_reducible repeat (first | apply Kd.R_alloc | apply Kd.R_drewN | apply Kd.R_drew)); exact (Kd.R_mono (Kd.R_far (p := ⟨gb451, 2, none⟩) (Kd.R_far (p := ⟨gb451, 1, none⟩) (Kd.R_far (p := ⟨gb451, 0, none⟩) (Kd.R_types HO445.out BK451.out (by decide)) (fun _ hk => hk.2) (.string t446)) (fun _ hk => hk.2) (.int .i64 t447)) (fun _ hk => hk.2) (.slice Ao92 t448.length co92)) (fun _ h_ => h_.1))) hb); have n4_ := Aside0.mk (Kd.R_below (by (with_reducible repeat (first | apply Kd.R_alloc | apply Kd.R_drewN | apply Kd.R_drew)); exact (Kd.R_mono (Kd.R_far (p := ⟨gb451, 2, none⟩) (Kd.R_far (p := ⟨gb451, 1, none⟩) (Kd.R_far (p := ⟨gb451, 0, none⟩) (Kd.R_types HO450.out BK451.out (by decide)) (fun _ hk => hk.2) (.string t446)) (fun _ hk => hk.2) (.int .i64 t447)) (fun _ hk => hk.2) (.slice Ao92 t448.length co92)) (fun _ h_ => h_.1))) hb); have n5_ := Aside0.mk (blk_below (g := gb403) (o := .cells #[.bool a0_0, .string a0_1, .slice A0_2 l0_2.length c0_2] 56 (0, 0)) (by (with_reducible repeat (first | refine blk_drewN ?_ _ | refine blk_drew ?_ | refine blk_alloc ?_ _)); refine blk_far ?_ NB403_451.out _; (with_reducible repeat (first | refine blk_drewN ?_ _ | refine blk_drew ?_ | refine blk_alloc ?_ _)); refine blk_far ?_ NB403_451.out _; (with_reducible repeat (first | refine blk_drewN ?_ _ | refine blk_drew ?_ | refine blk_alloc ?_ _)); refine blk_far ?_ NB403_451.out _; (with_reducible repeat (first | refine blk_drewN ?_ _ | refine blk_drew ?_ | refine blk_alloc ?_ _)); exact BK403.out) hb); have n6_ := Aside0.mk (blk_below (g := gb415) (o := .cells #[.string t410, .int .i64 t411, .slice Ao28 t412.length co28] 34 (0, 0)) (by (with_reducible repeat (first | refine blk_drewN ?_ _ | refine blk_drew ?_ | refine blk_alloc ?_ _)); refine blk_far ?_ NB415_451.out _; (with_reducible repeat (first | refine blk_drewN ?_ _ | refine blk_drew ?_ | refine blk_alloc ?_ _)); refine blk_far ?_ NB415_451.out _; (with_reducible repeat (first | refine blk_drewN ?_ _ | refine blk_drew ?_ | refine blk_alloc ?_ _)); refine blk_far ?_ NB415_451.out _; (with_reducible repeat (first | refine blk_drewN ?_ _ | refine blk_drew ?_ | refine blk_alloc ?_ _)); exact BK415.out) hb); have n7_ := Aside0.mk (blk_below (g := gb421) (o := .cells #[.bool t416, .string t417, .slice Ao35 t436.length co35] 61 (0, 0)) (by (with_reducible repeat (first | refine blk_drewN ?_ _ | refine blk_drew ?_ | refine blk_alloc ?_ _)); refine blk_far ?_ NB421_451.out _; (with_reducible repeat (first | refine blk_drewN ?_ _ | refine blk_drew ?_ | refine blk_alloc ?_ _)); refine blk_far ?_ NB421_451.out _; (with_reducible repeat (first | refine blk_drewN ?_ _ | refine blk_drew ?_ | refine blk_alloc ?_ _)); refine blk_far ?_ NB421_451.out _; (with_reducible repeat (first | refine blk_drewN ?_ _ | refine blk_drew ?_ | refine blk_alloc ?_ _)); exact BK421.out) hb); have n8_ := Aside0.mk (blk_below (g := gb427) (o := .cells #[.string t422, .int .i64 t423, .slice Ao42 t424.length co42] 34 (0, 0)) (by (with_reducible repeat (first | refine blk_drewN ?_ _ | refine blk_drew ?_ | refine blk_alloc ?_ _)); refine blk_far ?_ NB427_451.out _; (with_reducible repeat (first | refine blk_drewN ?_ _ | refine blk_drew ?_ | refine blk_alloc ?_ _)); refine blk_far ?_ NB427_451.out _; (with_reducible repeat (first | refine blk_drewN ?_ _ | refine blk_drew ?_ | refine blk_alloc ?_ _)); refine blk_far ?_ NB427_451.out _; (with_reducible repeat (first | refine blk_drewN ?_ _ | refine blk_drew ?_ | refine blk_alloc ?_ _)); exact BK427.out) hb); have n9_ := Aside0.mk (blk_below (g := gb451) (o := .cells #[.string t446, .int .i64 t447, .slice Ao92 t448.length co92] 34 (0, 0)) (by (with_reducible repeat (first | refine blk_drewN ?_ _ | refine blk_drew ?_ | refine blk_alloc ?_ _)); refine blk_put (cs := #[.string t446, .int .i64 t447, .slice none 0 0]) ?_ 2 _ rfl; (with_reducible repeat (first | refine blk_drewN ?_ _ | refine blk_drew ?_ | refine blk_alloc ?_ _)); refine blk_put (cs := #[.string t446, .int .i64 0, .slice none 0 0]) ?_ 1 _ rfl; (with_reducible repeat (first | refine blk_drewN ?_ _ | refine blk_drew ?_ | refine blk_alloc ?_ _)); refine blk_put (cs := #[.string (⟨#[]⟩ : ByteArray), .int .i64 0, .slice none 0 0]) ?_ 0 _ rfl; (with_reducible repeat (first | refine blk_drewN ?_ _ | refine blk_drew ?_ | refine blk_alloc ?_ _)); exact BK451.out) hb); have n10_ := Aside0.mk (below_step (by repeat (first | (with_reducible first | exact HB.out | apply below_alloc | apply pw_below_drewN | apply below_drew1 | refine below_set ?_ GE403.out | refine below_set ?_ GE415.out | refine below_set ?_ GE421.out | refine below_set ?_ GE427.out | refine below_set ?_ GE451.out) | exact HB.out)) hb); clear HO_416002; clear HO_422002; clear HO_428002; clear HO445; clear HO450; clear BK403; clear BK415; clear BK421; clear BK427; clear BK451; clear HB; have HO_416002 := n0_; have HO_422002 := n1_; have HO_428002 := n2_; have HO445 := n3_; have HO450 := n4_; have BK403 := n5_; have BK415 := n6_; have BK421 := n7_; have BK427 := n8_; have BK451 := n9_; have HB := n10_; clear n0_ n1_ n2_ n3_ n4_ n5_ n6_ n7_ n8_ n9_ n10_; (try clear hb); (try clear hb2); (try clear hk); (try clear hi); have hcz96_0 : w95.cell? ⟨gb427, 0, none⟩ = some (.string t422) := (blk_cell BK427.out 0).trans rfl; have hcz96_1 : w95.cell? ⟨gb427, 1, none⟩ = some (.int .i64 t423) := (blk_cell BK427.out 1).trans rfl; have hcz96_2 : w95.cell? ⟨gb427, 2, none⟩ = some (.slice Ao42 t424.length co42) := (blk_cell BK427.out 2).trans rfl; have hfz96_0 := blk_frozen BK427.out 0; have hfz96_1 := blk_frozen BK427.out 1; have hfz96_2 := blk_frozen BK427.out 2) | ((with_reducible refine gate_callee (f := 30) rfl ?_); refine goesL_ (some 63) rfl rfl Try.func30 (by kernel_rfl) rfl #[.agg #[.string t422, .int .i64 t423, .slice Ao42 t439.length co42], .int .i64 1] rfl (by (try simp only [List.map_toArray, List.map_cons, List.map_nil]); first | done | (rw [show t439.length = t424.length from (Kd.R_reads' HO_428002.out).1.symm] <;> rfl) | rfl | (simp only [List.length_drop, List.length_take]; rfl)) ?_; (with_reducible refine (laws_heldAlpha.calls kj16 t422 t423 _ _ t439 1 t453 _ ?side1 ?side2 A70.out).mono ?_); (case side1 => repeat (first | exact (Kd.R_reads' HO_428002.out).2.2 | (with_reducible refine Kd.C_alloc ?_ _) | (with_reducible refine Kd.C_drewN ?_ _) | (with_reducible refine Kd.C_drew ?_))); (case side2 => rw [show t439.length = t424.length from (Kd.R_reads' HO_428002.out).1.symm]; exact (Kd.R_reads' HO_428002.out).2.1); rintro e w97 ⟨rfl, hb⟩; refine ⟨_, rfl, ?_⟩; have n0_ := Aside0.mk (Kd.R_below (by (with_reducible repeat (first | apply Kd.R_alloc | apply Kd.R_drewN | apply Kd.R_drew)); exact HO_416002.out) hb); have n1_ := Aside0.mk (Kd.R_below (by (with_reducible repeat (first | apply Kd.R_alloc | apply Kd.R_drewN | apply Kd.R_drew)); exact HO_422002.out) hb); have n2_ := Aside0.mk (Kd.R_below (by (with_reducible repeat (first | apply Kd.R_alloc | apply Kd.R_drewN | apply Kd.R_drew)); exact HO_428002.out) hb); have n3_ := Aside0.mk (Kd.R_below (by (with_reducible repeat (first | apply Kd.R_alloc | apply Kd.R_drewN | apply Kd.R_drew)); exact HO445.out) hb); have n4_ := Aside0.mk (Kd.R_below (by (with_reducible repeat (first | apply Kd.R_alloc | apply Kd.R_drewN | apply Kd.R_drew)); exact HO450.out) hb); have n5_ := Aside0.mk (blk_below (g := gb403) (o := .cells #[.bool a0_0, .string a0_1, .slice A0_2 l0_2.length c0_2] 56 (0, 0)) (by (with_reducible repeat (first | refine blk_drewN ?_ _ | refine blk_drew ?_ | refine blk_alloc ?_ _)); exact BK403.out) hb); have n6_ := Aside0.mk (blk_below (g := gb415) (o := .cells #[.string t410, .int .i64 t411, .slice Ao28 t412.length co28] 34 (0, 0)) (by (with_reducible repeat (first | refine blk_drewN ?_ _ | refine blk_drew ?_ | refine blk_alloc ?_ _)); exact BK415.out) hb); have n7_ := Aside0.mk (blk_below (g := gb421) (o := .cells #[.bool t416, .string t417, .slice Ao35 t436.length co35] 61 (0, 0)) (by (with_reducible repeat (first | refine blk_drewN ?_ _ | refine blk_drew ?_ | refine blk_alloc ?_ _)); exact BK421.out) hb); have n8_ := Aside0.mk (blk_below (g := gb427) (o := .cells #[.string t422, .int .i64 t423, .slice Ao42 t424.length co42] 34 (0, 0)) (by (with_reducible repeat (first | refine blk_drewN ?_ _ | refine blk_drew ?_ | refine blk_alloc ?_ _)); exact BK427.out) hb); have n9_ := Aside0.mk (blk_below (g := gb451) (o := .cells #[.string t446, .int .i64 t447, .slice Ao92 t448.length co92] 34 (0, 0)) (by (with_reducible repeat (first | refine blk_drewN ?_ _ | refine blk_drew ?_ | refine blk_alloc ?_ _)); exact BK451.out) hb); have n10_ := Aside0.mk (below_step (by repeat (first | (with_reducible first | exact HB.out | apply below_alloc | apply pw_below_drewN | apply below_drew1 | refine below_set ?_ GE403.out | refine below_set ?_ GE415.out | refine below_set ?_ GE421.out | refine below_set ?_ GE427.out | refine below_set ?_ GE451.out) | exact HB.out)) hb); clear HO_416002; clear HO_422002; clear HO_428002; clear HO445; clear HO450; clear BK403; clear BK415; clear BK421; clear BK427; clear BK451; clear HB; have HO_416002 := n0_; have HO_422002 := n1_; have HO_428002 := n2_; have HO445 := n3_; have HO450 := n4_; have BK403 := n5_; have BK415 := n6_; have BK421 := n7_; have BK427 := n8_; have BK451 := n9_; have HB := n10_; clear n0_ n1_ n2_ n3_ n4_ n5_ n6_ n7_ n8_ n9_ n10_; (try clear hb); (try clear hb2); (try clear hk); (try clear hi)))
                        go_ret
                        exact ⟨by first | rfl | (simp [errW_none, errW_some] <;> rfl) | (simp [*, errW_none, errW_some] <;> rfl), by repeat (first | (with_reducible first | exact HB.out | apply below_alloc | apply pw_below_drewN | apply below_drew1 | refine below_set ?_ GE403.out | refine below_set ?_ GE415.out | refine below_set ?_ GE421.out | refine below_set ?_ GE427.out | refine below_set ?_ GE451.out) | exact HB.out)⟩
                      · rw [if_neg c72] at H
                        have c72b0 : (t453 == t438) = false := beq_eq_false_iff_ne.mpr c72
                        have c72b1 : (t453 != t438) = true := bne_iff_ne.mpr c72
                        exact absurd (Option.some.inj H) (by decide)
                  · replace c69 := Bool.eq_false_iff.mpr c69
                    subst c69
                    have H1 : (some false) = some true := by first | (rw [if_neg (show ¬ (false = true) by decide)] at H; exact H) | rfl
                    clear H
                    have H := H1
                    clear H1
                    exact absurd (Option.some.inj H) (by decide)
                · rw [if_neg c65] at H
                  have c65b0 : (t440 == t438) = false := beq_eq_false_iff_ne.mpr c65
                  have c65b1 : (t440 != t438) = true := bne_iff_ne.mpr c65
                  exact absurd (Option.some.inj H) (by decide)
      · replace c15 := Bool.eq_false_iff.mpr c15
        subst c15
        have H1 : (some false) = some true := by first | (rw [if_neg (show ¬ (false = true) by decide)] at H; exact H) | rfl
        clear H
        have H := H1
        clear H1
        exact absurd (Option.some.inj H) (by decide)
    · replace c12 := Bool.eq_false_iff.mpr c12
      subst c12
      have H1 : (some false) = some true := by first | (rw [if_neg (show ¬ (false = true) by decide)] at H; exact H) | rfl
      clear H
      have H := H1
      clear H1
      exact absurd (Option.some.inj H) (by decide)
end Go.Proofs.Ytoncacdehhmpaaa.P
namespace Go.Proofs.YtoncacdehhmpaaaX
open Go.RowKit Go.Proofs.YtoncacdehhmpaaaW.PrintWords
set_option linter.unusedVariables false
set_option linter.unusedSimpArgs false
theorem Ev.ifT {α : Type} {c : Prop} [Decidable c] {f g : Nat → Option α} {r : α} (h : c) (k : Ev f r) : Ev (fun n => if c then f n else g n) r := by
  obtain ⟨K, k⟩ := k
  exact ⟨K, fun n hn => (if_pos h).trans (k n hn)⟩
theorem Ev.ifF {α : Type} {c : Prop} [Decidable c] {f g : Nat → Option α} {r : α} (h : ¬ c) (k : Ev g r) : Ev (fun n => if c then f n else g n) r := by
  obtain ⟨K, k⟩ := k
  exact ⟨K, fun n hn => (if_neg h).trans (k n hn)⟩
theorem Ev.ite {α : Type} {c : Prop} [Decidable c] {f g : Nat → Option α} {r : α} (h1 : c → Ev f r) (h2 : ¬ c → Ev g r) : Ev (fun n => if c then f n else g n) r := by
  by_cases h : c
  · exact Ev.ifT h (h1 h)
  · exact Ev.ifF h (h2 h)
theorem Ev.bindE {α β : Type} {g : Option α} {f : Nat → α → Option β} {a : α} {r : β} (h : g = some a) (k : Ev (fun n => f n a) r) : Ev (fun n => g.bind (f n)) r := by
  subst h
  exact k
theorem Ev.as {α : Type} {g : Nat → Option α} {r r' : α} (h : Ev g r) (e : r = r') : Ev g r' := e ▸ h
theorem rd_mid {α : Type} (a : List α) (x : α) (b : List α) (z : α) : (a ++ x :: b).getD a.length z = x := by
  rw [List.getD_eq_getElem?_getD, List.getElem?_append_right (Nat.le_refl _), Nat.sub_self]
  rfl
theorem set_mid {α : Type} (a : List α) (x y : α) (b : List α) : (a ++ x :: b).set a.length y = a ++ y :: b := by
  rw [List.set_append_right _ _ (Nat.le_refl _), Nat.sub_self]
  rfl
theorem len_mid {α : Type} (a : List α) (x : α) (b : List α) : (a ++ x :: b).length = a.length + (b.length + 1) := by
  rw [List.length_append, List.length_cons]
def mkL {α : Type} (mk : Int → α → α) (cnt : α → Nat) : Int → List α → List α
  | _, [] => []
  | a, x :: xs => mk a x :: mkL mk cnt (a + cnt x) xs
theorem mkL_length {α : Type} (mk : Int → α → α) (cnt : α → Nat) : ∀ (a : Int) (xs : List α), (mkL mk cnt a xs).length = xs.length
  | _, [] => rfl
  | a, x :: xs => by rw [mkL, List.length_cons, List.length_cons, mkL_length mk cnt _ xs]
def cntL {α : Type} (cnt : α → Nat) (xs : List α) : Nat := (xs.map cnt).sum
theorem cntL_cons {α : Type} (cnt : α → Nat) (x : α) (xs : List α) : cntL cnt (x :: xs) = cnt x + cntL cnt xs := by simp [cntL]
theorem cntL_const {α : Type} (c : Nat) (xs : List α) : cntL (fun _ => c) xs = c * xs.length := by
  induction xs with
  | nil => rfl
  | cons x xs ih => rw [cntL_cons, ih, List.length_cons, Nat.mul_succ]; omega
theorem mark_loop {α : Type} (mk : Int → α → α) (cnt : α → Nat) (L : Nat → List α → Int → Int → Option (Int × List α))
    (hstep : ∀ (d : List α) (x : α) (t : List α) (a : Int) (r : Int × List α), (d ++ x :: t).length ≤ 9223372036854775807 → 0 ≤ a → a + cnt x ≤ 4611686018427387904 → Ev (fun k => L k (d ++ mk a x :: t) (a + cnt x) ((d.length + 1 : Nat) : Int)) r → Ev (fun k => L k (d ++ x :: t) a (d.length : Int)) r)
    (hend : ∀ (d : List α) (a : Int), Ev (fun k => L k d a (d.length : Int)) (a, d)) :
    ∀ (xs : List α) (a : Int), xs.length ≤ 9223372036854775807 → 0 ≤ a → a + cntL cnt xs ≤ 4611686018427387904 → Ev (fun k => L k xs a 0) (a + cntL cnt xs, mkL mk cnt a xs) := by
  have key : ∀ (t d : List α) (a : Int), (d ++ t).length ≤ 9223372036854775807 → 0 ≤ a → a + cntL cnt t ≤ 4611686018427387904 → Ev (fun k => L k (d ++ t) a (d.length : Int)) (a + cntL cnt t, d ++ mkL mk cnt a t) := by
    intro t
    induction t with
    | nil =>
      intro d a _ _ _
      have := hend d a
      simpa [mkL, cntL] using this
    | cons x t ih =>
      intro d a hl h0 h1
      rw [cntL_cons] at h1 ⊢
      refine hstep d x t a _ hl h0 (by omega) ?_
      have := ih (d ++ [mk a x]) (a + cnt x) (by simp at hl ⊢; omega) (by omega) (by omega)
      simp only [List.append_assoc, List.singleton_append, List.length_append, List.length_singleton] at this
      rw [mkL]
      refine Ev.as this ?_
      rw [show a + ((cnt x + cntL cnt t : Nat) : Int) = a + (cnt x : Int) + (cntL cnt t : Int) by omega]
  intro xs a hl h0 h1
  have := key xs [] a (by simpa using hl) h0 h1
  simpa using this
theorem held_loop {α : Type} (mk : Int → α → α) (cnt : α → Nat) (L : Nat → List α → Int → Int → Option Int)
    (hstep : ∀ (d : List α) (x : α) (t : List α) (a r : Int), (d ++ mk a x :: t).length ≤ 9223372036854775807 → 0 ≤ a → a + cnt x ≤ 4611686018427387904 → Ev (fun k => L k (d ++ mk a x :: t) (a + cnt x) ((d.length + 1 : Nat) : Int)) r → Ev (fun k => L k (d ++ mk a x :: t) a (d.length : Int)) r)
    (hend : ∀ (d : List α) (a : Int), Ev (fun k => L k d a (d.length : Int)) a) :
    ∀ (xs : List α) (a : Int), xs.length ≤ 9223372036854775807 → 0 ≤ a → a + cntL cnt xs ≤ 4611686018427387904 → Ev (fun k => L k (mkL mk cnt a xs) a 0) (a + cntL cnt xs) := by
  have key : ∀ (t d : List α) (a : Int), (d ++ t).length ≤ 9223372036854775807 → 0 ≤ a → a + cntL cnt t ≤ 4611686018427387904 → Ev (fun k => L k (d ++ mkL mk cnt a t) a (d.length : Int)) (a + cntL cnt t) := by
    intro t
    induction t with
    | nil =>
      intro d a _ _ _
      have := hend d a
      simpa [mkL, cntL] using this
    | cons x t ih =>
      intro d a hl h0 h1
      rw [cntL_cons] at h1 ⊢
      rw [mkL]
      refine hstep d x _ a _ (by simp [mkL_length] at hl ⊢; omega) h0 (by omega) ?_
      have := ih (d ++ [mk a x]) (a + cnt x) (by simp at hl ⊢; omega) (by omega) (by omega)
      simp only [List.append_assoc, List.singleton_append, List.length_append, List.length_singleton] at this
      refine Ev.as this ?_
      omega
  intro xs a hl h0 h1
  have := key xs [] a (by simpa using hl) h0 h1
  simpa using this
end Go.Proofs.YtoncacdehhmpaaaX
namespace Go.Proofs.Ytoncacdehhmpaaa.Pure
open Go.RowKit Go.Proofs.Ytoncacdehhmpaaa.P Go.Proofs.YtoncacdehhmpaaaW.PrintWords Go.Proofs.YtoncacdehhmpaaaW.PrintLast Go.Proofs.YtoncacdehhmpaaaX
set_option linter.unusedVariables false
set_option linter.unusedSimpArgs false
theorem goodSym_loop (s : ByteArray) (hs : s.size ≤ 9223372036854775807) : ∀ i, i ≤ s.size → Ev (fun k => spec_l1GoodSym.l0 k s (i : Int)) (symFrom s i) := by
  refine up_ind ?_ ?_
  · rw [symFrom_end]
    refine Ev.step (fun k => by simp only [spec_l1GoodSym.l0]; exact rfl) ?_
    exact Ev.ifF (by omega) (Ev.now _)
  · intro i hi ih
    rw [symFrom_step s i hi]
    refine Ev.step (fun k => by simp only [spec_l1GoodSym.l0, wrap_succ hi hs]; exact rfl) ?_
    refine Ev.ifT (by omega) ?_
    refine Ev.ifT (by omega) ?_
    generalize bt s (i : Int) = c
    have good : symOk c = true → Ev (fun k => spec_l1GoodSym.l0 k s ((i + 1 : Nat) : Int)) (symOk c && symFrom s (i + 1)) := by
      intro h
      rw [h, Bool.true_and]
      exact ih
    have bad : symOk c = false → Ev (fun _ => some false) (symOk c && symFrom s (i + 1)) := by
      intro h
      rw [h, Bool.false_and]
      exact Ev.now _
    repeat (first
      | exact good (by simp [symOk]; omega)
      | exact bad (by simp [symOk]; omega)
      | refine Ev.ite (fun _ => ?_) (fun _ => ?_))
theorem l1GoodSym_some (s : ByteArray) : Ev (fun k => spec_l1GoodSym.f k s) (goodSymB s) := by
  have hj : ∀ (b : Bool), s.size ≤ 20 → Ev (fun k => spec_l1GoodSym.j0 k s b) (if b = true then false else symFrom s 0) := by
    intro b hs
    refine Ev.step (fun k => by simp only [spec_l1GoodSym.j0]; exact rfl) ?_
    cases b with
    | true => exact Ev.ifT (by trivial) (Ev.now _)
    | false => exact Ev.ifF (by simp) (goodSym_loop s (by omega) 0 (by omega))
  have hj1 : Ev (fun k => spec_l1GoodSym.j0 k s true) false := by
    refine Ev.step (fun k => by simp only [spec_l1GoodSym.j0]; exact rfl) ?_
    exact Ev.ifT (by trivial) (Ev.now _)
  unfold goodSymB
  refine Ev.congr (fun k => by unfold spec_l1GoodSym.f; exact rfl) ?_
  by_cases c1 : s.size = 0
  · rw [if_pos c1]
    exact Ev.ifT (by omega) hj1
  rw [if_neg c1]
  refine Ev.ifF (by omega) ?_
  by_cases c2 : 20 < s.size
  · rw [if_pos c2]
    exact Ev.ifT (by omega) hj1
  rw [if_neg c2]
  refine Ev.ifF (by omega) ?_
  refine Ev.ifT (by omega) ?_
  by_cases c3 : bt s 0 < 97
  · rw [if_pos c3]
    exact Ev.ifT (by omega) hj1
  rw [if_neg c3]
  refine Ev.ifF (by omega) ?_
  refine Ev.as (hj _ (by omega)) ?_
  by_cases c4 : 122 < bt s 0
  · rw [if_pos c4, if_pos (by simpa using c4)]
  · rw [if_neg c4, if_neg (by simpa using c4)]
theorem toList_nil_iff (s : ByteArray) : s.toList = [] ↔ s.toList.isEmpty = true := by rw [List.isEmpty_iff]
theorem goodValueB_def (v : S104) : goodValueB v = if v.f0 = 0 then v.f2.toList.isEmpty else if v.f0 = 1 then (if v.f1 = 0 then goodSymB v.f2 else false) else false := by
  unfold goodValueB impl_Value_good.f impl_goodSym.f
  simp only [Option.bind_some]
  by_cases h : v.f0 = 0
  · rw [if_pos h, if_pos h]
    simp only [Option.getD_some]
    rw [Bool.eq_iff_iff, beq_iff_eq]
    exact toList_nil_iff _
  · rw [if_neg h, if_neg h]
    split
    · split <;> rfl
    · rfl
theorem l1GoodVal_some (v : S104) : Ev (fun k => spec_l1GoodVal.f k v.f0 v.f1 v.f2) (goodValueB v) := by
  rw [goodValueB_def]
  refine Ev.congr (fun k => by unfold spec_l1GoodVal.f; exact rfl) ?_
  refine Ev.ite (fun c0 => ?_) (fun c0 => ?_)
  · rw [if_pos c0]
    refine Ev.ite (fun c1 => ?_) (fun c1 => ?_)
    · exact Ev.as (Ev.now _) ((toList_nil_iff _).1 c1).symm
    · rw [toList_nil_iff, Bool.not_eq_true] at c1
      rw [c1]
      exact Ev.ifF (by omega) (Ev.now _)
  · rw [if_neg c0]
    refine Ev.ite (fun c1 => ?_) (fun c1 => ?_)
    · rw [if_pos c1]
      refine Ev.ite (fun c2 => ?_) (fun c2 => ?_)
      · rw [if_pos c2]
        exact Ev.bind (l1GoodSym_some _) (Ev.now _)
      · rw [if_neg c2]
        exact Ev.now _
    · rw [if_neg c1]
      exact Ev.now _
theorem l2GoodCls_some (s : ByteArray) : Ev (fun k => spec_l2GoodCls.f k s) (goodClsB s) := by
  refine Ev.congr (fun k => by unfold spec_l2GoodCls.f; exact rfl) ?_
  refine Ev.bind (l1GoodSym_some _) ?_
  unfold goodClsB
  refine Ev.ite (fun c0 => ?_) (fun c0 => ?_)
  · rw [c0]; exact Ev.now _
  · rw [Bool.not_eq_true] at c0
    rw [c0]; exact Ev.now _
theorem l2Zero_some (v : S104) : spec_l2Zero.f v.f0 v.f1 v.f2 = some (zeroValB v) := by
  unfold spec_l2Zero.f zeroValB
  have e : (v.f2.toList == ([] : List UInt8)) = v.f2.toList.isEmpty := by
    rw [Bool.eq_iff_iff, beq_iff_eq]
    exact toList_nil_iff _
  rw [e]
theorem goodSymB_nil (s : ByteArray) (h : s.toList.isEmpty = true) : goodSymB s = false := by
  have : s.size = 0 := by
    rw [← toList_nil_iff, ByteArray.toList_eq] at h
    have := congrArg List.length h
    rw [Array.length_toList] at this
    simpa using this
  unfold goodSymB
  rw [if_pos this]
theorem l2GoodTerm_some (t : S120) : Ev (fun k => spec_l2GoodTerm.f k t.f0 t.f1 t.f2 t.f3.f0 t.f3.f1 t.f3.f2) (goodTermB t) := by
  refine Ev.congr (fun k => by unfold spec_l2GoodTerm.f; exact rfl) ?_
  unfold goodTermB
  have hz := l2Zero_some t.f3
  have hv := l1GoodVal_some t.f3
  have hs := l1GoodSym_some t.f2
  refine Ev.ite (fun c0 => ?_) (fun c0 => ?_)
  · rw [if_pos c0]
    refine Ev.ite (fun c1 => ?_) (fun c1 => ?_)
    · refine Ev.ite (fun c2 => ?_) (fun c2 => ?_)
      · rw [toList_nil_iff] at c2
        refine Ev.bindE hz (Ev.as (Ev.now _) ?_)
        rw [c1, c2]; rfl
      · rw [toList_nil_iff, Bool.not_eq_true] at c2
        refine Ev.as (Ev.now _) ?_
        rw [c1, c2]; rfl
    · refine Ev.as (Ev.now _) ?_
      rw [beq_eq_false_iff_ne.mpr c1]; rfl
  rw [if_neg c0]
  refine Ev.ite (fun c0 => ?_) (fun c0 => ?_)
  · rw [if_pos c0]
    refine Ev.ite (fun c1 => ?_) (fun c1 => ?_)
    · refine Ev.ite (fun c2 => ?_) (fun c2 => ?_)
      · rw [toList_nil_iff] at c2
        refine Ev.bind hv (Ev.as (Ev.now _) ?_)
        rw [c1, c2]; rfl
      · rw [toList_nil_iff, Bool.not_eq_true] at c2
        refine Ev.as (Ev.now _) ?_
        rw [c1, c2]; rfl
    · refine Ev.as (Ev.now _) ?_
      rw [beq_eq_false_iff_ne.mpr c1]; rfl
  rw [if_neg c0]
  refine Ev.ite (fun c0 => ?_) (fun c0 => ?_)
  · rw [if_pos c0]
    refine Ev.ite (fun c1 => ?_) (fun c1 => ?_)
    · refine Ev.bind hs ?_
      refine Ev.ite (fun c2 => ?_) (fun c2 => ?_)
      · refine Ev.bindE hz (Ev.as (Ev.now _) ?_)
        rw [c1, c2]; simp
      · rw [Bool.not_eq_true] at c2
        refine Ev.as (Ev.now _) ?_
        rw [c2]; simp
    · refine Ev.as (Ev.now _) ?_
      rw [beq_eq_false_iff_ne.mpr c1]; rfl
  rw [if_neg c0]
  refine Ev.ite (fun c0 => ?_) (fun c0 => ?_)
  · rw [if_pos c0]
    refine Ev.ite (fun c1 => ?_) (fun c1 => ?_)
    · rw [if_neg (by omega)]
      refine Ev.ite (fun c2 => ?_) (fun c2 => ?_)
      · rw [if_neg (by omega)]
        refine Ev.ite (fun c3 => ?_) (fun c3 => ?_)
        · rw [toList_nil_iff] at c3
          rw [if_pos c3]
          refine Ev.bind hv ?_
          refine Ev.ite (fun c4 => ?_) (fun c4 => ?_)
          · rw [c4]; exact Ev.now _
          · rw [Bool.not_eq_true] at c4
            rw [c4]
            refine Ev.bind hs ?_
            refine Ev.ifF ?_ (Ev.now _)
            rw [goodSymB_nil _ c3]; simp
        · rw [toList_nil_iff] at c3
          rw [if_neg c3]
          refine Ev.bind hs ?_
          refine Ev.ite (fun c4 => ?_) (fun c4 => ?_)
          · rw [c4, Bool.true_and]
            exact Ev.bindE hz (Ev.now _)
          · rw [Bool.not_eq_true] at c4
            rw [c4]; exact Ev.now _
      · rw [if_pos (by omega)]
        exact Ev.now _
    · rw [if_pos (by omega)]
      exact Ev.now _
  rw [if_neg c0]
  exact Ev.now _
theorem l2GoodPat_loop (ts : List S120) (hl : ts.length ≤ 9223372036854775807) : ∀ i, i ≤ ts.length → Ev (fun k => spec_l2GoodPat.l0 k ts (ts.length : Int) (i : Int)) ((ts.drop i).all goodTermB) := by
  refine up_ind ?_ ?_
  · rw [List.drop_length]
    refine Ev.step (fun k => by simp only [spec_l2GoodPat.l0]; exact rfl) ?_
    exact Ev.ifF (by omega) (Ev.now _)
  · intro i hi ih
    rw [drop_getD z120 hi, List.all_cons]
    have hrd : rd_T120 ts (i : Int) = ts.getD i z120 := by simp [rd_T120]
    refine Ev.step (fun k => by simp only [spec_l2GoodPat.l0, wrap_succ hi hl, hrd]; exact rfl) ?_
    refine Ev.ifT (by omega) ?_
    refine Ev.ifT (by omega) ?_
    refine Ev.ifT (by omega) ?_
    refine Ev.bind (l2GoodTerm_some (ts.getD i z120)) ?_
    refine Ev.ite (fun c => ?_) (fun c => ?_)
    · rw [c, Bool.true_and]; exact ih
    · rw [Bool.not_eq_true] at c
      rw [c]; exact Ev.now _
theorem l2GoodPat_some (neg : Bool) (cls : ByteArray) (ts : List S120) : Ev (fun k => spec_l2GoodPat.f k neg cls ts) (goodPatB cls ts) := by
  refine Ev.congr (fun k => by unfold spec_l2GoodPat.f; exact rfl) ?_
  unfold goodPatB
  refine Ev.bind (l2GoodCls_some _) ?_
  refine Ev.ite (fun c => ?_) (fun c => ?_)
  · rw [c, Bool.true_and]
    refine Ev.step (fun k => by simp only [spec_l2GoodPat.j0]; exact rfl) ?_
    by_cases h : ts.length ≤ 6
    · refine Ev.ifF (by simp; omega) ?_
      rw [decide_eq_true h, Bool.true_and]
      have := l2GoodPat_loop ts (by omega) 0 (Nat.zero_le _)
      rw [List.drop_zero] at this
      exact this
    · refine Ev.ifT (by simp; omega) ?_
      rw [decide_eq_false h]
      exact Ev.now _
  · rw [Bool.not_eq_true] at c
    rw [c]
    refine Ev.step (fun k => by simp only [spec_l2GoodPat.j0]; exact rfl) ?_
    exact Ev.ifT (by trivial) (Ev.now _)
end Go.Proofs.Ytoncacdehhmpaaa.Pure
namespace Go.Proofs.Ytoncacdehhmpaaa.Pure
open Go.RowKit Go.Proofs.Ytoncacdehhmpaaa.P Go.Proofs.YtoncacdehhmpaaaW.PrintWords Go.Proofs.YtoncacdehhmpaaaW.PrintLast Go.Proofs.YtoncacdehhmpaaaX
set_option linter.unusedVariables false
set_option linter.unusedSimpArgs false
theorem strOfNums_one (c : Int) : (strOfNums [c]).size = 1 := rfl
theorem markText_loop : ∀ (n : Nat) (x : Int) (s : ByteArray), 0 ≤ x → x ≤ 9223372036854775807 → x < 10 ^ n → s.size + n < 1000 → ∃ r, laws_markText.l0 (n + 1) x s = some r
  | 0, x, s, h0, _, h1, hs => by
    simp only [laws_markText.l0]
    rw [if_neg (by omega), if_pos (by omega)]
    exact ⟨_, rfl⟩
  | n + 1, x, s, h0, h2, h1, hs => by
    rw [Int.pow_succ] at h1
    unfold laws_markText.l0
    by_cases c : x > 0
    · rw [if_pos c]
      have hd : wrap64 (Int.tdiv x 10) = x / 10 := by
        rw [Int.tdiv_eq_ediv_of_nonneg h0]
        unfold wrap64
        omega
      rw [hd]
      simp only [Option.bind_some]
      rw [if_pos (by rw [strOfNums_one]; omega)]
      refine markText_loop n (x / 10) _ (by omega) (by omega) ?_ ?_
      · exact Int.ediv_lt_of_lt_mul (by omega) h1
      · rw [ByteArray.size_append, strOfNums_one]
        omega
    · rw [if_neg c, if_pos (by omega)]
      exact ⟨_, rfl⟩
def mtxt (a : Int) : ByteArray := (laws_markText.f 20 a).getD ⟨#[]⟩
theorem mark_text (a : Int) (h0 : 0 ≤ a) (h1 : a ≤ 9223372036854775807) : Ev (fun k => laws_markText.f k a) (mtxt a) := by
  have : ∃ r, laws_markText.f 20 a = some r := by
    unfold laws_markText.f
    split
    · exact ⟨_, rfl⟩
    · exact markText_loop 19 a _ h0 h1 (by omega) (by decide)
  obtain ⟨r, hr⟩ := this
  have e : mtxt a = r := by unfold mtxt; rw [hr]; rfl
  rw [e]
  exact Ev.of (fun k => laws_markText.mono a k) hr
end Go.Proofs.Ytoncacdehhmpaaa.Pure
namespace Go.Proofs.Ytoncacdehhmpaaa.Pure
open Go.RowKit Go.Proofs.Ytoncacdehhmpaaa.P Go.Proofs.YtoncacdehhmpaaaW.PrintWords Go.Proofs.YtoncacdehhmpaaaW.PrintLast Go.Proofs.YtoncacdehhmpaaaX
set_option linter.unusedVariables false
set_option linter.unusedSimpArgs false
def cvValue (x : S158) : S104 := ⟨x.f0, x.f1, x.f2⟩
def tzValue (x : S158) : Nat := x.f2.size
def okValue (x : S158) : Prop := okInt x.f0 ∧ okInt x.f1 ∧ x.f2.size ≤ 9223372036854775807
theorem sz_Value (x : S158) (hok : okValue x) (left : Int) (h0 : 0 ≤ left) (h1 : left ≤ 1048576) : laws_szValue.f x.f0 x.f1 x.f2 left = some (szv (tzValue x) left) := by
  obtain ⟨o0, o1, o2⟩ := hok
  have e2 : wrap64 (left - (x.f2.size : Int)) = left - (x.f2.size : Int) := wrap_left (by omega) (by omega) o2
  by_cases c2 : left - (x.f2.size : Int) < 0
  · have hz : szv (tzValue x) left = -1 := szv_neg (by unfold tzValue; omega)
    rw [hz]
    unfold laws_szValue.f
    rw [e2, if_pos c2]
    try rfl
  · skip
    have hz : szv (tzValue x) left = (left - (x.f2.size : Int)) := by rw [szv_pos (by unfold tzValue; omega)]; unfold tzValue; omega
    rw [hz]
    unfold laws_szValue.f
    rw [e2, if_neg c2]
    try rfl
theorem eq_Value (x : S104) : laws_eqValue.f x.f0 x.f1 x.f2 x.f0 x.f1 x.f2 = some true := by
  unfold laws_eqValue.f
  rw [if_pos (by trivial)]
  rw [if_pos (by trivial)]
  rw [if_pos (by trivial)]
def cvTerm (x : S174) : S120 := ⟨x.f0, x.f1, x.f2, (cvValue x.f3)⟩
def tzTerm (x : S174) : Nat := x.f2.size + tzValue x.f3
def okTerm (x : S174) : Prop := okInt x.f0 ∧ okInt x.f1 ∧ x.f2.size ≤ 9223372036854775807 ∧ okValue x.f3
def tzTermS (xs : List S174) : Nat := xs.length + (xs.map tzTerm).sum
def okTermS (xs : List S174) : Prop := xs.length ≤ 9223372036854775807 ∧ ∀ x, x ∈ xs → okTerm x
theorem sz_Term (x : S174) (hok : okTerm x) (left : Int) (h0 : 0 ≤ left) (h1 : left ≤ 1048576) : laws_szTerm.f x.f0 x.f1 x.f2 x.f3.f0 x.f3.f1 x.f3.f2 left = some (szv (tzTerm x) left) := by
  obtain ⟨o0, o1, o2, o3⟩ := hok
  have e2 : wrap64 (left - (x.f2.size : Int)) = left - (x.f2.size : Int) := wrap_left (by omega) (by omega) o2
  by_cases c2 : left - (x.f2.size : Int) < 0
  · have hz : szv (tzTerm x) left = -1 := szv_neg (by unfold tzTerm; omega)
    rw [hz]
    unfold laws_szTerm.f
    rw [e2, if_pos c2]
    try rfl
  · skip
    have s3 := sz_Value x.f3 o3 (left - (x.f2.size : Int)) (by omega) (by omega)
    by_cases c3 : (left - (x.f2.size : Int)) < ((tzValue x.f3 : Nat) : Int)
    · have hz : szv (tzTerm x) left = -1 := szv_neg (by unfold tzTerm; omega)
      rw [hz]
      rw [szv_neg c3] at s3
      unfold laws_szTerm.f
      rw [e2, if_neg c2]
      rw [s3]
      rfl
    · have d3 : ((tzValue x.f3 : Nat) : Int) ≤ (left - (x.f2.size : Int)) := by omega
      rw [szv_pos d3] at s3
      have hz : szv (tzTerm x) left = ((left - (x.f2.size : Int)) - ((tzValue x.f3 : Nat) : Int)) := by rw [szv_pos (by unfold tzTerm; omega)]; unfold tzTerm; omega
      rw [hz]
      unfold laws_szTerm.f
      rw [e2, if_neg c2]
      rw [s3]
      simp only [Option.bind_some]
      rw [if_neg (by omega)]
      try rfl
theorem to_Term (x : S174) : laws_toTerm.f x.f0 x.f1 x.f2 x.f3.f0 x.f3.f1 x.f3.f2 = some (x.f0, x.f1, x.f2, x.f3.f0, x.f3.f1, x.f3.f2) := rfl
theorem eq_Term (x : S120) : laws_eqTerm.f x.f0 x.f1 x.f2 x.f3.f0 x.f3.f1 x.f3.f2 x.f0 x.f1 x.f2 x.f3.f0 x.f3.f1 x.f3.f2 = some true := by
  unfold laws_eqTerm.f
  rw [if_pos (by trivial)]
  rw [if_pos (by trivial)]
  rw [if_pos (by trivial)]
  rw [eq_Value x.f3]
  simp only [Option.bind_some]
  rw [if_pos (by trivial)]
theorem sz_TermS (xs : List S174) (hok : okTermS xs) (left : Int) (h0 : 0 ≤ left) (h1 : left ≤ 1048576) : Ev (fun k => laws_szTermS.f k xs left) (szv (tzTermS xs) left) := by
  obtain ⟨ol, oe⟩ := hok
  have e : wrap64 (left - (xs.length : Int)) = left - (xs.length : Int) := wrap_left h0 h1 ol
  by_cases c : left - (xs.length : Int) < 0
  · have hz : szv (tzTermS xs) left = -1 := szv_neg (by unfold tzTermS; omega)
    rw [hz]
    refine ⟨0, fun k _ => ?_⟩
    dsimp only
    unfold laws_szTermS.f
    rw [e, if_pos c]
  · have hz : szv (tzTermS xs) left = szv (xs.map tzTerm).sum (left - (xs.length : Int)) := by unfold szv tzTermS; split <;> split <;> omega
    rw [hz]
    have key := sz_loop xs z174 tzTerm (fun k l i => laws_szTermS.l0 k xs l i) ?_ ?_ (left - (xs.length : Int)) (by omega) (by omega)
    · obtain ⟨K, hK⟩ := key
      refine ⟨K, fun k hk => ?_⟩
      dsimp only
      unfold laws_szTermS.f
      rw [e, if_neg c]
      exact hK k hk
    · intro i l r hi g0 g1 hneg hpos
      have hrd : rd_T174 xs (i : Int) = xs.getD i z174 := by simp [rd_T174]
      have s := sz_Term (xs.getD i z174) (oe _ (getD_in _ hi)) l g0 g1
      by_cases c2 : l < (tzTerm (xs.getD i z174) : Int)
      · rw [hneg c2]
        rw [szv_neg c2] at s
        refine ⟨0 + 1, fun k hk => ?_⟩
        dsimp only
        obtain ⟨m, rfl⟩ : ∃ m, k = m + 1 := ⟨k - 1, by omega⟩
        simp only [laws_szTermS.l0]
        rw [if_pos (by omega), if_pos (by omega), hrd, s]
        rfl
      · have d2 : (tzTerm (xs.getD i z174) : Int) ≤ l := by omega
        obtain ⟨K2, h2⟩ := hpos d2
        rw [szv_pos d2] at s
        refine ⟨K2 + 1, fun k hk => ?_⟩
        dsimp only
        obtain ⟨m, rfl⟩ : ∃ m, k = m + 1 := ⟨k - 1, by omega⟩
        simp only [laws_szTermS.l0]
        rw [if_pos (by omega), if_pos (by omega), hrd, s]
        simp only [Option.bind_some]
        rw [if_neg (by omega), wrap_succ hi ol]
        exact h2 m (by omega)
    · intro l
      refine ⟨1, fun k hk => ?_⟩
      dsimp only
      obtain ⟨m, rfl⟩ : ∃ m, k = m + 1 := ⟨k - 1, by omega⟩
      simp only [laws_szTermS.l0]
      rw [if_neg (by omega)]
theorem to_TermS (xs : List S174) (hs : tzTermS xs ≤ 1048576) : Ev (fun k => laws_toTermS.f k xs) (xs.map cvTerm) := by
  unfold tzTermS at hs
  have key := to_loop xs z174 cvTerm (fun k out i => laws_toTermS.l0 k xs out i) ?_ ?_ (List.replicate xs.length z120) List.length_replicate
  · obtain ⟨K, hK⟩ := key
    refine ⟨K, fun k hk => ?_⟩
    dsimp only
    unfold laws_toTermS.f
    rw [if_pos (by omega), if_pos (by rw [Int.toNat_natCast]; omega), Int.toNat_natCast]
    exact hK k hk
  · intro i out r hi ho h
    obtain ⟨K, hK⟩ := h
    have hrd : rd_T174 xs (i : Int) = xs.getD i z174 := by simp [rd_T174]
    have h1 := to_Term (xs.getD i z174)
    refine ⟨K + 1, fun k hk => ?_⟩
    dsimp only
    obtain ⟨m, rfl⟩ : ∃ m, k = m + 1 := ⟨k - 1, by omega⟩
    simp only [laws_toTermS.l0]
    rw [if_pos (by omega), if_pos (by omega), hrd, h1]
    simp only [Option.bind_some]
    rw [if_pos (by omega), wrap_succ hi (by omega), Int.toNat_natCast]
    exact hK m (by omega)
  · intro out ho
    refine ⟨1, fun k hk => ?_⟩
    dsimp only
    obtain ⟨m, rfl⟩ : ∃ m, k = m + 1 := ⟨k - 1, by omega⟩
    simp only [laws_toTermS.l0]
    rw [if_neg (by omega)]
theorem eq_TermS (xs : List S120) (hl : xs.length ≤ 9223372036854775807) : Ev (fun k => laws_eqTermS.f k xs xs) true := by
  have key := eq_loop xs.length (fun k i => laws_eqTermS.l0 k xs xs i) ?_ ?_
  · obtain ⟨K, hK⟩ := key
    refine ⟨K, fun k hk => ?_⟩
    dsimp only
    unfold laws_eqTermS.f
    rw [if_pos (by trivial)]
    exact hK k hk
  · intro i hi h
    obtain ⟨K, hK⟩ := h
    have hrd : rd_T120 xs (i : Int) = xs.getD i z120 := by simp [rd_T120]
    have h1 := eq_Term (xs.getD i z120)
    refine ⟨K + 1, fun k hk => ?_⟩
    dsimp only
    obtain ⟨m, rfl⟩ : ∃ m, k = m + 1 := ⟨k - 1, by omega⟩
    simp only [laws_eqTermS.l0]
    rw [if_pos (by omega), if_pos (by omega), if_pos (by omega), hrd, h1]
    simp only [Option.bind_some]
    rw [if_pos (by trivial), wrap_succ hi hl]
    exact hK m (by omega)
  · refine ⟨1, fun k hk => ?_⟩
    dsimp only
    obtain ⟨m, rfl⟩ : ∃ m, k = m + 1 := ⟨k - 1, by omega⟩
    simp only [laws_eqTermS.l0]
    rw [if_neg (by omega)]
def cvPattern (x : S56) : S61 := ⟨x.f0, x.f1, (x.f2.map cvTerm)⟩
def tzPattern (x : S56) : Nat := x.f1.size + tzTermS x.f2
def okPattern (x : S56) : Prop := x.f1.size ≤ 9223372036854775807 ∧ okTermS x.f2
theorem sz_Pattern (x : S56) (hok : okPattern x) (left : Int) (h0 : 0 ≤ left) (h1 : left ≤ 1048576) : Ev (fun k => laws_szPattern.f k x.f0 x.f1 x.f2 left) (szv (tzPattern x) left) := by
  obtain ⟨o1, o2⟩ := hok
  have e1 : wrap64 (left - (x.f1.size : Int)) = left - (x.f1.size : Int) := wrap_left (by omega) (by omega) o1
  by_cases c1 : left - (x.f1.size : Int) < 0
  · have hz : szv (tzPattern x) left = -1 := szv_neg (by unfold tzPattern; omega)
    rw [hz]
    refine ⟨0, fun k hk => ?_⟩
    dsimp only
    unfold laws_szPattern.f
    rw [e1, if_pos c1]
    try rfl
  · skip
    obtain ⟨K2, s2⟩ := sz_TermS x.f2 o2 (left - (x.f1.size : Int)) (by omega) (by omega)
    by_cases c2 : (left - (x.f1.size : Int)) < ((tzTermS x.f2 : Nat) : Int)
    · have hz : szv (tzPattern x) left = -1 := szv_neg (by unfold tzPattern; omega)
      rw [hz]
      simp only [szv_neg c2] at s2
      refine ⟨K2, fun k hk => ?_⟩
      dsimp only
      unfold laws_szPattern.f
      rw [e1, if_neg c1]
      rw [s2 k (by omega)]
      rfl
    · have d2 : ((tzTermS x.f2 : Nat) : Int) ≤ (left - (x.f1.size : Int)) := by omega
      simp only [szv_pos d2] at s2
      have hz : szv (tzPattern x) left = ((left - (x.f1.size : Int)) - ((tzTermS x.f2 : Nat) : Int)) := by rw [szv_pos (by unfold tzPattern; omega)]; unfold tzPattern; omega
      rw [hz]
      refine ⟨K2, fun k hk => ?_⟩
      dsimp only
      unfold laws_szPattern.f
      rw [e1, if_neg c1]
      rw [s2 k (by omega)]
      simp only [Option.bind_some]
      rw [if_neg (by omega)]
      try rfl
theorem to_Pattern (x : S56) (hs : tzPattern x ≤ 1048576) : Ev (fun k => laws_toPattern.f k x.f0 x.f1 x.f2) (x.f0, x.f1, (x.f2.map cvTerm)) := by
  unfold tzPattern at hs
  obtain ⟨K2, h2⟩ := to_TermS x.f2 (by omega)
  dsimp only at h2
  refine ⟨K2, fun k hk => ?_⟩
  dsimp only
  unfold laws_toPattern.f
  rw [h2 k (by omega)]
  simp only [Option.bind_some]
  try rfl
def lePattern (x : S61) : Prop := x.f2.length ≤ 9223372036854775807
theorem eq_Pattern (x : S61) (hl : lePattern x) : Ev (fun k => laws_eqPattern.f k x.f0 x.f1 x.f2 x.f0 x.f1 x.f2) true := by
  have o2 := hl
  unfold lePattern at o2
  obtain ⟨K2, h2⟩ := eq_TermS x.f2 o2
  dsimp only at h2
  refine ⟨K2, fun k hk => ?_⟩
  dsimp only
  unfold laws_eqPattern.f
  rw [if_neg (by simp)]
  rw [if_pos (by trivial)]
  rw [h2 k (by omega)]
  simp only [Option.bind_some]
  rw [if_pos (by trivial)]
theorem le_cvPattern (x : S56) (hs : tzPattern x ≤ 1048576) : lePattern (cvPattern x) := by
  unfold tzPattern at hs
  exact by show (x.f2.map cvTerm).length ≤ _; rw [List.length_map]; unfold tzTermS at hs; omega
theorem eq_AlphaTest (x : S106) : laws_eqAlphaTest.f x.f0 x.f1 x.f2 x.f3.f0 x.f3.f1 x.f3.f2 x.f0 x.f1 x.f2 x.f3.f0 x.f3.f1 x.f3.f2 = some true := by
  unfold laws_eqAlphaTest.f
  rw [if_pos (by trivial)]
  rw [if_pos (by trivial)]
  rw [if_pos (by trivial)]
  rw [eq_Value x.f3]
  simp only [Option.bind_some]
  rw [if_pos (by trivial)]
theorem eq_AlphaTestS (xs : List S106) (hl : xs.length ≤ 9223372036854775807) : Ev (fun k => laws_eqAlphaTestS.f k xs xs) true := by
  have key := eq_loop xs.length (fun k i => laws_eqAlphaTestS.l0 k xs xs i) ?_ ?_
  · obtain ⟨K, hK⟩ := key
    refine ⟨K, fun k hk => ?_⟩
    dsimp only
    unfold laws_eqAlphaTestS.f
    rw [if_pos (by trivial)]
    exact hK k hk
  · intro i hi h
    obtain ⟨K, hK⟩ := h
    have hrd : rd_T106 xs (i : Int) = xs.getD i z106 := by simp [rd_T106]
    have h1 := eq_AlphaTest (xs.getD i z106)
    refine ⟨K + 1, fun k hk => ?_⟩
    dsimp only
    obtain ⟨m, rfl⟩ : ∃ m, k = m + 1 := ⟨k - 1, by omega⟩
    simp only [laws_eqAlphaTestS.l0]
    rw [if_pos (by omega), if_pos (by omega), if_pos (by omega), hrd, h1]
    simp only [Option.bind_some]
    rw [if_pos (by trivial), wrap_succ hi hl]
    exact hK m (by omega)
  · refine ⟨1, fun k hk => ?_⟩
    dsimp only
    obtain ⟨m, rfl⟩ : ∃ m, k = m + 1 := ⟨k - 1, by omega⟩
    simp only [laws_eqAlphaTestS.l0]
    rw [if_neg (by omega)]
def leAlpha (x : S34) : Prop := x.f2.length ≤ 9223372036854775807
theorem eq_Alpha (x : S34) (hl : leAlpha x) : Ev (fun k => laws_eqAlpha.f k x.f0 x.f1 x.f2 x.f0 x.f1 x.f2) true := by
  have o2 := hl
  unfold leAlpha at o2
  obtain ⟨K2, h2⟩ := eq_AlphaTestS x.f2 o2
  dsimp only at h2
  refine ⟨K2, fun k hk => ?_⟩
  dsimp only
  unfold laws_eqAlpha.f
  rw [if_pos (by trivial)]
  rw [if_pos (by trivial)]
  rw [h2 k (by omega)]
  simp only [Option.bind_some]
  rw [if_pos (by trivial)]
def mkTerm (a : Int) (_ : S120) : S120 := ⟨a, a + 1, mtxt (a + 2), ⟨a + 3, a + 4, mtxt (a + 5)⟩⟩
def mnTerm (_ : S120) : Nat := 6
theorem cntTermS (xs : List S120) : cntL mnTerm xs = 6 * xs.length := cntL_const 6 xs
theorem mark_TermS (xs : List S120) (a : Int) (hl : xs.length ≤ 9223372036854775807) (h0 : 0 ≤ a) (h1 : a + cntL mnTerm xs ≤ 4611686018427387904) : Ev (fun k => laws_markTermS.f k xs a) (a + cntL mnTerm xs, mkL mkTerm mnTerm a xs) := by
  refine mark_loop mkTerm mnTerm (fun k ys a i => laws_markTermS.l0 k ys a i) ?_ ?_ xs a hl h0 h1
  · intro d x t a r hl h0 h1 ih
    unfold mnTerm at h1 ih
    have w0 : wrap64 (a + 1) = a + 1 := by unfold wrap64; omega
    have w1 : wrap64 (a + 1 + 1) = a + 2 := by unfold wrap64; omega
    have w2 : wrap64 (a + 2 + 1) = a + 3 := by unfold wrap64; omega
    have w3 : wrap64 (a + 3 + 1) = a + 4 := by unfold wrap64; omega
    have w4 : wrap64 (a + 4 + 1) = a + 5 := by unfold wrap64; omega
    have w5 : wrap64 (a + 5 + 1) = a + ((6 : Nat) : Int) := by unfold wrap64; omega
    have wi : wrap64 ((d.length : Int) + 1) = ((d.length + 1 : Nat) : Int) := by unfold wrap64; rw [len_mid] at hl; omega
    refine Ev.step (fun k => by simp only [laws_markTermS.l0]; exact rfl) ?_
    refine Ev.ifT (by rw [len_mid]; omega) ?_
    refine Ev.ifT (by omega) ?_
    simp only [Option.bind_some, rd_T120, Int.toNat_natCast, rd_mid, set_mid, w0, w1, w2, w3, w4, w5, wi]
    refine Ev.bind (mark_text _ (by omega) (by omega)) ?_
    refine Ev.bind (mark_text _ (by omega) (by omega)) ?_
    exact ih
  · intro d a
    refine Ev.step (fun k => by simp only [laws_markTermS.l0]; exact rfl) ?_
    exact Ev.ifF (by omega) (Ev.now _)
def mkAlphaTest (a : Int) (_ : S106) : S106 := ⟨a, a + 1, a + 2, ⟨a + 3, a + 4, mtxt (a + 5)⟩⟩
def mnAlphaTest (_ : S106) : Nat := 6
theorem cntAlphaTestS (xs : List S106) : cntL mnAlphaTest xs = 6 * xs.length := cntL_const 6 xs
theorem mark_AlphaTestS (xs : List S106) (a : Int) (hl : xs.length ≤ 9223372036854775807) (h0 : 0 ≤ a) (h1 : a + cntL mnAlphaTest xs ≤ 4611686018427387904) : Ev (fun k => laws_markAlphaTestS.f k xs a) (a + cntL mnAlphaTest xs, mkL mkAlphaTest mnAlphaTest a xs) := by
  refine mark_loop mkAlphaTest mnAlphaTest (fun k ys a i => laws_markAlphaTestS.l0 k ys a i) ?_ ?_ xs a hl h0 h1
  · intro d x t a r hl h0 h1 ih
    unfold mnAlphaTest at h1 ih
    have w0 : wrap64 (a + 1) = a + 1 := by unfold wrap64; omega
    have w1 : wrap64 (a + 1 + 1) = a + 2 := by unfold wrap64; omega
    have w2 : wrap64 (a + 2 + 1) = a + 3 := by unfold wrap64; omega
    have w3 : wrap64 (a + 3 + 1) = a + 4 := by unfold wrap64; omega
    have w4 : wrap64 (a + 4 + 1) = a + 5 := by unfold wrap64; omega
    have w5 : wrap64 (a + 5 + 1) = a + ((6 : Nat) : Int) := by unfold wrap64; omega
    have wi : wrap64 ((d.length : Int) + 1) = ((d.length + 1 : Nat) : Int) := by unfold wrap64; rw [len_mid] at hl; omega
    refine Ev.step (fun k => by simp only [laws_markAlphaTestS.l0]; exact rfl) ?_
    refine Ev.ifT (by rw [len_mid]; omega) ?_
    refine Ev.ifT (by omega) ?_
    simp only [Option.bind_some, rd_T106, Int.toNat_natCast, rd_mid, set_mid, w0, w1, w2, w3, w4, w5, wi]
    refine Ev.bind (mark_text _ (by omega) (by omega)) ?_
    exact ih
  · intro d a
    refine Ev.step (fun k => by simp only [laws_markAlphaTestS.l0]; exact rfl) ?_
    exact Ev.ifF (by omega) (Ev.now _)
theorem held_AlphaTestS (xs : List S106) (a : Int) (hl : xs.length ≤ 9223372036854775807) (h0 : 0 ≤ a) (h1 : a + cntL mnAlphaTest xs ≤ 4611686018427387904) : Ev (fun k => laws_heldAlphaTestS.f k (mkL mkAlphaTest mnAlphaTest a xs) a) (a + cntL mnAlphaTest xs) := by
  refine held_loop mkAlphaTest mnAlphaTest (fun k ys a i => laws_heldAlphaTestS.l0 k ys a i) ?_ ?_ xs a hl h0 h1
  · intro d x t a r hl h0 h1 ih
    unfold mnAlphaTest at h1 ih
    have w0 : wrap64 (a + 1) = a + 1 := by unfold wrap64; omega
    have w1 : wrap64 (a + 1 + 1) = a + 2 := by unfold wrap64; omega
    have w2 : wrap64 (a + 2 + 1) = a + 3 := by unfold wrap64; omega
    have w3 : wrap64 (a + 3 + 1) = a + 4 := by unfold wrap64; omega
    have w4 : wrap64 (a + 4 + 1) = a + 5 := by unfold wrap64; omega
    have w5 : wrap64 (a + 5 + 1) = a + ((6 : Nat) : Int) := by unfold wrap64; omega
    have wi : wrap64 ((d.length : Int) + 1) = ((d.length + 1 : Nat) : Int) := by unfold wrap64; rw [len_mid] at hl; omega
    refine Ev.step (fun k => by simp only [laws_heldAlphaTestS.l0]; exact rfl) ?_
    refine Ev.ifT (by rw [len_mid]; omega) ?_
    refine Ev.ifT (by omega) ?_
    simp only [rd_T106, Int.toNat_natCast, rd_mid, mkAlphaTest, w0, w1, w2, w3, w4, w5, wi]
    unfold mkAlphaTest at ih
    refine Ev.ifT (by trivial) ?_
    refine Ev.ifT (by trivial) ?_
    refine Ev.ifT (by trivial) ?_
    refine Ev.ifT (by trivial) ?_
    refine Ev.ifT (by trivial) ?_
    refine Ev.bind (mark_text _ (by omega) (by omega)) ?_
    refine Ev.ifT (by trivial) ?_
    exact ih
  · intro d a
    refine Ev.step (fun k => by simp only [laws_heldAlphaTestS.l0]; exact rfl) ?_
    exact Ev.ifF (by omega) (Ev.now _)
def earlB (ts : List S120) (name : ByteArray) : Nat → Nat → Option Int
  | _, 0 => none
  | i, n + 1 => if (rd_T120 ts (i : Int)).f0 = 2 ∧ (rd_T120 ts (i : Int)).f2.toList = name.toList then some (i : Int) else earlB ts name (i + 1) n
theorem earlB_nonneg (ts : List S120) (name : ByteArray) : ∀ n i x, earlB ts name i n = some x → 0 ≤ x
  | 0, i, x, h => by cases h
  | n + 1, i, x, h => by
    unfold earlB at h
    split at h
    · injection h with h; omega
    · exact earlB_nonneg ts name n (i + 1) x h
theorem earlB_snoc (ts : List S120) (name : ByteArray) : ∀ n i, earlB ts name i (n + 1) = match earlB ts name i n with
    | some x => some x
    | none => if (rd_T120 ts ((i + n : Nat) : Int)).f0 = 2 ∧ (rd_T120 ts ((i + n : Nat) : Int)).f2.toList = name.toList then some ((i + n : Nat) : Int) else none
  | 0, i => by simp [earlB]
  | n + 1, i => by
    rw [earlB, earlB_snoc ts name n (i + 1)]
    conv => rhs; rw [earlB]
    by_cases h : (rd_T120 ts (i : Int)).f0 = 2 ∧ (rd_T120 ts (i : Int)).f2.toList = name.toList
    · rw [if_pos h, if_pos h]
    · rw [if_neg h, if_neg h]
      rw [show i + 1 + n = i + (n + 1) by omega]
theorem l3Earlier_loop (neg : Bool) (cls : ByteArray) (ts : List S120) (name : ByteArray) (hl : ts.length ≤ 9223372036854775807) (m : Nat) (hm : m ≤ ts.length) : ∀ n i, i + n = m → Ev (fun k => spec_l3Earlier.l0 k (m : Int) name (i : Int) neg cls ts) ((earlB ts name i n).getD (-1))
  | 0, i, h => by
    refine Ev.step (fun k => by simp only [spec_l3Earlier.l0]; exact rfl) ?_
    exact Ev.ifF (by omega) (Ev.now _)
  | n + 1, i, h => by
    have ih := l3Earlier_loop neg cls ts name hl m hm n (i + 1) (by omega)
    refine Ev.step (fun k => by simp only [spec_l3Earlier.l0, wrap_succ (show i < ts.length by omega) hl]; exact rfl) ?_
    refine Ev.ifT (by omega) ?_
    refine Ev.ifT (by omega) ?_
    refine Ev.ifT (by omega) ?_
    unfold earlB
    refine Ev.ite (fun c => ?_) (fun c => ?_)
    · refine Ev.ite (fun c1 => ?_) (fun c1 => ?_)
      · rw [if_pos ⟨c, c1⟩]; exact Ev.now _
      · rw [if_neg (fun h => c1 h.2)]; exact ih
    · rw [if_neg (fun h => c h.1)]; exact ih
theorem look_earl (ts : List S120) : ∀ n (name : ByteArray), name.toList.isEmpty = false → (∀ i, i < n → goodTermB (rd_T120 ts ((i : Nat) : Int)) = true) → lookS (aoRun ts n).1 name = earlB ts name 0 n
  | 0, name, _, _ => rfl
  | n + 1, name, hne, hg => by
    have ih := look_earl ts n name hne (fun i hi => hg i (by omega))
    have hgn := hg n (by omega)
    rw [earlB_snoc, Nat.zero_add]
    simp only [aoRun, aoStep]
    generalize rd_T120 ts ((n : Nat) : Int) = t at *
    by_cases c0 : t.f0 = 0
    · rw [if_pos c0, ih, if_neg (by rw [c0]; intro h; exact absurd h.1 (by decide))]
      cases earlB ts name 0 n <;> rfl
    rw [if_neg c0]
    by_cases c1 : t.f2.toList.isEmpty = true
    · rw [if_pos c1]
      dsimp only
      rw [ih, if_neg (by
        intro h
        rw [h.2, hne] at c1
        cases c1)]
      cases earlB ts name 0 n <;> rfl
    rw [if_neg c1]
    by_cases c2 : (lookS (aoRun ts n).1 t.f2).isSome = true
    · rw [if_pos c2]
      dsimp only
      rw [ih]
      cases he : earlB ts name 0 n with
      | some x => rfl
      | none =>
        rw [if_neg]
        rintro ⟨_, h⟩
        have : t.f2 = name := by
          rw [ByteArray.toList_eq, ByteArray.toList_eq] at h
          cases ht : t.f2 with | mk a =>
          cases hn : name with | mk b =>
          rw [ht, hn] at h
          exact congrArg ByteArray.mk (Array.toList_inj.1 h)
        rw [this, ih, he] at c2
        cases c2
    rw [if_neg c2]
    by_cases c3 : t.f0 = 2
    · rw [if_pos c3]
      dsimp only
      rw [lookS]
      by_cases c4 : t.f2 = name
      · rw [if_pos c4, if_pos ⟨c3, by rw [c4]⟩]
        rw [c4, ih] at c2
        cases he : earlB ts name 0 n with
        | some x => rw [he] at c2; exact absurd rfl c2
        | none => rfl
      · rw [if_neg c4, ih, if_neg]
        · cases earlB ts name 0 n <;> rfl
        · rintro ⟨_, h⟩
          apply c4
          rw [ByteArray.toList_eq, ByteArray.toList_eq] at h
          cases ht : t.f2 with | mk a =>
          cases hn : name with | mk b =>
          rw [ht, hn] at h
          exact congrArg ByteArray.mk (Array.toList_inj.1 h)
    · rw [if_neg c3, ih, if_neg (fun h => c3 h.1)]
      cases earlB ts name 0 n <;> rfl
theorem goodTerm_var_zero (t : S120) (h : goodTermB t = true) (hv : t.f2.toList.isEmpty = false) : t.f3 = ⟨0, 0, ⟨#[]⟩⟩ := by
  have hz : ∀ v : S104, zeroValB v = true → v = ⟨0, 0, ⟨#[]⟩⟩ := by
    intro v hv
    obtain ⟨a, b, c⟩ := v
    unfold zeroValB at hv
    simp only [Bool.and_eq_true, beq_iff_eq] at hv
    obtain ⟨h1, h2, h3⟩ := hv
    rw [← toList_nil_iff, ByteArray.toList_eq] at h3
    cases c with | mk d =>
    have : d = #[] := Array.toList_inj.1 h3
    rw [h1, h2, this]
  unfold goodTermB at h
  rw [hv] at h
  split at h
  · simp at h
  split at h
  · simp at h
  split at h
  · simp only [Bool.and_eq_true] at h; exact hz _ h.1.2
  split at h
  · split at h
    · cases h
    split at h
    · cases h
    rw [if_neg (by simp)] at h
    simp only [Bool.and_eq_true] at h; exact hz _ h.2
  · cases h
theorem specAlphaOf_loop (neg : Bool) (cls : ByteArray) (ts : List S120) (hl : ts.length ≤ 6) (hg : ∀ i, i < ts.length → goodTermB (rd_T120 ts ((i : Nat) : Int)) = true) (c : ByteArray) (ar : Int) :
    ∀ i, i ≤ ts.length → Ev (fun k => spec_AlphaOf.l0 k ts (ts.length : Int) (i : Int) neg cls ts c ar (aoRun ts i).2) (c, ar, (aoRun ts ts.length).2) := by
  refine up_ind ?_ ?_
  · refine Ev.step (fun k => by simp only [spec_AlphaOf.l0]; exact rfl) ?_
    exact Ev.ifF (by omega) (Ev.now _)
  · intro i hi ih
    have hgi := hg i hi
    have hlen := aoRun_length ts i
    have hlk := fun name hn => look_earl ts i name hn (fun j hj => hg j (by omega))
    have hear := fun name => l3Earlier_loop neg cls ts name (by omega) i (by omega) i 0 (by omega)
    simp only [aoRun, aoStep] at ih
    have hw := wrap_succ hi (show ts.length ≤ 9223372036854775807 by omega)
    have hj : ∀ op : Int, op = (if (rd_T120 ts (i : Int)).f0 = 3 then (rd_T120 ts (i : Int)).f1 else 1) →
        Ev (fun k => spec_AlphaOf.j1 k (i : Int) ts (ts.length : Int) (i : Int) neg cls ts c ar (aoRun ts i).2 (rd_T120 ts (i : Int)).f0 (rd_T120 ts (i : Int)).f1 (rd_T120 ts (i : Int)).f2 (rd_T120 ts (i : Int)).f3.f0 (rd_T120 ts (i : Int)).f3.f1 (rd_T120 ts (i : Int)).f3.f2 (i : Int) op (-1) (rd_T120 ts (i : Int)).f3.f0 (rd_T120 ts (i : Int)).f3.f1 (rd_T120 ts (i : Int)).f3.f2) (c, ar, (aoRun ts ts.length).2) := by
      intro op hop
      rw [← hop] at ih
      generalize rd_T120 ts (i : Int) = t at *
      refine Ev.step (fun k => by simp only [spec_AlphaOf.j1, hw]; exact rfl) ?_
      refine Ev.ite (fun c0 => ?_) (fun c0 => ?_)
      · rw [if_pos c0] at ih; exact ih
      rw [if_neg c0] at ih
      refine Ev.ite (fun c1 => ?_) (fun c1 => ?_)
      · rw [toList_nil_iff] at c1
        rw [if_pos c1] at ih
        refine Ev.ifT (by omega) ?_
        exact ih
      rw [toList_nil_iff] at c1
      rw [if_neg c1] at ih
      rw [Bool.not_eq_true] at c1
      have hv := goodTerm_var_zero t hgi c1
      rw [hlk _ c1] at ih
      have he := hear t.f2
      have hnn := earlB_nonneg ts t.f2 i 0
      refine Ev.bind (f := fun k t333 => _) he ?_
      cases hx : earlB ts t.f2 0 i with
      | some x =>
        have := hnn x hx
        rw [hx] at ih
        simp only [Option.isSome_some, if_true, Option.getD_some] at ih
        simp only [Option.getD_some]
        refine Ev.ifF (by omega) ?_
        refine Ev.ifT (by omega) ?_
        rw [hv]
        exact ih
      | none =>
        rw [hx] at ih
        simp only [Option.getD_none]
        refine Ev.ifT (by omega) ?_
        simp only [Option.isSome_none] at ih
        rw [if_neg (by simp)] at ih
        split at ih <;> exact ih
    refine Ev.step (fun k => by simp only [spec_AlphaOf.l0]; exact rfl) ?_
    refine Ev.ifT (by omega) ?_
    refine Ev.ifT (by omega) ?_
    refine Ev.ifT (by omega) ?_
    refine Ev.ite (fun c => ?_) (fun c => ?_)
    · exact hj _ (by rw [if_pos c])
    · exact hj _ (by rw [if_neg c])
theorem specAlphaOf_some (neg : Bool) (cls : ByteArray) (ts : List S120) : ∃ r, impl_AlphaOf.f neg cls ts = some r ∧ r.2.2.length ≤ 6 ∧ Ev (fun k => spec_AlphaOf.f k neg cls ts) r := by
  refine ⟨_, rfl, ?_, ?_⟩
  · split
    · rename_i h
      have := aoRun_length ts ts.length
      unfold goodPatB at h
      simp only [Bool.and_eq_true, decide_eq_true_eq] at h
      dsimp only
      omega
    · simp
  · refine Ev.congr (fun k => by unfold spec_AlphaOf.f; exact rfl) ?_
    refine Ev.bind (l2GoodPat_some neg cls ts) ?_
    refine Ev.ite (fun c => ?_) (fun c => ?_)
    · rw [if_pos c]
      unfold goodPatB at c
      simp only [Bool.and_eq_true, decide_eq_true_eq, List.all_eq_true] at c
      obtain ⟨_, h6, hg⟩ := c
      exact specAlphaOf_loop neg cls ts h6 (fun i hi => by
        have e : rd_T120 ts (i : Int) = ts[i] := by
          unfold rd_T120
          simp [hi]
        rw [e]; exact hg _ (List.getElem_mem hi)) cls (ts.length : Int) 0 (Nat.zero_le _)
    · rw [if_neg c]; exact Ev.now _
def FnExactAlphaOf.Pure : Prop := ∀ (a : S56), okPattern a → ∃ k, laws_FnExactAlphaOf.f k a.f0 a.f1 a.f2 = some true
theorem FnExactAlphaOf : FnExactAlphaOf.Pure := by
  intro a ha
  refine Ev.rounds ?_
  refine Ev.congr (fun k => by unfold laws_FnExactAlphaOf.f; exact rfl) ?_
  have h1 := sz_Pattern a ha 1048576 (by omega) (by omega)
  refine Ev.bind h1 ?_
  by_cases c1 : (1048576 : Int) < tzPattern a
  · rw [szv_neg c1]
    exact Ev.ifT (by omega) (Ev.now _)
  have d1 : (tzPattern a : Int) ≤ 1048576 := by omega
  rw [szv_pos d1]
  refine Ev.ifF (by omega) ?_
  have hl : a.f2.length ≤ 1048576 := by unfold tzPattern tzTermS at d1; omega
  have hto := to_Pattern a (by omega)
  obtain ⟨r, e1, e2, e3⟩ := specAlphaOf_some a.f0 a.f1 (a.f2.map cvTerm)
  obtain ⟨r0, r1, r2⟩ := r
  have heq := eq_Alpha (⟨r0, r1, r2⟩ : S34) (show r2.length ≤ 9223372036854775807 by dsimp only at e2; omega)
  have heqp := eq_Pattern (cvPattern a) (le_cvPattern a (by omega))
  have hc1 := cntTermS (a.f2.map cvTerm)
  rw [List.length_map] at hc1
  have hc2 := cntAlphaTestS r2
  have hmk := mark_TermS (a.f2.map cvTerm) 1 (by rw [List.length_map]; omega) (by omega) (by omega)
  dsimp only at e2
  have hmk2 := mark_AlphaTestS r2 1 (by omega) (by omega) (by omega)
  have hhd := held_AlphaTestS r2 1 (by omega) (by omega) (by omega)
  dsimp only [cvPattern] at heqp heq
  have hmp : Ev (fun k => laws_markPattern.f k a.f0 a.f1 (a.f2.map cvTerm) 1) (1 + cntL mnTerm (a.f2.map cvTerm), mkL mkTerm mnTerm 1 (a.f2.map cvTerm)) := by
    refine Ev.congr (fun k => by unfold laws_markPattern.f; exact rfl) ?_
    exact Ev.bind hmk (Ev.now _)
  have hma : Ev (fun k => laws_markAlpha.f k r0 r1 r2 1) (1 + cntL mnAlphaTest r2, mkL mkAlphaTest mnAlphaTest 1 r2) := by
    refine Ev.congr (fun k => by unfold laws_markAlpha.f; exact rfl) ?_
    exact Ev.bind hmk2 (Ev.now _)
  have hha : Ev (fun k => laws_heldAlpha.f k r0 r1 (mkL mkAlphaTest mnAlphaTest 1 r2) 1) (1 + cntL mnAlphaTest r2) := by
    refine Ev.congr (fun k => by unfold laws_heldAlpha.f; exact rfl) ?_
    exact Ev.bind hhd (Ev.ifF (by omega) (Ev.now _))
  refine Ev.bind hto ?_
  refine Ev.bind e3 ?_
  refine Ev.bind hto ?_
  refine Ev.bindE e1 ?_
  refine Ev.bind heq ?_
  refine Ev.ifT (by trivial) ?_
  refine Ev.bind hto ?_
  refine Ev.bind heqp ?_
  refine Ev.ifT (by trivial) ?_
  refine Ev.bind hmp ?_
  refine Ev.ifF (by dsimp only; omega) ?_
  refine Ev.bind heq ?_
  refine Ev.step (fun k => by simp only [laws_FnExactAlphaOf.j0]; exact rfl) ?_
  refine Ev.ifF (by simp) ?_
  refine Ev.bind hma ?_
  refine Ev.bind hha ?_
  refine Ev.ifF (by omega) ?_
  refine Ev.ifT (by trivial) ?_
  refine Ev.bind hto ?_
  refine Ev.bindE e1 ?_
  refine Ev.bind heq ?_
  refine Ev.ifT (by trivial) ?_
  refine Ev.bind hha ?_
  refine Ev.ifF (by omega) ?_
  refine Ev.ifT (by trivial) ?_
  exact Ev.now _
end Go.Proofs.Ytoncacdehhmpaaa.Pure
namespace Go.Proofs.YtoncacdehhmpaaaX
open Go.RowKit Go.Proofs.YtoncacdehhmpaaaW.PrintWords
set_option linter.unusedVariables false
set_option linter.unusedSimpArgs false
def Rdb {α : Type} (P : Program) (W : World) (T : TypeId) (d : Kd α) (ok : α → Prop) : Prop :=
  ∀ (H : Type) (enc : TypeId × Value → H) (sp : Nat → Bool) (fuel : Nat) (cs : List Value) (r : DataW H × List MemPlace), DataW.trod enc P W 0 sp true fuel T cs = some r → ∃ x, d.K W x cs ∧ ok x
section
variable {P : Program} {W : World} {T : TypeId}
theorem rdb_bool (hu : P.underlying T = some .bool) : Rdb P W T Kd.bool (fun _ => True) := by
  intro H enc sp fuel cs r h
  obtain ⟨n, rfl, _⟩ := DataW.trod_bool hu h
  exact ⟨n, rfl, trivial⟩
theorem rdb_string (hu : P.underlying T = some .string) : Rdb P W T Kd.string (fun s => s.size ≤ 9223372036854775807) := by
  intro H enc sp fuel cs r h
  obtain ⟨s, rfl, _, hs⟩ := DataW.trod_string hu h
  exact ⟨s, rfl, by simpa [maxLen] using hs⟩
theorem list_choice {α : Type} (Q : Nat → α → Prop) : ∀ n, (∀ i, i < n → ∃ x, Q i x) → ∃ xs : List α, xs.length = n ∧ ∀ i x, xs[i]? = some x → Q i x
  | 0, _ => ⟨[], rfl, fun i x h => by simp at h⟩
  | n + 1, h => by
    obtain ⟨xs, hl, hx⟩ := list_choice Q n (fun i hi => h i (by omega))
    obtain ⟨y, hy⟩ := h n (by omega)
    refine ⟨xs ++ [y], by simp [hl], fun i x hi => ?_⟩
    rcases Nat.lt_or_ge i xs.length with c | c
    · rw [List.getElem?_append_left c] at hi
      exact hx i x hi
    · rw [List.getElem?_append_right c] at hi
      have e : i - xs.length = 0 := by
        rcases Nat.eq_zero_or_pos (i - xs.length) with e | e
        · exact e
        · rw [List.getElem?_eq_none (by simp; omega)] at hi; cases hi
      rw [e] at hi
      have : y = x := by simpa using hi
      rw [← this, show i = n by omega]
      exact hy
theorem add_plus (a : Addr) (m n : Nat) : (a.add m).add n = a.add (m + n) := by
  unfold Addr.add
  by_cases h1 : m = 0
  · subst h1; simp
  · by_cases h2 : n = 0
    · subst h2; simp
    · simp [h1, h2]; omega
theorem rdb_slice {α : Type} {d : Kd α} {ok : α → Prop} {e : TypeId} (hu : P.underlying T = some (.slice e)) (hc : P.cellsOf e = d.sz) (he : Rdb P W e d ok) :
    Rdb P W T (Kd.slice e d) (fun xs => xs.length ≤ 9223372036854775807 ∧ ∀ x, x ∈ xs → ok x) := by
  intro H enc sp fuel cs r h
  rcases DataW.trod_slice hu h with ⟨rfl, _⟩ | ⟨a, len, cap, elems, rest, n, _, rfl, _, _, hl, hcap, hel, hrd, _, _⟩
  · exact ⟨[], ⟨none, 0, rfl, Nat.le_refl _, rfl, by simp, fun h => absurd h (by simp)⟩, by simp, fun x hx => absurd hx (by simp)⟩
  · have hex : ∀ i, i < len → ∃ x, ∃ c, c.length = d.sz ∧ d.K W x c ∧ (∀ j u, c[j]? = some u → W.cell? (a.add (i * d.sz + j)) = some u) ∧ ok x := by
      intro i hi
      have h1 := hrd i hi
      rw [List.getElem?_eq_getElem (by omega)] at h1
      obtain ⟨c, h2, h3⟩ := Option.bind_eq_some_iff.1 h1
      obtain ⟨x, hx, hok⟩ := he H enc sp n c _ h3
      obtain ⟨_, h5, h6⟩ := World.cells?_some h2
      refine ⟨x, c, d.K_len hx, hx, fun j u hj => ?_, hok⟩
      have hlt : j < P.cellsOf e := by
        have := (List.getElem?_eq_some_iff.1 hj).1
        omega
      have h7 := h6 j hlt
      rw [hj, hc, add_plus] at h7
      exact h7
    obtain ⟨xs, hxl, hxs⟩ := list_choice _ len hex
    refine ⟨xs, ⟨some a, cap, by rw [hxl], by omega, rfl, by simp [maxLen] at hcap; omega, fun _ => ⟨a, rfl, fun j p hj => ?_⟩⟩, by simp [maxLen] at hcap; omega, fun x hx => ?_⟩
    · obtain ⟨c, h1, h2, h3, _⟩ := hxs j p hj
      exact ⟨c, h1, h2, h3⟩
    · obtain ⟨i, hi, e⟩ := List.getElem_of_mem hx
      obtain ⟨c, _, _, _, h4⟩ := hxs i x (by rw [List.getElem?_eq_getElem hi, e])
      exact h4
theorem rdb_i64 (hu : P.underlying T = some (.int .i64)) : Rdb P W T (Kd.int .i64) okInt := by
  intro H enc sp fuel cs r h
  obtain ⟨n, rfl, _, hw⟩ := DataW.trod_int hu h
  refine ⟨n, rfl, ?_⟩
  simp only [Lit.wf, Bool.and_eq_true, decide_eq_true_eq] at hw
  exact hw
theorem len_s {α : Type} {cs : List α} {n : Nat} (h : cs.length = n + 1) : ∃ a r, cs = a :: r ∧ r.length = n := by
  cases cs with
  | nil => cases h
  | cons a r => exact ⟨a, r, rfl, by simpa using h⟩
theorem len_z {α : Type} {cs : List α} (h : cs.length = 0) : cs = [] := List.length_eq_zero_iff.1 h
theorem okWide_st {w : World} {r : Reach} {base : Nat} {v : Value} {fs : Array Field} (ht : P.underlying T = some (.struct fs)) (h : Value.okWide P w r base T v) : ∃ cs, v = .agg cs := by
  simp only [Value.okWide, ht] at h
  obtain ⟨cs, hcs, _⟩ := h
  exact ⟨cs, hcs⟩
end
end Go.Proofs.YtoncacdehhmpaaaX
