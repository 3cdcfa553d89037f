/- The row of the law FnExactAlphaMems: for every input the call returns true, and each argument reads behind it as it read before; no condition of ours. -/
import Derived.Test.YtoncacdehhmpaaaQAm5
namespace Go.Proofs.Ytoncacdehhmpaaa.P
open Go.RowKit Go.Proofs.YtoncacdehhmpaaaW.PrintWords Go.Proofs.YtoncacdehhmpaaaW.PrintLast Go.Proofs.YtoncacdehhmpaaaW.PrintMore
attribute [local go_sem] max2_int min2_int max_two min_two max_three min_three max_four min_four
set_option linter.unusedVariables false
set_option linter.unusedSimpArgs false
def laws_eqIntS.l0 : Nat → List Int → List Int → Int → Option (Bool)
 | 0, _, _, _ => none
 | k + 1, x0, x1, x5 => if x5 < (x0.length : Int) then (if 0 ≤ x5 then (if x5 < (x1.length : Int) then (if (rd x0 x5) = (rd x1 x5) then (laws_eqIntS.l0 k x0 x1 (wrap64 (x5 + 1))) else (some false)) else (none)) else (none)) else (some true)
def laws_eqIntS.f (k : Nat) (l0 : List Int) (l1 : List Int) : Option (Bool) := if (l0.length : Int) = (l1.length : Int) then (laws_eqIntS.l0 k l0 l1 0) else (some false)
theorem laws_eqIntS.mono_l : ∀ k, (∀ y0 y1 y2, LeO (laws_eqIntS.l0 k y0 y1 y2) (laws_eqIntS.l0 (k + 1) y0 y1 y2))
 | 0 => fun _ _ _ r h => by simp [laws_eqIntS.l0] at h
 | k + 1 => by
  have ih0 := laws_eqIntS.mono_l k
  ·intro y0 y1 y2
   unfold laws_eqIntS.l0
   repeat' first
   | (with_reducible exact ih0 _ _ _)
   | (with_reducible exact LeO.refl _)
   | (with_reducible exact LeO.none _)
   | (with_reducible refine LeO.ite ?_ ?_)
   | (with_reducible refine LeO.bind ?_ (fun _ => ?_))
   | exact ih0 _ _ _
   | exact LeO.none _
   | refine LeO.ite ?_ ?_
   | refine LeO.bind ?_ (fun _ => ?_)
theorem laws_eqIntS.mono : ∀ a0 a1 k, LeO (laws_eqIntS.f k a0 a1) (laws_eqIntS.f (k + 1) a0 a1) := by
 intro a0 a1 k
 have ih0 := laws_eqIntS.mono_l k
 unfold laws_eqIntS.f
 repeat' first
   | (with_reducible exact ih0 _ _ _)
   | (with_reducible exact LeO.refl _)
   | (with_reducible exact LeO.none _)
   | (with_reducible refine LeO.ite ?_ ?_)
   | (with_reducible refine LeO.bind ?_ (fun _ => ?_))
   | exact ih0 _ _ _
   | exact LeO.none _
   | refine LeO.ite ?_ ?_
   | refine LeO.bind ?_ (fun _ => ?_)
set_option maxHeartbeats 8000000 in
set_option maxRecDepth 100000 in
theorem laws_eqIntS.calls (k : Nat) (A0 : Option Addr) (c0 : Nat) (l0 : List Int) (A1 : Option Addr) (c1 : Nat) (l1 : List Int) (r : Bool) (w : World) (hr0 : Kd.C (Kd.int .i64) w A0 l0.length l0) (hc0 : l0.length ≤ c0) (hr1 : Kd.C (Kd.int .i64) w A1 l1.length l1) (hc1 : l1.length ≤ c1) (h : laws_eqIntS.f k l0 l1 = some r) (hT_ : r = true := by first | rfl | assumption) :
  Calls Try.prog 34 #[.slice A0 l0.length c0, .slice A1 l1.length c1] w fun e w' => e = .returned (.bool r) ∧ Drawn0 w w' := by
 subst hT_
 have HR0 := Aside0.mk hr0
 have HC0 := Aside0.mk hc0
 clear hr0 hc0
 have HR1 := Aside0.mk hr1
 have HC1 := Aside0.mk hc1
 clear hr1 hc1
 have H : (if (l0.length : Int) = (l1.length : Int) then (laws_eqIntS.l0 k l0 l1 0) else (some false)) = some true := h
 clear h
 by_cases c3 : (l0.length : Int) = (l1.length : Int)
 ·rw [if_pos c3] at H
  have c3b0 : ((l0.length : Int) == (l1.length : Int)) = true := beq_iff_eq.mpr c3
  have c3b1 : ((l0.length : Int) != (l1.length : Int)) = false := bne_eq_false_iff_eq.mpr c3
  have c3b2 : (l0.length == l1.length) = true := by first | simpa using c3 | (simp at c3 ⊢; omega)
  clear c3
  have H' := Aside0.mk H
  clear H
  go_enter Try.func34, Try.ntmps34
  go_wp2
  repeat (go_quiet (fail); try go_wp2)
  go_loopg [5] k (fun kq v5 w' => ∃ (x5_1 : Int), v5 = .int .i64 x5_1 ∧ Aside0 (laws_eqIntS.l0 kq l0 l1 x5_1 = some true) ∧ Aside0 (kq ≤ k) ∧ Drawn0 w w')
  case atStart => exact ⟨(0), (by first | rfl | (simp; done) | (simp [*]; done)), H', ⟨Nat.le_refl _⟩, by repeat (first | exact Drawn0.refl _ | apply Drawn0.step)⟩
  case round =>
   clear H'
   try clear c1
   try clear p2
   try clear c3
   try clear c3b0
   try clear c3b1
   try clear c3b2
   obtain ⟨x5_1, rfl, HA, HK1, ⟨m1, rfl⟩⟩ := hrel
   cases gk with
   | zero => exact absurd HA.out (by simp [laws_eqIntS.l0])
   | succ k1 =>
    have H := HA.out
    clear HA
    simp only [laws_eqIntS.l0] at H
    by_cases c4 : x5_1 < (l0.length : Int)
    ·rw [if_pos c4] at H
     have c4b0 : decide (x5_1 < (l0.length : Int)) = true := decide_eq_true c4
     clear c4
     by_cases c5 : 0 ≤ x5_1
     ·rw [if_pos c5] at H
      have c5b0 : decide (0 ≤ x5_1) = true := decide_eq_true c5
      clear c5
      by_cases c6 : x5_1 < (l1.length : Int)
      ·rw [if_pos c6] at H
       have c6b0 : decide (x5_1 < (l1.length : Int)) = true := decide_eq_true c6
       clear c6
       by_cases c7 : (rd l0 x5_1) = (rd l1 x5_1)
       ·rw [if_pos c7] at H
        have c7b0 : ((rd l0 x5_1) == (rd l1 x5_1)) = true := beq_iff_eq.mpr c7
        have c7b1 : ((rd l0 x5_1) != (rd l1 x5_1)) = false := bne_eq_false_iff_eq.mpr c7
        clear c7
        have H' := Aside0.mk H
        clear H
        have p619 : 0 ≤ (x5_1 : Int) := of_decide_eq_true (by first | (with_reducible assumption) | assumption)
        have q619 : x5_1 < (l0.length : Int) := of_decide_eq_true (by first | (with_reducible assumption) | assumption)
        obtain ⟨ad619, e619, hx619_0⟩ := Kd.at_int HR0.out x5_1 p619 q619
        cases e619
        replace p619 := eq_true p619
        replace q619 := eq_true q619
        have p620 : 0 ≤ (x5_1 : Int) := of_decide_eq_true (by first | (with_reducible assumption) | assumption)
        have q620 : x5_1 < (l1.length : Int) := of_decide_eq_true (by first | (with_reducible assumption) | assumption)
        obtain ⟨ad620, e620, hx620_0⟩ := Kd.at_int HR1.out x5_1 p620 q620
        cases e620
        replace p620 := eq_true p620
        replace q620 := eq_true q620
        go_wp2
        repeat (go_quiet (fail); try go_wp2)
        go_roundg k1
        case measure => have := HK1.out; omega
        case rel => exact ⟨(wrap64 (x5_1 + 1)), (by first | rfl | (simp; done) | (simp [*]; done)), H', ⟨by have := HK1.out; omega⟩, by repeat (first | exact Drawn0.refl _ | apply Drawn0.step)⟩
       ·rw [if_neg c7] at H
        have c7b0 : ((rd l0 x5_1) == (rd l1 x5_1)) = false := beq_eq_false_iff_ne.mpr c7
        have c7b1 : ((rd l0 x5_1) != (rd l1 x5_1)) = true := bne_iff_ne.mpr c7
        exact absurd (Option.some.inj H) (by decide)
      ·rw [if_neg c6] at H
       exact absurd H (by simp)
     ·rw [if_neg c5] at H
      exact absurd H (by simp)
    ·rw [if_neg c4] at H
     have c4b0 : decide (x5_1 < (l0.length : Int)) = false := decide_eq_false c4
     clear c4
     clear H
     go_wp2
     repeat (go_quiet (fail); try go_wp2)
     go_ret
     exact ⟨by first | rfl | (simp; done) | (simp [*]; done), by repeat (first | exact Drawn0.refl _ | apply Drawn0.step)⟩
 ·rw [if_neg c3] at H
  have c3b0 : ((l0.length : Int) == (l1.length : Int)) = false := beq_eq_false_iff_ne.mpr c3
  have c3b1 : ((l0.length : Int) != (l1.length : Int)) = true := bne_iff_ne.mpr c3
  have c3b2 : (l0.length == l1.length) = false := by first | simpa using c3 | (simp at c3 ⊢; omega)
  exact absurd (Option.some.inj H) (by decide)
def laws_markIntS.l0 : Nat → List Int → Int → Int → Option (Int × List Int)
 | 0, _, _, _ => none
 | k + 1, x0, x1, x5 => if x5 < (x0.length : Int) then (if 0 ≤ x5 then (laws_markIntS.l0 k (x0.set (x5 : Int).toNat x1) (wrap64 (x1 + 1)) (wrap64 (x5 + 1))) else (none)) else (some (x1, x0))
def laws_markIntS.f (k : Nat) (l0 : List Int) (a1 : Int) : Option (Int × List Int) := laws_markIntS.l0 k l0 a1 0
theorem laws_markIntS.mono_l : ∀ k, (∀ y0 y1 y2, LeO (laws_markIntS.l0 k y0 y1 y2) (laws_markIntS.l0 (k + 1) y0 y1 y2))
 | 0 => fun _ _ _ r h => by simp [laws_markIntS.l0] at h
 | k + 1 => by
  have ih0 := laws_markIntS.mono_l k
  ·intro y0 y1 y2
   unfold laws_markIntS.l0
   repeat' first
   | (with_reducible exact ih0 _ _ _)
   | (with_reducible exact LeO.refl _)
   | (with_reducible exact LeO.none _)
   | (with_reducible refine LeO.ite ?_ ?_)
   | (with_reducible refine LeO.bind ?_ (fun _ => ?_))
   | exact ih0 _ _ _
   | exact LeO.none _
   | refine LeO.ite ?_ ?_
   | refine LeO.bind ?_ (fun _ => ?_)
theorem laws_markIntS.mono : ∀ a0 a1 k, LeO (laws_markIntS.f k a0 a1) (laws_markIntS.f (k + 1) a0 a1) := by
 intro a0 a1 k
 have ih0 := laws_markIntS.mono_l k
 unfold laws_markIntS.f
 repeat' first
   | (with_reducible exact ih0 _ _ _)
   | (with_reducible exact LeO.refl _)
   | (with_reducible exact LeO.none _)
   | (with_reducible refine LeO.ite ?_ ?_)
   | (with_reducible refine LeO.bind ?_ (fun _ => ?_))
   | exact ih0 _ _ _
   | exact LeO.none _
   | refine LeO.ite ?_ ?_
   | refine LeO.bind ?_ (fun _ => ?_)
set_option maxHeartbeats 8000000 in
set_option maxRecDepth 100000 in
theorem laws_markIntS.calls (k : Nat) (P0_ : Nat → Prop) (u9000_ : Value) (l0 : List Int) (a1 : Int) (r1 : Int) (r2 : List Int) (w0 w : World) (hB : Below w0.heap.size w0 w) (ho0 : Kd.R (Kd.int .i64) 3 w w0.heap.size P0_ u9000_ l0) (h : laws_markIntS.f k l0 a1 = some (r1, r2)) :
  Calls Try.prog 35 #[u9000_, .int .i64 a1] w fun e w' => e = .returned (.int .i64 r1) ∧ Kd.R (Kd.int .i64) 3 w' w0.heap.size (fun k_ => (P0_ k_ ∨ w.heap.size ≤ k_)) u9000_ r2 ∧ Below w0.heap.size w0 w' ∧ Kept w w' (fun k_ => P0_ k_) := by
 have HO0 := Aside0.mk (show Kd.R (Kd.int .i64) 3 w w0.heap.size (fun k_ => (P0_ k_ ∨ w.heap.size ≤ k_)) u9000_ l0 from Kd.R_mono ho0 (fun k_ hk => (.inl hk)))
 have HK := Aside0.mk (Kept.refl w (fun k_ => P0_ k_))
 have HW0 := Aside0.mk hB.size
 have HB := Aside0.mk hB
 clear hB
 have H : (laws_markIntS.l0 k l0 a1 0) = some (r1, r2) := h
 clear h
 have H' := Aside0.mk H
 clear H
 go_enter Try.func35, Try.ntmps35
 go_wp2
 go_loopg [1, 5] k (fun kq v1 v5 w' => ∃ (x0_1 : List Int) (x1_1 : Int) (x5_1 : Int), v1 = .int .i64 x1_1 ∧ v5 = .int .i64 x5_1 ∧ Aside0 (laws_markIntS.l0 kq x0_1 x1_1 x5_1 = some (r1, r2)) ∧ Aside0 (kq ≤ k) ∧ Aside0 (Kd.R (Kd.int .i64) 3 w' w0.heap.size (fun k_ => (P0_ k_ ∨ w.heap.size ≤ k_)) u9000_ x0_1) ∧ Aside0 (Kept w w' (fun k_ => P0_ k_)) ∧ Aside0 (Below w0.heap.size w0 w'))
 case atStart => exact ⟨(l0), (a1), (0), (by first | rfl | (simp; done) | (simp [*]; done)), (by first | rfl | (simp; done) | (simp [*]; done)), H', ⟨Nat.le_refl _⟩, ⟨by (with_reducible repeat (first | apply Kd.R_alloc | apply Kd.R_drewN | apply Kd.R_drew)); exact HO0.out⟩, ⟨by repeat (first | (with_reducible first | exact HK.out | apply Kept.alloc | apply Kept.drewN | apply Kept.drew) | exact HK.out)⟩, ⟨by repeat (first | (with_reducible first | exact HB.out | apply below_alloc | apply pw_below_drewN | apply below_drew1) | exact HB.out)⟩⟩
 case round =>
  clear H'
  try clear p2
  obtain ⟨x0_1, x1_1, x5_1, rfl, rfl, HA, HK1, HO_0, HK, HB⟩ := hrel
  cases gk with
  | zero => exact absurd HA.out (by simp [laws_markIntS.l0])
  | succ k1 =>
   have H := HA.out
   clear HA
   simp only [laws_markIntS.l0] at H
   by_cases c3 : x5_1 < (x0_1.length : Int)
   ·rw [if_pos c3] at H
    have c3b0 : decide (x5_1 < (x0_1.length : Int)) = true := decide_eq_true c3
    clear c3
    by_cases c4 : 0 ≤ x5_1
    ·rw [if_pos c4] at H
     have c4b0 : decide (0 ≤ x5_1) = true := decide_eq_true c4
     clear c4
     obtain ⟨y621, hy621⟩ : ∃ y_ : List Int, y_ = (x0_1.set (x5_1 : Int).toNat x1_1) := ⟨_, rfl⟩
     replace H : (laws_markIntS.l0 k1 y621 (wrap64 (x1_1 + 1)) (wrap64 (x5_1 + 1))) = some (r1, r2) := by first | (rw [hy621]; with_reducible exact H) | (have H2_ := (Option.bind_some _ _).symm.trans H; rw [hy621]; with_reducible exact H2_) | (have H2_ := (Option.bind_some _ _).symm.trans H; with_reducible exact H2_) | with_reducible exact H | (rw [hy621]; exact H) | exact H
     have Ny621 := Aside0.mk hy621
     clear hy621
     have H' := Aside0.mk H
     clear H
     obtain ⟨Ao6, co6, eo6⟩ := Kd.R_slice HO_0.out
     subst eo6
     have p5 : 0 ≤ (x5_1 : Int) := of_decide_eq_true (by first | (with_reducible assumption) | assumption)
     have q5 : (x5_1 : Int) < ((x0_1.length : Int) : Int) := of_decide_eq_true (by first | (with_reducible assumption) | assumption)
     obtain ⟨go5, co5, eo5, gb5, gl5, cl5, HG5⟩ := Kd.R_form HO_0.out (by omega)
     (first | cases eo5 | (injection eo5 with ea_ en_ ec_; (first | subst ea_ | (injection ea_ with ea_; subst ea_)); subst ec_; clear en_))
     have GB5 := Aside0.mk gb5
     have GG5 := Aside0.mk HG5
     clear gb5 gl5 HG5
     have HMgo5 := Aside0.mk (show (P0_ go5 ∨ w.heap.size ≤ go5) from (HO_0.out.1 _ rfl))
     obtain ⟨hx5_0, hf5_0⟩ := Kd.R_celln 0 HO_0.out (x5_1 : Int) p5 q5
     replace p5 := eq_true p5
     replace q5 := eq_true q5
     have HP7 := Kd.R_putg HO_0.out (x5_1 : Int) x1_1
     go_wp2_with (first | ((with_reducible refine gate_store (t := 3) (p := 15) rfl ?_); refine store_event (t := 3) (p := 15) (v := ?vo_w8) (w1 := (wr.setCell ⟨go5, (x5_1 : Int).toNat, none⟩ (.int .i64 x1_1))) ?hg ?ho ?hn ?hr ?_; (case ho => rfl); (case hg => rfl); (case hn => rfl); (case hr => first | (go_simp; done) | (go_simp; rfl)); intro w8 hw; have hg : wr.grownBy w8 (some go5) := (by rw [hw]; exact HP7.2); have hp_ : Kd.R (Kd.int .i64) 3 w8 w0.heap.size (fun k_ => (P0_ k_ ∨ w.heap.size ≤ k_)) (.slice (some ⟨go5, 0, none⟩) x0_1.length co6) y621 := (by rw [hw, Ny621.out]; exact HP7.1); clear HP7; have n0_ := Aside0.mk (hp_); have n1_ := Aside0.mk ((by rw [hw]; exact below_set (HB.out) GB5.out : Below w0.heap.size w0 w8)); have n2_ := Aside0.mk (Kept.of_grown (S := (fun k_ => P0_ k_)) hg (by repeat (first | (with_reducible first | exact HK.out | apply Kept.alloc | apply Kept.drewN | apply Kept.drew) | exact HK.out)) (fun k_ e_ => (HO_0.out.1 k_ e_))); clear HO_0; clear HB; clear HK; have HO_0 := n0_; have HB := n1_; have HK := n2_; clear n0_ n1_ n2_; clear hg hw hp_))
     go_roundg k1
     case measure => have := HK1.out; omega
     case rel => exact ⟨(y621), (wrap64 (x1_1 + 1)), (wrap64 (x5_1 + 1)), (by first | rfl | (simp; done) | (simp [*]; done)), (by first | rfl | (simp; done) | (simp [*]; done)), H', ⟨by have := HK1.out; omega⟩, ⟨by (with_reducible repeat (first | apply Kd.R_alloc | apply Kd.R_drewN | apply Kd.R_drew)); exact HO_0.out⟩, ⟨by repeat (first | (with_reducible first | exact HK.out | apply Kept.alloc | apply Kept.drewN | apply Kept.drew) | exact HK.out)⟩, ⟨by repeat (first | (with_reducible first | exact HB.out | apply below_alloc | apply pw_below_drewN | apply below_drew1) | exact HB.out)⟩⟩
    ·rw [if_neg c4] at H
     exact absurd H (by simp)
   ·rw [if_neg c3] at H
    have c3b0 : decide (x5_1 < (x0_1.length : Int)) = false := decide_eq_false c3
    clear c3
    simp only [Option.some.injEq, Prod.mk.injEq] at H
    obtain ⟨rfl, rfl⟩ := H
    obtain ⟨Ao9, co9, eo9⟩ := Kd.R_slice HO_0.out
    subst eo9
    go_wp2
    go_ret
    exact ⟨by first | rfl | (simp [errW_none, errW_some] <;> rfl) | (simp [*, errW_none, errW_some] <;> rfl), by (with_reducible repeat (first | apply Kd.R_alloc | apply Kd.R_drewN | apply Kd.R_drew)); exact HO_0.out, by repeat (first | (with_reducible first | exact HB.out | apply below_alloc | apply pw_below_drewN | apply below_drew1) | exact HB.out), by repeat (first | (with_reducible first | exact HK.out | apply Kept.alloc | apply Kept.drewN | apply Kept.drew) | exact HK.out)⟩
def laws_heldIntS.l0 : Nat → List Int → Int → Int → Option (Int)
 | 0, _, _, _ => none
 | k + 1, x0, x1, x5 => if x5 < (x0.length : Int) then (if 0 ≤ x5 then (if (rd x0 x5) = x1 then (laws_heldIntS.l0 k x0 (wrap64 (x1 + 1)) (wrap64 (x5 + 1))) else (some (-1))) else (none)) else (some x1)
def laws_heldIntS.f (k : Nat) (l0 : List Int) (a1 : Int) : Option (Int) := laws_heldIntS.l0 k l0 a1 0
theorem laws_heldIntS.mono_l : ∀ k, (∀ y0 y1 y2, LeO (laws_heldIntS.l0 k y0 y1 y2) (laws_heldIntS.l0 (k + 1) y0 y1 y2))
 | 0 => fun _ _ _ r h => by simp [laws_heldIntS.l0] at h
 | k + 1 => by
  have ih0 := laws_heldIntS.mono_l k
  ·intro y0 y1 y2
   unfold laws_heldIntS.l0
   repeat' first
   | (with_reducible exact ih0 _ _ _)
   | (with_reducible exact LeO.refl _)
   | (with_reducible exact LeO.none _)
   | (with_reducible refine LeO.ite ?_ ?_)
   | (with_reducible refine LeO.bind ?_ (fun _ => ?_))
   | exact ih0 _ _ _
   | exact LeO.none _
   | refine LeO.ite ?_ ?_
   | refine LeO.bind ?_ (fun _ => ?_)
theorem laws_heldIntS.mono : ∀ a0 a1 k, LeO (laws_heldIntS.f k a0 a1) (laws_heldIntS.f (k + 1) a0 a1) := by
 intro a0 a1 k
 have ih0 := laws_heldIntS.mono_l k
 unfold laws_heldIntS.f
 repeat' first
   | (with_reducible exact ih0 _ _ _)
   | (with_reducible exact LeO.refl _)
   | (with_reducible exact LeO.none _)
   | (with_reducible refine LeO.ite ?_ ?_)
   | (with_reducible refine LeO.bind ?_ (fun _ => ?_))
   | exact ih0 _ _ _
   | exact LeO.none _
   | refine LeO.ite ?_ ?_
   | refine LeO.bind ?_ (fun _ => ?_)
set_option maxHeartbeats 8000000 in
set_option maxRecDepth 100000 in
theorem laws_heldIntS.calls (k : Nat) (A0 : Option Addr) (c0 : Nat) (l0 : List Int) (a1 : Int) (r : Int) (w : World) (hr0 : Kd.C (Kd.int .i64) w A0 l0.length l0) (hc0 : l0.length ≤ c0) (h : laws_heldIntS.f k l0 a1 = some r) :
  Calls Try.prog 36 #[.slice A0 l0.length c0, .int .i64 a1] w fun e w' => e = .returned (.int .i64 r) ∧ Drawn0 w w' := by
 have HR0 := Aside0.mk hr0
 have HC0 := Aside0.mk hc0
 clear hr0 hc0
 have H : (laws_heldIntS.l0 k l0 a1 0) = some r := h
 clear h
 have H' := Aside0.mk H
 clear H
 go_enter Try.func36, Try.ntmps36
 go_wp2
 go_loopg [1, 5] k (fun kq v1 v5 w' => ∃ (x1_1 : Int) (x5_1 : Int), v1 = .int .i64 x1_1 ∧ v5 = .int .i64 x5_1 ∧ Aside0 (laws_heldIntS.l0 kq l0 x1_1 x5_1 = some r) ∧ Aside0 (kq ≤ k) ∧ Drawn0 w w')
 case atStart => exact ⟨(a1), (0), (by first | rfl | (simp; done) | (simp [*]; done)), (by first | rfl | (simp; done) | (simp [*]; done)), H', ⟨Nat.le_refl _⟩, by repeat (first | exact Drawn0.refl _ | apply Drawn0.step)⟩
 case round =>
  clear H'
  try clear p2
  obtain ⟨x1_1, x5_1, rfl, rfl, HA, HK1, ⟨m1, rfl⟩⟩ := hrel
  cases gk with
  | zero => exact absurd HA.out (by simp [laws_heldIntS.l0])
  | succ k1 =>
   have H := HA.out
   clear HA
   simp only [laws_heldIntS.l0] at H
   by_cases c3 : x5_1 < (l0.length : Int)
   ·rw [if_pos c3] at H
    have c3b0 : decide (x5_1 < (l0.length : Int)) = true := decide_eq_true c3
    clear c3
    by_cases c4 : 0 ≤ x5_1
    ·rw [if_pos c4] at H
     have c4b0 : decide (0 ≤ x5_1) = true := decide_eq_true c4
     clear c4
     by_cases c5 : (rd l0 x5_1) = x1_1
     ·rw [if_pos c5] at H
      have c5b0 : ((rd l0 x5_1) == x1_1) = true := beq_iff_eq.mpr c5
      have c5b1 : ((rd l0 x5_1) != x1_1) = false := bne_eq_false_iff_eq.mpr c5
      clear c5
      have H' := Aside0.mk H
      clear H
      have p622 : 0 ≤ (x5_1 : Int) := of_decide_eq_true (by first | (with_reducible assumption) | assumption)
      have q622 : x5_1 < (l0.length : Int) := of_decide_eq_true (by first | (with_reducible assumption) | assumption)
      obtain ⟨ad622, e622, hx622_0⟩ := Kd.at_int HR0.out x5_1 p622 q622
      cases e622
      replace p622 := eq_true p622
      replace q622 := eq_true q622
      go_wp2
      go_roundg k1
      case measure => have := HK1.out; omega
      case rel => exact ⟨(wrap64 (x1_1 + 1)), (wrap64 (x5_1 + 1)), (by first | rfl | (simp; done) | (simp [*]; done)), (by first | rfl | (simp; done) | (simp [*]; done)), H', ⟨by have := HK1.out; omega⟩, by repeat (first | exact Drawn0.refl _ | apply Drawn0.step)⟩
     ·rw [if_neg c5] at H
      have c5b0 : ((rd l0 x5_1) == x1_1) = false := beq_eq_false_iff_ne.mpr c5
      have c5b1 : ((rd l0 x5_1) != x1_1) = true := bne_iff_ne.mpr c5
      obtain rfl := Option.some.inj H
      have p622 : 0 ≤ (x5_1 : Int) := of_decide_eq_true (by first | (with_reducible assumption) | assumption)
      have q622 : x5_1 < (l0.length : Int) := of_decide_eq_true (by first | (with_reducible assumption) | assumption)
      obtain ⟨ad622, e622, hx622_0⟩ := Kd.at_int HR0.out x5_1 p622 q622
      cases e622
      replace p622 := eq_true p622
      replace q622 := eq_true q622
      go_wp2
      go_ret
      exact ⟨by first | rfl | (simp; done) | (simp [*]; done), by repeat (first | exact Drawn0.refl _ | apply Drawn0.step)⟩
    ·rw [if_neg c4] at H
     exact absurd H (by simp)
   ·rw [if_neg c3] at H
    have c3b0 : decide (x5_1 < (l0.length : Int)) = false := decide_eq_false c3
    clear c3
    obtain rfl := Option.some.inj H
    go_wp2
    go_ret
    exact ⟨by first | rfl | (simp; done) | (simp [*]; done), by repeat (first | exact Drawn0.refl _ | apply Drawn0.step)⟩
def laws_FnExactRecency.j0 : Nat → List Int → List Int → List Int → Bool → Option (Bool)
 | 0, _, _, _, _ => none
 | k + 1, x0, x3, x5, x39 => if x39 = true then (some false) else ((laws_markIntS.f k x5 1).bind fun bt643 => ((laws_heldIntS.f k bt643.2 1).bind fun t645 => (if t645 < 0 then (some false) else (if t645 = bt643.1 then ((laws_toIntS.f k x0).bind fun t646 => ((impl_Recency.f t646).bind fun t649 => ((laws_eqIntS.f k t649 x3).bind fun t652 => (if t652 = true then ((laws_heldIntS.f k bt643.2 1).bind fun t653 => (if t653 < 0 then (some false) else (if t653 = bt643.1 then (some true) else (some false)))) else (some false))))) else (some false)))))
def laws_FnExactRecency.f (k : Nat) (l0 : List Int) : Option (Bool) := if (l0.length : Int) > 1048576 then (some true) else ((laws_toIntS.f k l0).bind fun t623 => ((spec_Recency.f k t623).bind fun t626 => ((laws_toIntS.f k l0).bind fun t629 => ((impl_Recency.f t629).bind fun t632 => ((laws_eqIntS.f k t632 t626).bind fun t635 => (if t635 = true then ((laws_toIntS.f k l0).bind fun t636 => ((laws_eqIntS.f k t629 t636).bind fun t639 => (if t639 = true then ((laws_markIntS.f k t629 1).bind fun bt640 => (if bt640.1 < 0 then (laws_FnExactRecency.j0 k l0 t626 t632 true) else ((laws_eqIntS.f k t632 t626).bind fun t642 => (laws_FnExactRecency.j0 k l0 t626 t632 (!t642))))) else (some false)))) else (some false)))))))
theorem laws_FnExactRecency.mono_l : ∀ k, (∀ y0 y1 y2 y3, LeO (laws_FnExactRecency.j0 k y0 y1 y2 y3) (laws_FnExactRecency.j0 (k + 1) y0 y1 y2 y3))
 | 0 => fun _ _ _ _ r h => by simp [laws_FnExactRecency.j0] at h
 | k + 1 => by
  have ih0 := laws_FnExactRecency.mono_l k
  ·intro y0 y1 y2 y3
   unfold laws_FnExactRecency.j0
   repeat' first
   | (with_reducible exact ih0 _ _ _ _)
   | (with_reducible exact laws_eqIntS.mono _ _ _)
   | (with_reducible exact laws_heldIntS.mono _ _ _)
   | (with_reducible exact laws_markIntS.mono _ _ _)
   | (with_reducible exact laws_toIntS.mono _ _)
   | (with_reducible exact spec_Recency.mono _ _)
   | (with_reducible exact LeO.refl _)
   | (with_reducible exact LeO.none _)
   | (with_reducible refine LeO.ite ?_ ?_)
   | (with_reducible refine LeO.bind ?_ (fun _ => ?_))
   | exact ih0 _ _ _ _
   | exact laws_eqIntS.mono _ _ _
   | exact laws_heldIntS.mono _ _ _
   | exact laws_markIntS.mono _ _ _
   | exact laws_toIntS.mono _ _
   | exact spec_Recency.mono _ _
   | exact LeO.none _
   | refine LeO.ite ?_ ?_
   | refine LeO.bind ?_ (fun _ => ?_)
theorem laws_FnExactRecency.mono : ∀ a0 k, LeO (laws_FnExactRecency.f k a0) (laws_FnExactRecency.f (k + 1) a0) := by
 intro a0 k
 have ih0 := laws_FnExactRecency.mono_l k
 unfold laws_FnExactRecency.f
 repeat' first
   | (with_reducible exact ih0 _ _ _ _)
   | (with_reducible exact laws_eqIntS.mono _ _ _)
   | (with_reducible exact laws_heldIntS.mono _ _ _)
   | (with_reducible exact laws_markIntS.mono _ _ _)
   | (with_reducible exact laws_toIntS.mono _ _)
   | (with_reducible exact spec_Recency.mono _ _)
   | (with_reducible exact LeO.refl _)
   | (with_reducible exact LeO.none _)
   | (with_reducible refine LeO.ite ?_ ?_)
   | (with_reducible refine LeO.bind ?_ (fun _ => ?_))
   | exact ih0 _ _ _ _
   | exact laws_eqIntS.mono _ _ _
   | exact laws_heldIntS.mono _ _ _
   | exact laws_markIntS.mono _ _ _
   | exact laws_toIntS.mono _ _
   | exact spec_Recency.mono _ _
   | exact LeO.none _
   | refine LeO.ite ?_ ?_
   | refine LeO.bind ?_ (fun _ => ?_)
end Go.Proofs.Ytoncacdehhmpaaa.P
namespace Go.Proofs.Ytoncacdehhmpaaa.P
open Go.RowKit Go.Proofs.YtoncacdehhmpaaaW.PrintWords Go.Proofs.YtoncacdehhmpaaaW.PrintLast Go.Proofs.YtoncacdehhmpaaaW.PrintMore
attribute [local go_sem] max2_int min2_int max_two min_two max_three min_three max_four min_four
set_option linter.unusedVariables false
set_option linter.unusedSimpArgs false
def laws_eqIntSS.l0 : Nat → List (List Int) → List (List Int) → Int → Option (Bool)
 | 0, _, _, _ => none
 | k + 1, x0, x1, x5 => if x5 < (x0.length : Int) then (if 0 ≤ x5 then (if x5 < (x1.length : Int) then ((laws_eqIntS.f k (rd_L18 x0 x5) (rd_L18 x1 x5)).bind fun t718 => (if t718 = true then (laws_eqIntSS.l0 k x0 x1 (wrap64 (x5 + 1))) else (some false))) else (none)) else (none)) else (some true)
def laws_eqIntSS.f (k : Nat) (l0 : List (List Int)) (l1 : List (List Int)) : Option (Bool) := if (l0.length : Int) = (l1.length : Int) then (laws_eqIntSS.l0 k l0 l1 0) else (some false)
theorem laws_eqIntSS.mono_l : ∀ k, (∀ y0 y1 y2, LeO (laws_eqIntSS.l0 k y0 y1 y2) (laws_eqIntSS.l0 (k + 1) y0 y1 y2))
 | 0 => fun _ _ _ r h => by simp [laws_eqIntSS.l0] at h
 | k + 1 => by
  have ih0 := laws_eqIntSS.mono_l k
  ·intro y0 y1 y2
   unfold laws_eqIntSS.l0
   repeat' first
   | (with_reducible exact ih0 _ _ _)
   | (with_reducible exact laws_eqIntS.mono _ _ _)
   | (with_reducible exact LeO.refl _)
   | (with_reducible exact LeO.none _)
   | (with_reducible refine LeO.ite ?_ ?_)
   | (with_reducible refine LeO.bind ?_ (fun _ => ?_))
   | exact ih0 _ _ _
   | exact laws_eqIntS.mono _ _ _
   | exact LeO.none _
   | refine LeO.ite ?_ ?_
   | refine LeO.bind ?_ (fun _ => ?_)
theorem laws_eqIntSS.mono : ∀ a0 a1 k, LeO (laws_eqIntSS.f k a0 a1) (laws_eqIntSS.f (k + 1) a0 a1) := by
 intro a0 a1 k
 have ih0 := laws_eqIntSS.mono_l k
 unfold laws_eqIntSS.f
 repeat' first
   | (with_reducible exact ih0 _ _ _)
   | (with_reducible exact laws_eqIntS.mono _ _ _)
   | (with_reducible exact LeO.refl _)
   | (with_reducible exact LeO.none _)
   | (with_reducible refine LeO.ite ?_ ?_)
   | (with_reducible refine LeO.bind ?_ (fun _ => ?_))
   | exact ih0 _ _ _
   | exact laws_eqIntS.mono _ _ _
   | exact LeO.none _
   | refine LeO.ite ?_ ?_
   | refine LeO.bind ?_ (fun _ => ?_)
set_option maxHeartbeats 8000000 in
set_option maxRecDepth 100000 in
theorem laws_eqIntSS.calls (k : Nat) (A0 : Option Addr) (c0 : Nat) (l0 : List (List Int)) (A1 : Option Addr) (c1 : Nat) (l1 : List (List Int)) (r : Bool) (w : World) (hr0 : Kd.C (Kd.slice 3 (Kd.int .i64)) w A0 l0.length l0) (hc0 : l0.length ≤ c0) (hr1 : Kd.C (Kd.slice 3 (Kd.int .i64)) w A1 l1.length l1) (hc1 : l1.length ≤ c1) (h : laws_eqIntSS.f k l0 l1 = some r) (hT_ : r = true := by first | rfl | assumption) :
  Calls Try.prog 43 #[.slice A0 l0.length c0, .slice A1 l1.length c1] w fun e w' => e = .returned (.bool r) ∧ Drawn0 w w' := by
 subst hT_
 have HR0 := Aside0.mk hr0
 have HC0 := Aside0.mk hc0
 clear hr0 hc0
 have HR1 := Aside0.mk hr1
 have HC1 := Aside0.mk hc1
 clear hr1 hc1
 have H : (if (l0.length : Int) = (l1.length : Int) then (laws_eqIntSS.l0 k l0 l1 0) else (some false)) = some true := h
 clear h
 by_cases c3 : (l0.length : Int) = (l1.length : Int)
 ·rw [if_pos c3] at H
  have c3b0 : ((l0.length : Int) == (l1.length : Int)) = true := beq_iff_eq.mpr c3
  have c3b1 : ((l0.length : Int) != (l1.length : Int)) = false := bne_eq_false_iff_eq.mpr c3
  have c3b2 : (l0.length == l1.length) = true := by first | simpa using c3 | (simp at c3 ⊢; omega)
  clear c3
  have H' := Aside0.mk H
  clear H
  go_enter Try.func43, Try.ntmps43
  go_wp2
  repeat (go_quiet (fail); try go_wp2)
  go_loopg [5] k (fun kq v5 w' => ∃ (x5_1 : Int), v5 = .int .i64 x5_1 ∧ Aside0 (laws_eqIntSS.l0 kq l0 l1 x5_1 = some true) ∧ Aside0 (kq ≤ k) ∧ Drawn0 w w')
  case atStart => exact ⟨(0), (by first | rfl | (simp; done) | (simp [*]; done)), H', ⟨Nat.le_refl _⟩, by repeat (first | exact Drawn0.refl _ | apply Drawn0.step)⟩
  case round =>
   clear H'
   try clear c1
   try clear p2
   try clear c3
   try clear c3b0
   try clear c3b1
   try clear c3b2
   obtain ⟨x5_1, rfl, HA, HK1, ⟨m1, rfl⟩⟩ := hrel
   cases gk with
   | zero => exact absurd HA.out (by simp [laws_eqIntSS.l0])
   | succ k1 =>
    have H := HA.out
    clear HA
    simp only [laws_eqIntSS.l0] at H
    by_cases c4 : x5_1 < (l0.length : Int)
    ·rw [if_pos c4] at H
     have c4b0 : decide (x5_1 < (l0.length : Int)) = true := decide_eq_true c4
     clear c4
     by_cases c5 : 0 ≤ x5_1
     ·rw [if_pos c5] at H
      have c5b0 : decide (0 ≤ x5_1) = true := decide_eq_true c5
      clear c5
      by_cases c6 : x5_1 < (l1.length : Int)
      ·rw [if_pos c6] at H
       have c6b0 : decide (x5_1 < (l1.length : Int)) = true := decide_eq_true c6
       clear c6
       replace H := Option.bind_eq_some_iff.mp H
       obtain ⟨t718, A70, H⟩ := H
       replace H : (if t718 = true then (laws_eqIntSS.l0 k1 l0 l1 (wrap64 (x5_1 + 1))) else (some false)) = some true := H
       have A7 := Aside0.mk A70
       clear A70
       by_cases c8 : t718 = true
       ·subst c8
        have H1 : (laws_eqIntSS.l0 k1 l0 l1 (wrap64 (x5_1 + 1))) = some true := by first | (rw [if_pos rfl] at H; exact H) | rfl
        clear H
        have H := H1
        clear H1
        have H' := Aside0.mk H
        clear H
        have p716 : 0 ≤ (x5_1 : Int) := of_decide_eq_true (by first | (with_reducible assumption) | assumption)
        have q716 : x5_1 < (l0.length : Int) := of_decide_eq_true (by first | (with_reducible assumption) | assumption)
        obtain ⟨ad716, A716_0, c716_0, e716, hx716_0, hl716_0, hi716_0⟩ := at_L18 HR0.out x5_1 p716 q716
        cases e716
        have HR716_0 := Aside0.mk hi716_0
        have HC716_0 := Aside0.mk hl716_0
        clear hi716_0 hl716_0
        replace p716 := eq_true p716
        replace q716 := eq_true q716
        have p717 : 0 ≤ (x5_1 : Int) := of_decide_eq_true (by first | (with_reducible assumption) | assumption)
        have q717 : x5_1 < (l1.length : Int) := of_decide_eq_true (by first | (with_reducible assumption) | assumption)
        obtain ⟨ad717, A717_0, c717_0, e717, hx717_0, hl717_0, hi717_0⟩ := at_L18 HR1.out x5_1 p717 q717
        cases e717
        have HR717_0 := Aside0.mk hi717_0
        have HC717_0 := Aside0.mk hl717_0
        clear hi717_0 hl717_0
        replace p717 := eq_true p717
        replace q717 := eq_true q717
        go_wp2_with (first | (go_at_call 34; (with_reducible refine (laws_eqIntS.calls k1 _ _ (rd_L18 l0 x5_1) _ _ (rd_L18 l1 x5_1) true _ ?side1 ?side2 ?side3 ?side4 A7.out).mono ?_); (case side1 => repeat (first | exact HR716_0.out | (with_reducible refine Kd.C_alloc ?_ _) | (with_reducible refine Kd.C_drewN ?_ _) | (with_reducible refine Kd.C_drew ?_))); (case side2 => exact HC716_0.out); (case side3 => repeat (first | exact HR717_0.out | (with_reducible refine Kd.C_alloc ?_ _) | (with_reducible refine Kd.C_drewN ?_ _) | (with_reducible refine Kd.C_drew ?_))); (case side4 => exact HC717_0.out); rintro e w' ⟨rfl, ⟨nd, rfl⟩⟩; (try first | exact ⟨rfl, _, World.drewN_drewN _ _ _⟩ | exact ⟨rfl, _, Eq.trans (World.drewN_drewN _ _ _) (congrArg (World.drewN _) (Nat.add_assoc _ _ _))⟩)))
        repeat (go_quiet (first | (go_at_call 34; (with_reducible refine (laws_eqIntS.calls k1 _ _ (rd_L18 l0 x5_1) _ _ (rd_L18 l1 x5_1) true _ ?side1 ?side2 ?side3 ?side4 A7.out).mono ?_); (case side1 => repeat (first | exact HR716_0.out | (with_reducible refine Kd.C_alloc ?_ _) | (with_reducible refine Kd.C_drewN ?_ _) | (with_reducible refine Kd.C_drew ?_))); (case side2 => exact HC716_0.out); (case side3 => repeat (first | exact HR717_0.out | (with_reducible refine Kd.C_alloc ?_ _) | (with_reducible refine Kd.C_drewN ?_ _) | (with_reducible refine Kd.C_drew ?_))); (case side4 => exact HC717_0.out); rintro e w' ⟨rfl, ⟨nd, rfl⟩⟩; (try first | exact ⟨rfl, _, World.drewN_drewN _ _ _⟩ | exact ⟨rfl, _, Eq.trans (World.drewN_drewN _ _ _) (congrArg (World.drewN _) (Nat.add_assoc _ _ _))⟩))); try go_wp2_with (first | (go_at_call 34; (with_reducible refine (laws_eqIntS.calls k1 _ _ (rd_L18 l0 x5_1) _ _ (rd_L18 l1 x5_1) true _ ?side1 ?side2 ?side3 ?side4 A7.out).mono ?_); (case side1 => repeat (first | exact HR716_0.out | (with_reducible refine Kd.C_alloc ?_ _) | (with_reducible refine Kd.C_drewN ?_ _) | (with_reducible refine Kd.C_drew ?_))); (case side2 => exact HC716_0.out); (case side3 => repeat (first | exact HR717_0.out | (with_reducible refine Kd.C_alloc ?_ _) | (with_reducible refine Kd.C_drewN ?_ _) | (with_reducible refine Kd.C_drew ?_))); (case side4 => exact HC717_0.out); rintro e w' ⟨rfl, ⟨nd, rfl⟩⟩; (try first | exact ⟨rfl, _, World.drewN_drewN _ _ _⟩ | exact ⟨rfl, _, Eq.trans (World.drewN_drewN _ _ _) (congrArg (World.drewN _) (Nat.add_assoc _ _ _))⟩))))
        go_roundg k1
        case measure => have := HK1.out; omega
        case rel => exact ⟨(wrap64 (x5_1 + 1)), (by first | rfl | (simp; done) | (simp [*]; done)), H', ⟨by have := HK1.out; omega⟩, by repeat (first | exact Drawn0.refl _ | apply Drawn0.step)⟩
       ·replace c8 := Bool.eq_false_iff.mpr c8
        subst c8
        have H1 : (some false) = some true := by first | (rw [if_neg (show ¬ (false = true) by decide)] at H; exact H) | rfl
        clear H
        have H := H1
        clear H1
        exact absurd (Option.some.inj H) (by decide)
      ·rw [if_neg c6] at H
       exact absurd H (by simp)
     ·rw [if_neg c5] at H
      exact absurd H (by simp)
    ·rw [if_neg c4] at H
     have c4b0 : decide (x5_1 < (l0.length : Int)) = false := decide_eq_false c4
     clear c4
     clear H
     go_wp2
     repeat (go_quiet (fail); try go_wp2)
     go_ret
     exact ⟨by first | rfl | (simp; done) | (simp [*]; done), by repeat (first | exact Drawn0.refl _ | apply Drawn0.step)⟩
 ·rw [if_neg c3] at H
  have c3b0 : ((l0.length : Int) == (l1.length : Int)) = false := beq_eq_false_iff_ne.mpr c3
  have c3b1 : ((l0.length : Int) != (l1.length : Int)) = true := bne_iff_ne.mpr c3
  have c3b2 : (l0.length == l1.length) = false := by first | simpa using c3 | (simp at c3 ⊢; omega)
  exact absurd (Option.some.inj H) (by decide)
def laws_eqAlphaS.l0 : Nat → List (S34) → List (S34) → Int → Option (Bool)
 | 0, _, _, _ => none
 | k + 1, x0, x1, x5 => if x5 < (x0.length : Int) then (if 0 ≤ x5 then (if x5 < (x1.length : Int) then ((laws_eqAlpha.f k ((rd_T34 x0 x5).f0) ((rd_T34 x0 x5).f1) ((rd_T34 x0 x5).f2) ((rd_T34 x1 x5).f0) ((rd_T34 x1 x5).f1) ((rd_T34 x1 x5).f2)).bind fun t721 => (if t721 = true then (laws_eqAlphaS.l0 k x0 x1 (wrap64 (x5 + 1))) else (some false))) else (none)) else (none)) else (some true)
def laws_eqAlphaS.f (k : Nat) (l0 : List (S34)) (l1 : List (S34)) : Option (Bool) := if (l0.length : Int) = (l1.length : Int) then (laws_eqAlphaS.l0 k l0 l1 0) else (some false)
theorem laws_eqAlphaS.mono_l : ∀ k, (∀ y0 y1 y2, LeO (laws_eqAlphaS.l0 k y0 y1 y2) (laws_eqAlphaS.l0 (k + 1) y0 y1 y2))
 | 0 => fun _ _ _ r h => by simp [laws_eqAlphaS.l0] at h
 | k + 1 => by
  have ih0 := laws_eqAlphaS.mono_l k
  ·intro y0 y1 y2
   unfold laws_eqAlphaS.l0
   repeat' first
   | (with_reducible exact ih0 _ _ _)
   | (with_reducible exact laws_eqAlpha.mono _ _ _ _ _ _ _)
   | (with_reducible exact LeO.refl _)
   | (with_reducible exact LeO.none _)
   | (with_reducible refine LeO.ite ?_ ?_)
   | (with_reducible refine LeO.bind ?_ (fun _ => ?_))
   | exact ih0 _ _ _
   | exact laws_eqAlpha.mono _ _ _ _ _ _ _
   | exact LeO.none _
   | refine LeO.ite ?_ ?_
   | refine LeO.bind ?_ (fun _ => ?_)
theorem laws_eqAlphaS.mono : ∀ a0 a1 k, LeO (laws_eqAlphaS.f k a0 a1) (laws_eqAlphaS.f (k + 1) a0 a1) := by
 intro a0 a1 k
 have ih0 := laws_eqAlphaS.mono_l k
 unfold laws_eqAlphaS.f
 repeat' first
   | (with_reducible exact ih0 _ _ _)
   | (with_reducible exact laws_eqAlpha.mono _ _ _ _ _ _ _)
   | (with_reducible exact LeO.refl _)
   | (with_reducible exact LeO.none _)
   | (with_reducible refine LeO.ite ?_ ?_)
   | (with_reducible refine LeO.bind ?_ (fun _ => ?_))
   | exact ih0 _ _ _
   | exact laws_eqAlpha.mono _ _ _ _ _ _ _
   | exact LeO.none _
   | refine LeO.ite ?_ ?_
   | refine LeO.bind ?_ (fun _ => ?_)
def laws_eqAlphaS.T6 : Bool × List (List Nat × List Nat) := (true, [([], []), ([], []), ([0, 1], [0, 1]), ([2], [2]), ([], []), ([], []), ([4, 5], [4, 5]), ([6], [6]), ([3, 7], [3, 7]), ([8], [8])])
def laws_eqAlphaS.B6 : List Nat := [0, 0, 3, 7, 0, 0, 48, 112, 255, 511]
theorem laws_eqAlphaS.tab6 : rtab .any (opsOf Try.f86 6) = laws_eqAlphaS.T6 := by kernel_rfl
theorem laws_eqAlphaS.bits6 : waitsOk laws_eqAlphaS.T6.2 laws_eqAlphaS.B6 = true := by kernel_rfl
set_option maxHeartbeats 8000000 in
set_option maxRecDepth 100000 in
theorem laws_eqAlphaS.calls (k : Nat) (A0 : Option Addr) (c0 : Nat) (l0 : List (S34)) (A1 : Option Addr) (c1 : Nat) (l1 : List (S34)) (r : Bool) (w : World) (hr0 : Kd.C k34 w A0 l0.length l0) (hc0 : l0.length ≤ c0) (hr1 : Kd.C k34 w A1 l1.length l1) (hc1 : l1.length ≤ c1) (h : laws_eqAlphaS.f k l0 l1 = some r) (hT_ : r = true := by first | rfl | assumption) :
  Calls Try.prog 86 #[.slice A0 l0.length c0, .slice A1 l1.length c1] w fun e w' => e = .returned (.bool r) ∧ Below w.heap.size w w' := by
 subst hT_
 have hu34 := Try.underlying34
 have HR0 := Aside0.mk hr0
 have HC0 := Aside0.mk hc0
 clear hr0 hc0
 have HR1 := Aside0.mk hr1
 have HC1 := Aside0.mk hc1
 clear hr1 hc1
 have HB := Aside0.mk (Below.refl w.heap.size w)
 have H : (if (l0.length : Int) = (l1.length : Int) then (laws_eqAlphaS.l0 k l0 l1 0) else (some false)) = some true := h
 clear h
 by_cases c3 : (l0.length : Int) = (l1.length : Int)
 ·rw [if_pos c3] at H
  have c3b0 : ((l0.length : Int) == (l1.length : Int)) = true := beq_iff_eq.mpr c3
  have c3b1 : ((l0.length : Int) != (l1.length : Int)) = false := bne_eq_false_iff_eq.mpr c3
  have c3b2 : (l0.length == l1.length) = true := by first | simpa using c3 | (simp at c3 ⊢; omega)
  clear c3
  have H' := Aside0.mk H
  clear H
  go_enter Try.func86, Try.ntmps86
  go_wp2
  go_loopg [5] k (fun kq v5 w' => ∃ (x5_1 : Int), v5 = .int .i64 x5_1 ∧ Aside0 (laws_eqAlphaS.l0 kq l0 l1 x5_1 = some true) ∧ Aside0 (kq ≤ k) ∧ Aside0 (Below w.heap.size w w'))
  case atStart => exact ⟨(0), (by first | rfl | (simp; done) | (simp [*]; done)), H', ⟨Nat.le_refl _⟩, ⟨by repeat (first | (with_reducible first | exact HB.out | apply below_alloc | apply pw_below_drewN | apply below_drew1) | exact HB.out)⟩⟩
  case round =>
   clear H'
   try clear c1
   try clear p2
   try clear c3
   try clear c3b0
   try clear c3b1
   try clear c3b2
   obtain ⟨x5_1, rfl, HA, HK1, HB⟩ := hrel
   cases gk with
   | zero => exact absurd HA.out (by simp [laws_eqAlphaS.l0])
   | succ k1 =>
    have H := HA.out
    clear HA
    simp only [laws_eqAlphaS.l0] at H
    by_cases c4 : x5_1 < (l0.length : Int)
    ·rw [if_pos c4] at H
     have c4b0 : decide (x5_1 < (l0.length : Int)) = true := decide_eq_true c4
     clear c4
     by_cases c5 : 0 ≤ x5_1
     ·rw [if_pos c5] at H
      have c5b0 : decide (0 ≤ x5_1) = true := decide_eq_true c5
      clear c5
      by_cases c6 : x5_1 < (l1.length : Int)
      ·rw [if_pos c6] at H
       have c6b0 : decide (x5_1 < (l1.length : Int)) = true := decide_eq_true c6
       clear c6
       replace H := Option.bind_eq_some_iff.mp H
       obtain ⟨t721, A70, H⟩ := H
       replace H : (if t721 = true then (laws_eqAlphaS.l0 k1 l0 l1 (wrap64 (x5_1 + 1))) else (some false)) = some true := H
       have A7 := Aside0.mk A70
       clear A70
       by_cases c8 : t721 = true
       ·subst c8
        have H1 : (laws_eqAlphaS.l0 k1 l0 l1 (wrap64 (x5_1 + 1))) = some true := by first | (rw [if_pos rfl] at H; exact H) | rfl
        clear H
        have H := H1
        clear H1
        have H' := Aside0.mk H
        clear H
        try go_wp2
        have n0_ := Aside0.mk (below_drew1 HB.out)
        clear HB
        have HB := n0_
        clear n0_
        have p719 : 0 ≤ (x5_1 : Int) := of_decide_eq_true (by first | (with_reducible assumption) | assumption)
        have q719 : x5_1 < (l0.length : Int) := of_decide_eq_true (by first | (with_reducible assumption) | assumption)
        obtain ⟨ad719, A719_2, c719_2, e719, hx719_0, hx719_1, hx719_2, hl719_2, hi719_2⟩ := at_T34 HR0.out x5_1 p719 q719
        have hw719_2 := hx719_2
        have hw719_1 := hx719_1
        have hw719_0 := hx719_0
        cases e719
        replace hx719_0 := (HB.out.cell (World.block_lt_of_cell? w _ hx719_0)).trans hx719_0
        replace hx719_1 := (HB.out.cell (World.block_lt_of_cell? w _ hx719_1)).trans hx719_1
        replace hx719_2 := (HB.out.cell (World.block_lt_of_cell? w _ hx719_2)).trans hx719_2
        have HR719_2 := Aside0.mk hi719_2
        have HC719_2 := Aside0.mk hl719_2
        clear hi719_2 hl719_2
        replace p719 := eq_true p719
        replace q719 := eq_true q719
        have p720 : 0 ≤ (x5_1 : Int) := of_decide_eq_true (by first | (with_reducible assumption) | assumption)
        have q720 : x5_1 < (l1.length : Int) := of_decide_eq_true (by first | (with_reducible assumption) | assumption)
        obtain ⟨ad720, A720_2, c720_2, e720, hx720_0, hx720_1, hx720_2, hl720_2, hi720_2⟩ := at_T34 HR1.out x5_1 p720 q720
        have hw720_2 := hx720_2
        have hw720_1 := hx720_1
        have hw720_0 := hx720_0
        cases e720
        replace hx720_0 := (HB.out.cell (World.block_lt_of_cell? w _ hx720_0)).trans hx720_0
        replace hx720_1 := (HB.out.cell (World.block_lt_of_cell? w _ hx720_1)).trans hx720_1
        replace hx720_2 := (HB.out.cell (World.block_lt_of_cell? w _ hx720_2)).trans hx720_2
        have HR720_2 := Aside0.mk hi720_2
        have HC720_2 := Aside0.mk hl720_2
        clear hi720_2 hl720_2
        replace p720 := eq_true p720
        replace q720 := eq_true q720
        refine start_ (n := 10) (S := fun w' => w'.cell? (ad719.add ((x5_1).toNat * 3)) = some (.string ((rd_T34 l0 x5_1).f0)) ∧ w'.cell? ⟨(ad719.add ((x5_1).toNat * 3)).block, (ad719.add ((x5_1).toNat * 3)).off + 1, none⟩ = some (.int .i64 ((rd_T34 l0 x5_1).f1)) ∧ w'.cell? ⟨(ad719.add ((x5_1).toNat * 3)).block, (ad719.add ((x5_1).toNat * 3)).off + 2, none⟩ = some (.slice A719_2 ((rd_T34 l0 x5_1).f2).length c719_2) ∧ w'.cell? (ad720.add ((x5_1).toNat * 3)) = some (.string ((rd_T34 l1 x5_1).f0)) ∧ w'.cell? ⟨(ad720.add ((x5_1).toNat * 3)).block, (ad720.add ((x5_1).toNat * 3)).off + 1, none⟩ = some (.int .i64 ((rd_T34 l1 x5_1).f1)) ∧ w'.cell? ⟨(ad720.add ((x5_1).toNat * 3)).block, (ad720.add ((x5_1).toNat * 3)).off + 2, none⟩ = some (.slice A720_2 ((rd_T34 l1 x5_1).f2).length c720_2)) (ds := []) #[false, false, false, false, false, false, false, false, false, false] (by kernel_rfl) rfl rfl ⟨((HB.out.cell (World.block_lt_of_cell? w _ hw719_0)).trans hw719_0), ((HB.out.cell (World.block_lt_of_cell? w _ hw719_1)).trans hw719_1), ((HB.out.cell (World.block_lt_of_cell? w _ hw719_2)).trans hw719_2), ((HB.out.cell (World.block_lt_of_cell? w _ hw720_0)).trans hw720_0), ((HB.out.cell (World.block_lt_of_cell? w _ hw720_1)).trans hw720_1), ((HB.out.cell (World.block_lt_of_cell? w _ hw720_2)).trans hw720_2)⟩ (fun hHeld => ?_); refine with_tabW laws_eqAlphaS.tab6 laws_eqAlphaS.bits6 (fun HT_ HW_ => ?_)
        generalize wr.drew = w9 at HB HR719_2 HR720_2 hx719_0 hx719_1 hx719_2 hx720_0 hx720_1 hx720_2 hHeld ⊢
        refine pure_ (i := 0) (N := some 17) (v := ?_) (a' := ?_) #[true, false, false, false, false, false, false, false, false, false] rfl rfl (any_of HT_.out (by kernel_rfl)) (fun _ _ _ h => h) (Or.inl ⟨by rfl, ?_⟩) ?_ ?_
        rotate_left
        ·intro w'
         go_simp
         with_reducible rfl
        rotate_left
        ·simp only [Act.put, List.setIfInBounds_toArray, List.set_cons_zero, List.set_cons_succ, i64_w, i32_w]
         rfl
        refine pure_ (i := 1) (N := some 18) (v := ?_) (a' := ?_) #[true, true, false, false, false, false, false, false, false, false] rfl rfl (any_of HT_.out (by kernel_rfl)) (fun _ _ _ h => h) (Or.inl ⟨by rfl, ?_⟩) ?_ ?_
        rotate_left
        ·intro w'
         go_simp
         with_reducible rfl
        rotate_left
        ·simp only [Act.put, List.setIfInBounds_toArray, List.set_cons_zero, List.set_cons_succ, i64_w, i32_w]
         rfl
        refine pure_ (i := 2) (N := some 19) (v := ?_) (a' := ?_) #[true, true, true, false, false, false, false, false, false, false] rfl rfl (any_of HT_.out (by kernel_rfl)) (fun _ _ _ h => h) (Or.inl ⟨by rfl, ?_⟩) ?_ ?_
        rotate_left
        ·intro w'
         go_simp
         with_reducible rfl
        rotate_left
        ·simp only [Act.put, List.setIfInBounds_toArray, List.set_cons_zero, List.set_cons_succ, i64_w, i32_w]
         rfl
        refine pure_ (i := 4) (N := some 21) (v := ?_) (a' := ?_) #[true, true, true, false, true, false, false, false, false, false] rfl rfl (any_of HT_.out (by kernel_rfl)) (fun _ _ _ h => h) (Or.inl ⟨by rfl, ?_⟩) ?_ ?_
        rotate_left
        ·intro w'
         go_simp
         with_reducible rfl
        rotate_left
        ·simp only [Act.put, List.setIfInBounds_toArray, List.set_cons_zero, List.set_cons_succ, i64_w, i32_w]
         rfl
        refine pure_ (i := 5) (N := some 22) (v := ?_) (a' := ?_) #[true, true, true, false, true, true, false, false, false, false] rfl rfl (any_of HT_.out (by kernel_rfl)) (fun _ _ _ h => h) (Or.inl ⟨by rfl, ?_⟩) ?_ ?_
        rotate_left
        ·intro w'
         go_simp
         with_reducible rfl
        rotate_left
        ·simp only [Act.put, List.setIfInBounds_toArray, List.set_cons_zero, List.set_cons_succ, i64_w, i32_w]
         rfl
        refine pure_ (i := 6) (N := some 23) (v := ?_) (a' := ?_) #[true, true, true, false, true, true, true, false, false, false] rfl rfl (any_of HT_.out (by kernel_rfl)) (fun _ _ _ h => h) (Or.inl ⟨by rfl, ?_⟩) ?_ ?_
        rotate_left
        ·intro w'
         go_simp
         with_reducible rfl
        rotate_left
        ·simp only [Act.put, List.setIfInBounds_toArray, List.set_cons_zero, List.set_cons_succ, i64_w, i32_w]
         rfl
        refine take_ (i := 3) (N := some 20) (v := ?_) (a' := ?_) #[true, true, true, true, true, true, true, false, false, false] rfl rfl (take_ofW HT_.out HW_.out (by kernel_rfl)) (fun _ _ _ h => h) (Or.inl ⟨by rfl, ?_⟩) hHeld ?_ ?_
        rotate_left
        ·rintro w' ⟨s0, s1, s2, s3, s4, s5⟩
         go_simp
         with_reducible rfl
        rotate_left
        ·simp only [Act.put, List.setIfInBounds_toArray, List.set_cons_zero, List.set_cons_succ, i64_w, i32_w]
         rfl
        refine take_ (i := 7) (N := some 24) (v := ?_) (a' := ?_) #[true, true, true, true, true, true, true, true, false, false] rfl rfl (take_ofW HT_.out HW_.out (by kernel_rfl)) (fun _ _ _ h => h) (Or.inl ⟨by rfl, ?_⟩) hHeld ?_ ?_
        rotate_left
        ·rintro w' ⟨s0, s1, s2, s3, s4, s5⟩
         go_simp
         with_reducible rfl
        rotate_left
        ·simp only [Act.put, List.setIfInBounds_toArray, List.set_cons_zero, List.set_cons_succ, i64_w, i32_w]
         rfl
        refine one_ (i := 8) (N := some 25) #[true, true, true, true, true, true, true, true, true, false] rfl rfl (one_of HT_.out (by kernel_rfl)) (by decide) (fun K hK => ?_)
        refine goes_ Try.func16 (by kernel_rfl) rfl #[.agg #[.string ((rd_T34 l0 x5_1).f0), .int .i64 ((rd_T34 l0 x5_1).f1), .slice A719_2 ((rd_T34 l0 x5_1).f2).length c719_2], .agg #[.string ((rd_T34 l1 x5_1).f0), .int .i64 ((rd_T34 l1 x5_1).f1), .slice A720_2 ((rd_T34 l1 x5_1).f2).length c720_2]] (by rfl) rfl rfl (by (try simp only [List.map_toArray, List.map_cons, List.map_nil]); first | done | rfl | (simp only [List.length_drop, List.length_take]; rfl)) ?_
        with_reducible refine (laws_eqAlpha.calls k1 ((rd_T34 l0 x5_1).f0) ((rd_T34 l0 x5_1).f1) _ _ ((rd_T34 l0 x5_1).f2) ((rd_T34 l1 x5_1).f0) ((rd_T34 l1 x5_1).f1) _ _ ((rd_T34 l1 x5_1).f2) true _ ?side1 ?side2 ?side3 ?side4 A7.out).mono ?_
        (case side1 => repeat (first | exact (Kd.C_below HR719_2.out HB.out) | (with_reducible refine Kd.C_alloc ?_ _) | (with_reducible refine Kd.C_drewN ?_ _) | (with_reducible refine Kd.C_drew ?_)))
        (case side2 => exact HC719_2.out)
        (case side3 => repeat (first | exact (Kd.C_below HR720_2.out HB.out) | (with_reducible refine Kd.C_alloc ?_ _) | (with_reducible refine Kd.C_drewN ?_ _) | (with_reducible refine Kd.C_drew ?_)))
        (case side4 => exact HC720_2.out)
        rintro e w10 ⟨rfl, hb⟩
        refine ⟨_, rfl, ?_⟩
        have n0_ := Aside0.mk (below_step (by repeat (first | (with_reducible first | exact HB.out | apply below_alloc | apply pw_below_drewN | apply below_drew1) | exact HB.out)) hb)
        clear HB
        have HB := n0_
        clear n0_
        (try clear hb)
        (try clear hb2)
        (try clear hk)
        (try clear hi)
        refine hK.out _ _ ⟨((HB.out.cell (World.block_lt_of_cell? w _ hw719_0)).trans hw719_0), ((HB.out.cell (World.block_lt_of_cell? w _ hw719_1)).trans hw719_1), ((HB.out.cell (World.block_lt_of_cell? w _ hw719_2)).trans hw719_2), ((HB.out.cell (World.block_lt_of_cell? w _ hw720_0)).trans hw720_0), ((HB.out.cell (World.block_lt_of_cell? w _ hw720_1)).trans hw720_1), ((HB.out.cell (World.block_lt_of_cell? w _ hw720_2)).trans hw720_2)⟩ (fun hHeld => ?_)
        clear hK K
        refine norm_ (a' := ?_) ?_ ?_
        rotate_left
        ·show Act.put _ (some 25) _ = _
         simp only [Act.put, List.setIfInBounds_toArray, List.set_cons_zero, List.set_cons_succ, i64_w, i32_w]
         rfl
        refine pure_ (i := 9) (N := some 26) (v := ?_) (a' := ?_) #[true, true, true, true, true, true, true, true, true, true] rfl rfl (any_of HT_.out (by kernel_rfl)) (fun _ _ _ h => h) (Or.inl ⟨by rfl, ?_⟩) ?_ ?_
        rotate_left
        ·intro w'
         go_simp
         with_reducible rfl
        rotate_left
        ·simp only [Act.put, List.setIfInBounds_toArray, List.set_cons_zero, List.set_cons_succ, i64_w, i32_w]
         rfl
        refine done_ (done_of HT_.out (by kernel_rfl)) ?_
        try go_wp2
        go_roundg k1
        case measure => have := HK1.out; omega
        case rel => exact ⟨(wrap64 (x5_1 + 1)), (by first | rfl | (simp; done) | (simp [*]; done)), H', ⟨by have := HK1.out; omega⟩, ⟨by repeat (first | (with_reducible first | exact HB.out | apply below_alloc | apply pw_below_drewN | apply below_drew1) | exact HB.out)⟩⟩
       ·replace c8 := Bool.eq_false_iff.mpr c8
        subst c8
        have H1 : (some false) = some true := by first | (rw [if_neg (show ¬ (false = true) by decide)] at H; exact H) | rfl
        clear H
        have H := H1
        clear H1
        exact absurd (Option.some.inj H) (by decide)
      ·rw [if_neg c6] at H
       exact absurd H (by simp)
     ·rw [if_neg c5] at H
      exact absurd H (by simp)
    ·rw [if_neg c4] at H
     have c4b0 : decide (x5_1 < (l0.length : Int)) = false := decide_eq_false c4
     clear c4
     clear H
     go_wp2
     go_ret
     exact ⟨by first | rfl | (simp [errW_none, errW_some] <;> rfl) | (simp [*, errW_none, errW_some] <;> rfl), by repeat (first | (with_reducible first | exact HB.out | apply below_alloc | apply pw_below_drewN | apply below_drew1) | exact HB.out)⟩
 ·rw [if_neg c3] at H
  have c3b0 : ((l0.length : Int) == (l1.length : Int)) = false := beq_eq_false_iff_ne.mpr c3
  have c3b1 : ((l0.length : Int) != (l1.length : Int)) = true := bne_iff_ne.mpr c3
  have c3b2 : (l0.length == l1.length) = false := by first | simpa using c3 | (simp at c3 ⊢; omega)
  exact absurd (Option.some.inj H) (by decide)
def laws_eqNet.f (k : Nat) (l0_0 : List (S34)) (l0_1 : List (List Int)) (l1_0 : List (S34)) (l1_1 : List (List Int)) : Option (Bool) := (laws_eqAlphaS.f k l0_0 l1_0).bind fun t724 => (if t724 = true then ((laws_eqIntSS.f k l0_1 l1_1).bind fun t725 => (if t725 = true then (some true) else (some false))) else (some false))
theorem laws_eqNet.mono : ∀ a0 a1 a2 a3 k, LeO (laws_eqNet.f k a0 a1 a2 a3) (laws_eqNet.f (k + 1) a0 a1 a2 a3) := by
 intro a0 a1 a2 a3 k
 unfold laws_eqNet.f
 repeat' first
   | (with_reducible exact laws_eqAlphaS.mono _ _ _)
   | (with_reducible exact laws_eqIntSS.mono _ _ _)
   | (with_reducible exact LeO.refl _)
   | (with_reducible exact LeO.none _)
   | (with_reducible refine LeO.ite ?_ ?_)
   | (with_reducible refine LeO.bind ?_ (fun _ => ?_))
   | exact laws_eqAlphaS.mono _ _ _
   | exact laws_eqIntSS.mono _ _ _
   | exact LeO.none _
   | refine LeO.ite ?_ ?_
   | refine LeO.bind ?_ (fun _ => ?_)
set_option maxHeartbeats 8000000 in
set_option maxRecDepth 100000 in
theorem laws_eqNet.calls (k : Nat) (A0_0 : Option Addr) (c0_0 : Nat) (l0_0 : List (S34)) (A0_1 : Option Addr) (c0_1 : Nat) (l0_1 : List (List Int)) (A1_0 : Option Addr) (c1_0 : Nat) (l1_0 : List (S34)) (A1_1 : Option Addr) (c1_1 : Nat) (l1_1 : List (List Int)) (r : Bool) (w : World) (hr0_0 : Kd.C k34 w A0_0 l0_0.length l0_0) (hc0_0 : l0_0.length ≤ c0_0) (hr0_1 : Kd.C (Kd.slice 3 (Kd.int .i64)) w A0_1 l0_1.length l0_1) (hc0_1 : l0_1.length ≤ c0_1) (hr1_0 : Kd.C k34 w A1_0 l1_0.length l1_0) (hc1_0 : l1_0.length ≤ c1_0) (hr1_1 : Kd.C (Kd.slice 3 (Kd.int .i64)) w A1_1 l1_1.length l1_1) (hc1_1 : l1_1.length ≤ c1_1) (h : laws_eqNet.f k l0_0 l0_1 l1_0 l1_1 = some r) (hT_ : r = true := by first | rfl | assumption) :
  Calls Try.prog 44 #[.agg #[.slice A0_0 l0_0.length c0_0, .slice A0_1 l0_1.length c0_1], .agg #[.slice A1_0 l1_0.length c1_0, .slice A1_1 l1_1.length c1_1]] w fun e w' => e = .returned (.bool r) ∧ Below w.heap.size w w' := by
 subst hT_
 have hu81 := Try.underlying81
 have HR0_0 := Aside0.mk hr0_0
 have HC0_0 := Aside0.mk hc0_0
 clear hr0_0 hc0_0
 have HR0_1 := Aside0.mk hr0_1
 have HC0_1 := Aside0.mk hc0_1
 clear hr0_1 hc0_1
 have HR1_0 := Aside0.mk hr1_0
 have HC1_0 := Aside0.mk hc1_0
 clear hr1_0 hc1_0
 have HR1_1 := Aside0.mk hr1_1
 have HC1_1 := Aside0.mk hc1_1
 clear hr1_1 hc1_1
 have HB := Aside0.mk (Below.refl w.heap.size w)
 have H : ((laws_eqAlphaS.f k l0_0 l1_0).bind fun t724 => (if t724 = true then ((laws_eqIntSS.f k l0_1 l1_1).bind fun t725 => (if t725 = true then (some true) else (some false))) else (some false))) = some true := h
 clear h
 replace H := Option.bind_eq_some_iff.mp H
 obtain ⟨t724, A30, H⟩ := H
 replace H : (if t724 = true then ((laws_eqIntSS.f k l0_1 l1_1).bind fun t725 => (if t725 = true then (some true) else (some false))) else (some false)) = some true := H
 have A3 := Aside0.mk A30
 clear A30
 by_cases c4 : t724 = true
 ·subst c4
  have H1 : ((laws_eqIntSS.f k l0_1 l1_1).bind fun t725 => (if t725 = true then (some true) else (some false))) = some true := by first | (rw [if_pos rfl] at H; exact H) | rfl
  clear H
  have H := H1
  clear H1
  replace H := Option.bind_eq_some_iff.mp H
  obtain ⟨t725, A50, H⟩ := H
  replace H : (if t725 = true then (some true) else (some false)) = some true := H
  have A5 := Aside0.mk A50
  clear A50
  by_cases c6 : t725 = true
  ·subst c6
   have H1 : (some true) = some true := by first | (rw [if_pos rfl] at H; exact H) | rfl
   clear H
   have H := H1
   clear H1
   clear H
   go_enter Try.func44, Try.ntmps44
   go_wp2_with (first | ((with_reducible refine gate_dst (N := 2) rfl ?_); refine box_event ?hg (N := 2) ?hd (cs := #[.slice A0_0 l0_0.length c0_0, .slice A0_1 l0_1.length c0_1]) (t := 81) ?hr ?_; (case hd => rfl); (case hg => rfl); (case hr => first | (go_simp; done) | (go_simp; rfl)); intro gb722 hg w7 hbox hb; have n0_ := Aside0.mk (below_step (by repeat (first | (with_reducible first | exact HB.out | apply below_alloc | apply pw_below_drewN | apply below_drew1) | exact HB.out)) hb); have n1_ := Aside0.mk (hbox); have n2_ := Aside0.mk ((by rw [hg]; exact (below_size (by repeat (first | (with_reducible first | exact HB.out | apply below_alloc | apply pw_below_drewN | apply below_drew1) | exact HB.out))) : w.heap.size ≤ gb722)); have n3_ := Aside0.mk ((by rw [hg]; exact (below_size (by repeat (first | (with_reducible first | exact HB.out | apply below_alloc | apply pw_below_drewN | apply below_drew1) | exact HB.out))) : w.heap.size ≤ gb722)); clear HB; have HB := n0_; have BK722 := n1_; have GW722 := n2_; have GE722 := n3_; clear n0_ n1_ n2_ n3_; clear hb hbox hg) | ((with_reducible refine gate_dst (N := 3) rfl ?_); refine box_event ?hg (N := 3) ?hd (cs := #[.slice A1_0 l1_0.length c1_0, .slice A1_1 l1_1.length c1_1]) (t := 81) ?hr ?_; (case hd => rfl); (case hg => rfl); (case hr => first | (go_simp; done) | (go_simp; rfl)); intro gb723 hg w8 hbox hb; have n0_ := Aside0.mk (blk_below (g := gb722) (o := .cells #[.slice A0_0 l0_0.length c0_0, .slice A0_1 l0_1.length c0_1] 81 (0, 0)) (by (with_reducible repeat (first | refine blk_drewN ?_ _ | refine blk_drew ?_ | refine blk_alloc ?_ _)); exact BK722.out) hb); have n1_ := Aside0.mk (below_step (by repeat (first | (with_reducible first | exact HB.out | apply below_alloc | apply pw_below_drewN | apply below_drew1 | refine below_set ?_ GE722.out) | exact HB.out)) hb); have n2_ := Aside0.mk (hbox); have n3_ := Aside0.mk ((by rw [hg]; exact (below_size (by repeat (first | (with_reducible first | exact HB.out | apply below_alloc | apply pw_below_drewN | apply below_drew1 | refine below_set ?_ GE722.out) | exact HB.out))) : w.heap.size ≤ gb723)); have n4_ := Aside0.mk ((by rw [hg]; exact (below_size (by repeat (first | (with_reducible first | exact HB.out | apply below_alloc | apply pw_below_drewN | apply below_drew1 | refine below_set ?_ GE722.out) | exact HB.out))) : w.heap.size ≤ gb723)); have n5_ := Aside0.mk ((by rw [hg]; exact Nat.ne_of_lt (blk_lt (g := gb722) (o := .cells #[.slice A0_0 l0_0.length c0_0, .slice A0_1 l0_1.length c0_1] 81 (0, 0)) (by (with_reducible repeat (first | refine blk_drewN ?_ _ | refine blk_drew ?_ | refine blk_alloc ?_ _)); exact BK722.out)) : gb722 ≠ gb723)); have n6_ := Aside0.mk ((by rw [hg]; exact Nat.ne_of_gt (blk_lt (g := gb722) (o := .cells #[.slice A0_0 l0_0.length c0_0, .slice A0_1 l0_1.length c0_1] 81 (0, 0)) (by (with_reducible repeat (first | refine blk_drewN ?_ _ | refine blk_drew ?_ | refine blk_alloc ?_ _)); exact BK722.out)) : gb723 ≠ gb722)); clear BK722; clear HB; have BK722 := n0_; have HB := n1_; have BK723 := n2_; have GW723 := n3_; have GE723 := n4_; have NB722_723 := n5_; have NB723_722 := n6_; clear n0_ n1_ n2_ n3_ n4_ n5_ n6_; clear hb hbox hg; have hnb9 := NB722_723.out; have hnc9 := NB723_722.out; have hcz10_0 : w8.cell? ⟨gb722, 0, none⟩ = some (.slice A0_0 l0_0.length c0_0) := (blk_cell BK722.out 0).trans rfl; have hcz10_1 : w8.cell? ⟨gb722, 1, none⟩ = some (.slice A0_1 l0_1.length c0_1) := (blk_cell BK722.out 1).trans rfl; have hfz10_0 := blk_frozen BK722.out 0; have hfz10_1 := blk_frozen BK722.out 1; have hcz11_0 : w8.cell? ⟨gb723, 0, none⟩ = some (.slice A1_0 l1_0.length c1_0) := (blk_cell BK723.out 0).trans rfl; have hcz11_1 : w8.cell? ⟨gb723, 1, none⟩ = some (.slice A1_1 l1_1.length c1_1) := (blk_cell BK723.out 1).trans rfl; have hfz11_0 := blk_frozen BK723.out 0; have hfz11_1 := blk_frozen BK723.out 1) | ((with_reducible refine gate_callee (f := 86) rfl ?_); refine goesL_ (some 9) rfl rfl Try.func86 (by kernel_rfl) rfl #[.slice A0_0 l0_0.length c0_0, .slice A1_0 l1_0.length c1_0] rfl (by (try simp only [List.map_toArray, List.map_cons, List.map_nil]); first | done | rfl | (simp only [List.length_drop, List.length_take]; rfl)) ?_; (with_reducible refine (laws_eqAlphaS.calls k _ _ l0_0 _ _ l1_0 true _ ?side1 ?side2 ?side3 ?side4 A3.out).mono ?_); (case side1 => repeat (first | exact (Kd.C_below HR0_0.out HB.out) | (with_reducible refine Kd.C_alloc ?_ _) | (with_reducible refine Kd.C_drewN ?_ _) | (with_reducible refine Kd.C_drew ?_))); (case side2 => exact HC0_0.out); (case side3 => repeat (first | exact (Kd.C_below HR1_0.out HB.out) | (with_reducible refine Kd.C_alloc ?_ _) | (with_reducible refine Kd.C_drewN ?_ _) | (with_reducible refine Kd.C_drew ?_))); (case side4 => exact HC1_0.out); rintro e w12 ⟨rfl, hb⟩; refine ⟨_, rfl, ?_⟩; have n0_ := Aside0.mk (blk_below (g := gb722) (o := .cells #[.slice A0_0 l0_0.length c0_0, .slice A0_1 l0_1.length c0_1] 81 (0, 0)) (by (with_reducible repeat (first | refine blk_drewN ?_ _ | refine blk_drew ?_ | refine blk_alloc ?_ _)); exact BK722.out) hb); have n1_ := Aside0.mk (blk_below (g := gb723) (o := .cells #[.slice A1_0 l1_0.length c1_0, .slice A1_1 l1_1.length c1_1] 81 (0, 0)) (by (with_reducible repeat (first | refine blk_drewN ?_ _ | refine blk_drew ?_ | refine blk_alloc ?_ _)); exact BK723.out) hb); have n2_ := Aside0.mk (below_step (by repeat (first | (with_reducible first | exact HB.out | apply below_alloc | apply pw_below_drewN | apply below_drew1 | refine below_set ?_ GE722.out | refine below_set ?_ GE723.out) | exact HB.out)) hb); clear BK722; clear BK723; clear HB; have BK722 := n0_; have BK723 := n1_; have HB := n2_; clear n0_ n1_ n2_; (try clear hb); (try clear hb2); (try clear hk); (try clear hi); have hcz13_0 : w12.cell? ⟨gb722, 0, none⟩ = some (.slice A0_0 l0_0.length c0_0) := (blk_cell BK722.out 0).trans rfl; have hcz13_1 : w12.cell? ⟨gb722, 1, none⟩ = some (.slice A0_1 l0_1.length c0_1) := (blk_cell BK722.out 1).trans rfl; have hfz13_0 := blk_frozen BK722.out 0; have hfz13_1 := blk_frozen BK722.out 1; have hcz14_0 : w12.cell? ⟨gb723, 0, none⟩ = some (.slice A1_0 l1_0.length c1_0) := (blk_cell BK723.out 0).trans rfl; have hcz14_1 : w12.cell? ⟨gb723, 1, none⟩ = some (.slice A1_1 l1_1.length c1_1) := (blk_cell BK723.out 1).trans rfl; have hfz14_0 := blk_frozen BK723.out 0; have hfz14_1 := blk_frozen BK723.out 1) | ((with_reducible refine gate_callee (f := 43) rfl ?_); refine goesL_ (some 15) rfl rfl Try.func43 (by kernel_rfl) rfl #[.slice A0_1 l0_1.length c0_1, .slice A1_1 l1_1.length c1_1] rfl (by (try simp only [List.map_toArray, List.map_cons, List.map_nil]); first | done | rfl | (simp only [List.length_drop, List.length_take]; rfl)) ?_; (with_reducible refine (laws_eqIntSS.calls k _ _ l0_1 _ _ l1_1 true _ ?side1 ?side2 ?side3 ?side4 A5.out).mono ?_); (case side1 => repeat (first | exact (Kd.C_below HR0_1.out HB.out) | (with_reducible refine Kd.C_alloc ?_ _) | (with_reducible refine Kd.C_drewN ?_ _) | (with_reducible refine Kd.C_drew ?_))); (case side2 => exact HC0_1.out); (case side3 => repeat (first | exact (Kd.C_below HR1_1.out HB.out) | (with_reducible refine Kd.C_alloc ?_ _) | (with_reducible refine Kd.C_drewN ?_ _) | (with_reducible refine Kd.C_drew ?_))); (case side4 => exact HC1_1.out); rintro e w' ⟨rfl, ⟨nd, rfl⟩⟩; refine ⟨_, rfl, ?_⟩))
   go_ret
   exact ⟨by first | rfl | (simp [errW_none, errW_some] <;> rfl) | (simp [*, errW_none, errW_some] <;> rfl), by repeat (first | (with_reducible first | exact HB.out | apply below_alloc | apply pw_below_drewN | apply below_drew1 | refine below_set ?_ GE722.out | refine below_set ?_ GE723.out) | exact HB.out)⟩
  ·replace c6 := Bool.eq_false_iff.mpr c6
   subst c6
   have H1 : (some false) = some true := by first | (rw [if_neg (show ¬ (false = true) by decide)] at H; exact H) | rfl
   clear H
   have H := H1
   clear H1
   exact absurd (Option.some.inj H) (by decide)
 ·replace c4 := Bool.eq_false_iff.mpr c4
  subst c4
  have H1 : (some false) = some true := by first | (rw [if_neg (show ¬ (false = true) by decide)] at H; exact H) | rfl
  clear H
  have H := H1
  clear H1
  exact absurd (Option.some.inj H) (by decide)
end Go.Proofs.Ytoncacdehhmpaaa.P
namespace Go.Proofs.YtoncacdehhmpaaaX
open Go.RowKit Go.Proofs.YtoncacdehhmpaaaW.PrintWords
set_option linter.unusedVariables false
set_option linter.unusedSimpArgs false
theorem Ev.ifT {α : Type} {c : Prop} [Decidable c] {f g : Nat → Option α} {r : α} (h : c) (k : Ev f r) : Ev (fun n => if c then f n else g n) r := by
  obtain ⟨K, k⟩ := k
  exact ⟨K, fun n hn => (if_pos h).trans (k n hn)⟩
theorem Ev.ifF {α : Type} {c : Prop} [Decidable c] {f g : Nat → Option α} {r : α} (h : ¬ c) (k : Ev g r) : Ev (fun n => if c then f n else g n) r := by
  obtain ⟨K, k⟩ := k
  exact ⟨K, fun n hn => (if_neg h).trans (k n hn)⟩
theorem Ev.ite {α : Type} {c : Prop} [Decidable c] {f g : Nat → Option α} {r : α} (h1 : c → Ev f r) (h2 : ¬ c → Ev g r) : Ev (fun n => if c then f n else g n) r := by
  by_cases h : c
  · exact Ev.ifT h (h1 h)
  · exact Ev.ifF h (h2 h)
theorem Ev.bindE {α β : Type} {g : Option α} {f : Nat → α → Option β} {a : α} {r : β} (h : g = some a) (k : Ev (fun n => f n a) r) : Ev (fun n => g.bind (f n)) r := by
  subst h
  exact k
theorem Ev.as {α : Type} {g : Nat → Option α} {r r' : α} (h : Ev g r) (e : r = r') : Ev g r' := e ▸ h
theorem rd_mid {α : Type} (a : List α) (x : α) (b : List α) (z : α) : (a ++ x :: b).getD a.length z = x := by
  rw [List.getD_eq_getElem?_getD, List.getElem?_append_right (Nat.le_refl _), Nat.sub_self]
  rfl
theorem set_mid {α : Type} (a : List α) (x y : α) (b : List α) : (a ++ x :: b).set a.length y = a ++ y :: b := by
  rw [List.set_append_right _ _ (Nat.le_refl _), Nat.sub_self]
  rfl
theorem len_mid {α : Type} (a : List α) (x : α) (b : List α) : (a ++ x :: b).length = a.length + (b.length + 1) := by
  rw [List.length_append, List.length_cons]
def mkL {α : Type} (mk : Int → α → α) (cnt : α → Nat) : Int → List α → List α
  | _, [] => []
  | a, x :: xs => mk a x :: mkL mk cnt (a + cnt x) xs
theorem mkL_length {α : Type} (mk : Int → α → α) (cnt : α → Nat) : ∀ (a : Int) (xs : List α), (mkL mk cnt a xs).length = xs.length
  | _, [] => rfl
  | a, x :: xs => by rw [mkL, List.length_cons, List.length_cons, mkL_length mk cnt _ xs]
def cntL {α : Type} (cnt : α → Nat) (xs : List α) : Nat := (xs.map cnt).sum
theorem cntL_cons {α : Type} (cnt : α → Nat) (x : α) (xs : List α) : cntL cnt (x :: xs) = cnt x + cntL cnt xs := by simp [cntL]
theorem cntL_const {α : Type} (c : Nat) (xs : List α) : cntL (fun _ => c) xs = c * xs.length := by
  induction xs with
  | nil => rfl
  | cons x xs ih => rw [cntL_cons, ih, List.length_cons, Nat.mul_succ]; omega
theorem mark_loop {α : Type} (mk : Int → α → α) (cnt : α → Nat) (L : Nat → List α → Int → Int → Option (Int × List α))
    (hstep : ∀ (d : List α) (x : α) (t : List α) (a : Int) (r : Int × List α), (d ++ x :: t).length ≤ 9223372036854775807 → 0 ≤ a → a + cnt x ≤ 4611686018427387904 → Ev (fun k => L k (d ++ mk a x :: t) (a + cnt x) ((d.length + 1 : Nat) : Int)) r → Ev (fun k => L k (d ++ x :: t) a (d.length : Int)) r)
    (hend : ∀ (d : List α) (a : Int), Ev (fun k => L k d a (d.length : Int)) (a, d)) :
    ∀ (xs : List α) (a : Int), xs.length ≤ 9223372036854775807 → 0 ≤ a → a + cntL cnt xs ≤ 4611686018427387904 → Ev (fun k => L k xs a 0) (a + cntL cnt xs, mkL mk cnt a xs) := by
  have key : ∀ (t d : List α) (a : Int), (d ++ t).length ≤ 9223372036854775807 → 0 ≤ a → a + cntL cnt t ≤ 4611686018427387904 → Ev (fun k => L k (d ++ t) a (d.length : Int)) (a + cntL cnt t, d ++ mkL mk cnt a t) := by
    intro t
    induction t with
    | nil =>
      intro d a _ _ _
      have := hend d a
      simpa [mkL, cntL] using this
    | cons x t ih =>
      intro d a hl h0 h1
      rw [cntL_cons] at h1 ⊢
      refine hstep d x t a _ hl h0 (by omega) ?_
      have := ih (d ++ [mk a x]) (a + cnt x) (by simp at hl ⊢; omega) (by omega) (by omega)
      simp only [List.append_assoc, List.singleton_append, List.length_append, List.length_singleton] at this
      rw [mkL]
      refine Ev.as this ?_
      rw [show a + ((cnt x + cntL cnt t : Nat) : Int) = a + (cnt x : Int) + (cntL cnt t : Int) by omega]
  intro xs a hl h0 h1
  have := key xs [] a (by simpa using hl) h0 h1
  simpa using this
theorem held_loop {α : Type} (mk : Int → α → α) (cnt : α → Nat) (L : Nat → List α → Int → Int → Option Int)
    (hstep : ∀ (d : List α) (x : α) (t : List α) (a r : Int), (d ++ mk a x :: t).length ≤ 9223372036854775807 → 0 ≤ a → a + cnt x ≤ 4611686018427387904 → Ev (fun k => L k (d ++ mk a x :: t) (a + cnt x) ((d.length + 1 : Nat) : Int)) r → Ev (fun k => L k (d ++ mk a x :: t) a (d.length : Int)) r)
    (hend : ∀ (d : List α) (a : Int), Ev (fun k => L k d a (d.length : Int)) a) :
    ∀ (xs : List α) (a : Int), xs.length ≤ 9223372036854775807 → 0 ≤ a → a + cntL cnt xs ≤ 4611686018427387904 → Ev (fun k => L k (mkL mk cnt a xs) a 0) (a + cntL cnt xs) := by
  have key : ∀ (t d : List α) (a : Int), (d ++ t).length ≤ 9223372036854775807 → 0 ≤ a → a + cntL cnt t ≤ 4611686018427387904 → Ev (fun k => L k (d ++ mkL mk cnt a t) a (d.length : Int)) (a + cntL cnt t) := by
    intro t
    induction t with
    | nil =>
      intro d a _ _ _
      have := hend d a
      simpa [mkL, cntL] using this
    | cons x t ih =>
      intro d a hl h0 h1
      rw [cntL_cons] at h1 ⊢
      rw [mkL]
      refine hstep d x _ a _ (by simp [mkL_length] at hl ⊢; omega) h0 (by omega) ?_
      have := ih (d ++ [mk a x]) (a + cnt x) (by simp at hl ⊢; omega) (by omega) (by omega)
      simp only [List.append_assoc, List.singleton_append, List.length_append, List.length_singleton] at this
      refine Ev.as this ?_
      omega
  intro xs a hl h0 h1
  have := key xs [] a (by simpa using hl) h0 h1
  simpa using this
end Go.Proofs.YtoncacdehhmpaaaX
namespace Go.Proofs.Ytoncacdehhmpaaa.P
open Go.RowKit Go.Proofs.YtoncacdehhmpaaaW.PrintWords Go.Proofs.YtoncacdehhmpaaaW.PrintLast Go.Proofs.YtoncacdehhmpaaaW.PrintMore
attribute [local go_sem] max2_int min2_int max_two min_two max_three min_three max_four min_four
set_option linter.unusedVariables false
set_option linter.unusedSimpArgs false
def laws_markIntSS.r (k : Nat) : List (List Int) → Int → Option (Int × List (List Int))
 | [], a => some (a, [])
 | x :: xs, a => (laws_markIntS.f k x a).bind fun y => (laws_markIntSS.r k xs y.1).bind fun z => some (z.1, y.2 :: z.2)
def laws_markIntSS.f (k : Nat) (l0 : List (List Int)) (a1 : Int) : Option (Int × List (List Int)) := laws_markIntSS.r k l0 a1
theorem laws_markIntSS.mono_r : ∀ xs a k, LeO (laws_markIntSS.r k xs a) (laws_markIntSS.r (k + 1) xs a)
 | [], a, k => LeO.refl _
 | x :: xs, a, k => LeO.bind (laws_markIntS.mono _ _ k) (fun y => LeO.bind (laws_markIntSS.mono_r xs _ k) (fun z => LeO.refl _))
theorem laws_markIntSS.mono : ∀ a0 a1 k, LeO (laws_markIntSS.f k a0 a1) (laws_markIntSS.f (k + 1) a0 a1) := laws_markIntSS.mono_r
open Go.Proofs.YtoncacdehhmpaaaX in
set_option maxHeartbeats 8000000 in
set_option maxRecDepth 100000 in
theorem laws_markIntSS.calls (k : Nat) (P0_ : Nat → Prop) (u9000_ : Value) (l0 : List (List Int)) (a1 : Int) (r1 : Int) (r2 : List (List Int)) (w0 w : World) (hB : Below w0.heap.size w0 w) (ho0 : Kd.S (Kd.slice 3 (Kd.int .i64)) 67 w w0.heap.size P0_ u9000_ l0) (h : laws_markIntSS.f k l0 a1 = some (r1, r2)) :
  Calls Try.prog 48 #[u9000_, .int .i64 a1] w fun e w' => e = .returned (.int .i64 r1) ∧ Kd.S (Kd.slice 3 (Kd.int .i64)) 67 w' w0.heap.size (fun k_ => (P0_ k_ ∨ w.heap.size ≤ k_)) u9000_ r2 ∧ Below w0.heap.size w0 w' ∧ Kept w w' (fun k_ => P0_ k_) := by
 have HS := Aside0.mk ho0
 have HB := Aside0.mk hB
 have HH : Aside0 (laws_markIntSS.r k l0 a1 = some (r1, r2)) := ⟨h⟩
 obtain ⟨A, c, e0, hlc, hC⟩ := Kd.S_reads ho0
 subst e0
 have hlm : l0.length ≤ 9223372036854775807 := hC.2.1
 clear ho0 hB h hlc hC
 go_enter Try.func48, Try.ntmps48
 go_wp2
 go_loopg [1, 5] l0.length (fun gg v1 v5 wr => ∃ (d t : List (List Int)) (a : Int) (z : List (List Int)), d.length + t.length = l0.length ∧ l0.length - d.length ≤ gg ∧ v1 = .int .i64 a ∧ v5 = .int .i64 (d.length : Int) ∧ Aside0 (laws_markIntSS.r k t a = some (r1, z)) ∧ Aside0 (d ++ z = r2) ∧ Aside0 (Kd.S (Kd.slice 3 (Kd.int .i64)) 67 wr w0.heap.size P0_ (.slice A l0.length c) (d ++ t)) ∧ Aside0 (Below w0.heap.size w0 wr) ∧ Aside0 (Kept w wr (fun k_ => P0_ k_)))
 case atStart => exact ⟨[], l0, a1, r2, by simp, by simp, rfl, rfl, HH, ⟨rfl⟩, HS, HB, ⟨Kept.refl _ _⟩⟩
 case round =>
  obtain ⟨d, t, a, z, hdt, hgg, rfl, rfl, HR, HZ, HO, HB1, HK⟩ := hrel
  cases t with
  | nil =>
   have hdl : d.length = l0.length := by simpa using hdt
   have hnl : ¬ ((d.length : Int) < (l0.length : Int)) := by omega
   go_wp2
   go_ret
   have e1 := Option.some.inj HR.out
   injection e1 with e1 e2
   subst e1
   refine ⟨rfl, ?_, HB1.out, HK.out⟩
   have := HO.out
   rw [← HZ.out, ← e2]
   exact Kd.S_mono this (fun _ hk => .inl hk)
  | cons x t =>
   have hdl : d.length < l0.length := by rw [List.length_cons] at hdt; omega
   have hz : (d.length : Int) < (l0.length : Int) := by omega
   have hz0 : (0 : Int) ≤ (d.length : Int) := by omega
   have hnat : ((d.length : Int)).toNat = d.length := by omega
   have HRR := HR.out
   unfold laws_markIntSS.r at HRR
   obtain ⟨y2, hy, Hy⟩ := Option.bind_eq_some_iff.1 HRR
   obtain ⟨zz, h3, Hc⟩ := Option.bind_eq_some_iff.1 Hy
   have Hd := Option.some.inj Hc
   injection Hd with H4 H5
   have A2 := Aside0.mk hy
   have A3 := Aside0.mk h3
   have A4 := Aside0.mk H4
   have A5 := Aside0.mk H5
   clear hy h3 H4 H5 HR HRR Hy Hc
   have hsl : (d ++ x :: t).length = l0.length := by simp at hdt ⊢; omega
   have HL := Aside0.mk hsl
   obtain ⟨g, cap, eg, hgb, hgl, _⟩ := Kd.S_form HO.out (by omega)
   rw [hsl] at eg
   injection eg with eA _ ec
   subst eA
   subst ec
   have HP : Aside0 (P0_ g) := ⟨(Kd.S_R HO.out).1 g (by simp [Value.ownBlock])⟩
   have HO1 := HO
   have HK1 := HK
   clear hsl hgl HO HK
   obtain ⟨oki, cc, _, hM, hcc, hoki, hH⟩ := Kd.S_lend HO1.out [] (d.length : Int) (by omega) (by omega)
   rw [Int.toNat_natCast, rd_mid] at hM
   obtain ⟨vs, ec, hI⟩ := hM
   subst ec
   have hx2 := hcc 0 _ rfl
   rw [Int.toNat_natCast] at hx2
   have hx2 : wr.cell? ⟨g, d.length * 1 + 0, none⟩ = some vs := hx2
   rw [Nat.mul_one, Nat.add_zero] at hx2
   have HH := Aside0.mk hH
   have HI := Aside0.mk hI
   clear hH hI hcc hoki
   go_wp2_with (go_at_call 35; refine (laws_markIntS.calls k oki vs x a y2.1 y2.2 w0 _ HB1.out HI.out A2.out).mono ?_; rintro e w1 ⟨rfl, hr, hb, hk⟩; have hr2 := Kd.R_mono (Kd.R_tight rfl hr) (fun k_ hk_ => HI.out.1 k_ hk_.symm); have hs := Kd.H_back (Kd.H_kept HH.out hk (fun k_ _ h_ => h_)) (Kd.M_row hr2) (fun _ h => h); rw [Int.toNat_natCast, set_mid] at hs; have HO2 := Aside0.mk hs; have HB2 := Aside0.mk hb; have HK2 := Aside0.mk (HK1.out.then_ hk (fun k_ hk_ => .inl (HH.out.1 k_ hk_))); clear hr hr2 hs hb hk HO1 HB1 HK1)
   go_roundg (l0.length - (d.length + 1))
   case measure => omega
   case rel => exact ⟨d ++ [y2.2], t, y2.1, zz.2, by simp at hdt ⊢; omega, by simp, rfl, by rw [List.length_append, List.length_singleton]; go_num, ⟨by rw [A3.out, ← A4.out]⟩, ⟨by rw [← HZ.out, ← A5.out]; simp⟩, ⟨by rw [List.append_assoc]; exact HO2.out⟩, HB2, HK2⟩
end Go.Proofs.Ytoncacdehhmpaaa.P
namespace Go.Proofs.Ytoncacdehhmpaaa.P
open Go.RowKit Go.Proofs.YtoncacdehhmpaaaW.PrintWords Go.Proofs.YtoncacdehhmpaaaW.PrintLast Go.Proofs.YtoncacdehhmpaaaW.PrintMore
attribute [local go_sem] max2_int min2_int max_two min_two max_three min_three max_four min_four
set_option linter.unusedVariables false
set_option linter.unusedSimpArgs false
def laws_eqTerm.f (a0_0 : Int) (a0_1 : Int) (a0_2 : ByteArray) (a0_3 : Int) (a0_4 : Int) (a0_5 : ByteArray) (a1_0 : Int) (a1_1 : Int) (a1_2 : ByteArray) (a1_3 : Int) (a1_4 : Int) (a1_5 : ByteArray) : Option (Bool) := if a0_0 = a1_0 then (if a0_1 = a1_1 then (if a0_2.toList = a1_2.toList then ((laws_eqValue.f a0_3 a0_4 a0_5 a1_3 a1_4 a1_5).bind fun t363 => (if t363 = true then (some true) else (some false))) else (some false)) else (some false)) else (some false)
def laws_eqTermS.l0 : Nat → List (S120) → List (S120) → Int → Option (Bool)
 | 0, _, _, _ => none
 | k + 1, x0, x1, x5 => if x5 < (x0.length : Int) then (if 0 ≤ x5 then (if x5 < (x1.length : Int) then ((laws_eqTerm.f ((rd_T120 x0 x5).f0) ((rd_T120 x0 x5).f1) ((rd_T120 x0 x5).f2) ((rd_T120 x0 x5).f3.f0) ((rd_T120 x0 x5).f3.f1) ((rd_T120 x0 x5).f3.f2) ((rd_T120 x1 x5).f0) ((rd_T120 x1 x5).f1) ((rd_T120 x1 x5).f2) ((rd_T120 x1 x5).f3.f0) ((rd_T120 x1 x5).f3.f1) ((rd_T120 x1 x5).f3.f2)).bind fun t366 => (if t366 = true then (laws_eqTermS.l0 k x0 x1 (wrap64 (x5 + 1))) else (some false))) else (none)) else (none)) else (some true)
def laws_eqTermS.f (k : Nat) (l0 : List (S120)) (l1 : List (S120)) : Option (Bool) := if (l0.length : Int) = (l1.length : Int) then (laws_eqTermS.l0 k l0 l1 0) else (some false)
theorem laws_eqTermS.mono_l : ∀ k, (∀ y0 y1 y2, LeO (laws_eqTermS.l0 k y0 y1 y2) (laws_eqTermS.l0 (k + 1) y0 y1 y2))
 | 0 => fun _ _ _ r h => by simp [laws_eqTermS.l0] at h
 | k + 1 => by
  have ih0 := laws_eqTermS.mono_l k
  ·intro y0 y1 y2
   unfold laws_eqTermS.l0
   repeat' first
   | (with_reducible exact ih0 _ _ _)
   | (with_reducible exact LeO.refl _)
   | (with_reducible exact LeO.none _)
   | (with_reducible refine LeO.ite ?_ ?_)
   | (with_reducible refine LeO.bind ?_ (fun _ => ?_))
   | exact ih0 _ _ _
   | exact LeO.none _
   | refine LeO.ite ?_ ?_
   | refine LeO.bind ?_ (fun _ => ?_)
theorem laws_eqTermS.mono : ∀ a0 a1 k, LeO (laws_eqTermS.f k a0 a1) (laws_eqTermS.f (k + 1) a0 a1) := by
 intro a0 a1 k
 have ih0 := laws_eqTermS.mono_l k
 unfold laws_eqTermS.f
 repeat' first
   | (with_reducible exact ih0 _ _ _)
   | (with_reducible exact LeO.refl _)
   | (with_reducible exact LeO.none _)
   | (with_reducible refine LeO.ite ?_ ?_)
   | (with_reducible refine LeO.bind ?_ (fun _ => ?_))
   | exact ih0 _ _ _
   | exact LeO.none _
   | refine LeO.ite ?_ ?_
   | refine LeO.bind ?_ (fun _ => ?_)
def laws_eqPattern.f (k : Nat) (a0_0 : Bool) (a0_1 : ByteArray) (l0_2 : List (S120)) (a1_0 : Bool) (a1_1 : ByteArray) (l1_2 : List (S120)) : Option (Bool) := if (a0_0 != a1_0) = true then (some false) else (if a0_1.toList = a1_1.toList then ((laws_eqTermS.f k l0_2 l1_2).bind fun t369 => (if t369 = true then (some true) else (some false))) else (some false))
theorem laws_eqPattern.mono : ∀ a0 a1 a2 a3 a4 a5 k, LeO (laws_eqPattern.f k a0 a1 a2 a3 a4 a5) (laws_eqPattern.f (k + 1) a0 a1 a2 a3 a4 a5) := by
 intro a0 a1 a2 a3 a4 a5 k
 unfold laws_eqPattern.f
 repeat' first
   | (with_reducible exact laws_eqTermS.mono _ _ _)
   | (with_reducible exact LeO.refl _)
   | (with_reducible exact LeO.none _)
   | (with_reducible refine LeO.ite ?_ ?_)
   | (with_reducible refine LeO.bind ?_ (fun _ => ?_))
   | exact laws_eqTermS.mono _ _ _
   | exact LeO.none _
   | refine LeO.ite ?_ ?_
   | refine LeO.bind ?_ (fun _ => ?_)
def laws_markText.l0 : Nat → Int → ByteArray → Option (ByteArray)
 | 0, _, _ => none
 | k + 1, x0, x3 => if x0 > 0 then ((some (([(wrap64 (48 + (Int.tmod x0 10))) % 256] : List Int) : List Int)).bind fun y370 => (if (strOfNums y370).size + x3.size ≤ 9223372036854775807 then (laws_markText.l0 k (wrap64 (Int.tdiv x0 10)) ((strOfNums y370) ++ x3)) else (none))) else (if 1 + x3.size ≤ 9223372036854775807 then (some ((⟨#[109]⟩ : ByteArray) ++ x3)) else (none))
def laws_markText.f (k : Nat) (a0 : Int) : Option (ByteArray) := if a0 ≤ 0 then (some (⟨#[109, 48]⟩ : ByteArray)) else (laws_markText.l0 k a0 (⟨#[]⟩ : ByteArray))
theorem laws_markText.mono_l : ∀ k, (∀ y0 y1, LeO (laws_markText.l0 k y0 y1) (laws_markText.l0 (k + 1) y0 y1))
 | 0 => fun _ _ r h => by simp [laws_markText.l0] at h
 | k + 1 => by
  have ih0 := laws_markText.mono_l k
  ·intro y0 y1
   unfold laws_markText.l0
   repeat' first
   | (with_reducible exact ih0 _ _)
   | (with_reducible exact LeO.refl _)
   | (with_reducible exact LeO.none _)
   | (with_reducible refine LeO.ite ?_ ?_)
   | (with_reducible refine LeO.bind ?_ (fun _ => ?_))
   | exact ih0 _ _
   | exact LeO.none _
   | refine LeO.ite ?_ ?_
   | refine LeO.bind ?_ (fun _ => ?_)
theorem laws_markText.mono : ∀ a0 k, LeO (laws_markText.f k a0) (laws_markText.f (k + 1) a0) := by
 intro a0 k
 have ih0 := laws_markText.mono_l k
 unfold laws_markText.f
 repeat' first
   | (with_reducible exact ih0 _ _)
   | (with_reducible exact LeO.refl _)
   | (with_reducible exact LeO.none _)
   | (with_reducible refine LeO.ite ?_ ?_)
   | (with_reducible refine LeO.bind ?_ (fun _ => ?_))
   | exact ih0 _ _
   | exact LeO.none _
   | refine LeO.ite ?_ ?_
   | refine LeO.bind ?_ (fun _ => ?_)
set_option maxHeartbeats 8000000 in
set_option maxRecDepth 100000 in
theorem laws_markText.calls (k : Nat) (a0 : Int) (r : ByteArray) (w : World) (h : laws_markText.f k a0 = some r) :
  Calls Try.prog 88 #[.int .i64 a0] w fun e w' => e = .returned (.string r) ∧ Below w.heap.size w w' := by
 have HB := Aside0.mk (Below.refl w.heap.size w)
 have H : (if a0 ≤ 0 then (some (⟨#[109, 48]⟩ : ByteArray)) else (laws_markText.l0 k a0 (⟨#[]⟩ : ByteArray))) = some r := h
 clear h
 by_cases c2 : a0 ≤ 0
 ·rw [if_pos c2] at H
  have c2b0 : decide (a0 ≤ 0) = true := decide_eq_true c2
  clear c2
  obtain rfl := Option.some.inj H
  go_enter Try.func88, Try.ntmps88
  go_wp2
  go_ret
  exact ⟨by first | rfl | (simp [errW_none, errW_some] <;> rfl) | (simp [*, errW_none, errW_some] <;> rfl), by repeat (first | (with_reducible first | exact HB.out | apply below_alloc | apply pw_below_drewN | apply below_drew1) | exact HB.out)⟩
 ·rw [if_neg c2] at H
  have c2b0 : decide (a0 ≤ 0) = false := decide_eq_false c2
  clear c2
  have H' := Aside0.mk H
  clear H
  go_enter Try.func88, Try.ntmps88
  go_wp2
  go_loopg [0, 3] k (fun kq v0 v3 w' => ∃ (x0_1 : Int) (x3_1 : ByteArray), v0 = .int .i64 x0_1 ∧ v3 = .string x3_1 ∧ Aside0 (laws_markText.l0 kq x0_1 x3_1 = some r) ∧ Aside0 (kq ≤ k) ∧ Aside0 (Below w.heap.size w w'))
  case atStart => exact ⟨(a0), ((⟨#[]⟩ : ByteArray)), (by first | rfl | (simp; done) | (simp [*]; done)), (by first | rfl | (simp; done) | (simp [*]; done)), H', ⟨Nat.le_refl _⟩, ⟨by repeat (first | (with_reducible first | exact HB.out | apply below_alloc | apply pw_below_drewN | apply below_drew1) | exact HB.out)⟩⟩
  case round =>
   clear H'
   try clear c2
   try clear c2b0
   try clear p2
   obtain ⟨x0_1, x3_1, rfl, rfl, HA, HK1, HB⟩ := hrel
   cases gk with
   | zero => exact absurd HA.out (by simp [laws_markText.l0])
   | succ k1 =>
    have H := HA.out
    clear HA
    simp only [laws_markText.l0] at H
    by_cases c3 : x0_1 > 0
    ·rw [if_pos c3] at H
     have c3b0 : decide (0 < x0_1) = true := decide_eq_true c3
     clear c3
     obtain ⟨y370, hy370⟩ : ∃ y_ : List Int, y_ = (([(wrap64 (48 + (Int.tmod x0_1 10))) % 256] : List Int)) := ⟨_, rfl⟩
     replace H : (if (strOfNums y370).size + x3_1.size ≤ 9223372036854775807 then (laws_markText.l0 k1 (wrap64 (Int.tdiv x0_1 10)) ((strOfNums y370) ++ x3_1)) else (none)) = some r := by first | (rw [hy370]; with_reducible exact H) | (have H2_ := (Option.bind_some _ _).symm.trans H; rw [hy370]; with_reducible exact H2_) | (have H2_ := (Option.bind_some _ _).symm.trans H; with_reducible exact H2_) | with_reducible exact H | (rw [hy370]; exact H) | exact H
     have Ny370 := Aside0.mk hy370
     clear hy370
     by_cases c4 : (strOfNums y370).size + x3_1.size ≤ 9223372036854775807
     ·rw [if_pos c4] at H
      have c4b0 := eq_true c4
      have c4b1 : decide ((strOfNums y370).size + x3_1.size ≤ 9223372036854775807) = true := decide_eq_true c4
      try have c4b2 : (9223372036854775807 < (strOfNums y370).size + x3_1.size) = False := eq_false (Nat.not_lt.2 c4)
      have H' := Aside0.mk H
      clear H
      go_wp2_with (first | ((with_reducible refine gate_dst (N := 12) rfl ?_); refine Kd.R_lit (Kd.int .u8) _ 5 ?hg (N := 12) ?hd (xs := ([(wrap64 (48 + (Int.tmod x0_1 10))) % 256] : List Int)) (inner := [.int .u8 ((wrap64 (48 + (Int.tmod x0_1 10))) % 256)]) (ok := fun _ => True) (okp := fun _ => True) ?hr ?hp (fun _ hk => hk) trivial (Below.refl _ _) (Nat.le_refl _) (by simp) ?_; (case hd => rfl); (case hg => rfl); (case hr => first | (go_simp; done) | (go_simp; rfl)); (case hp => exact (Reps.one (show Kd.M (Kd.int .u8) _ _ _ ((wrap64 (48 + (Int.tmod x0_1 10))) % 256) [.int .u8 ((wrap64 (48 + (Int.tmod x0_1 10))) % 256)] from rfl) (Reps.none _ _))); intro v371 w5 ho6 hb hg_ hnew_; clear hg_ hnew_; (first | rw [← Ny370.out] at ho6 | (simp only [Int.reduceToNat] at ho6; rw [← Ny370.out] at ho6)); have n0_ := Aside0.mk (Kd.R_lower ho6 (below_size (by repeat (first | (with_reducible first | exact HB.out | apply below_alloc | apply pw_below_drewN | apply below_drew1) | exact HB.out)))); have n1_ := Aside0.mk (below_step (by repeat (first | (with_reducible first | exact HB.out | apply below_alloc | apply pw_below_drewN | apply below_drew1) | exact HB.out)) hb); clear HB; have HO372 := n0_; have HB := n1_; clear n0_ n1_; clear hb ho6; have hcv7 := own_string (P := Try.prog) Try.underlying182 Try.underlying5 Try.underlying9 (Kd.own_of_R HO372.out)))
      go_roundg k1
      case measure => have := HK1.out; omega
      case rel => exact ⟨(wrap64 (Int.tdiv x0_1 10)), ((strOfNums y370) ++ x3_1), (by first | rfl | (simp; done) | (simp [*]; done)), (by first | rfl | (simp; done) | (simp [*]; done)), H', ⟨by have := HK1.out; omega⟩, ⟨by repeat (first | (with_reducible first | exact HB.out | apply below_alloc | apply pw_below_drewN | apply below_drew1) | exact HB.out)⟩⟩
     ·rw [if_neg c4] at H
      exact absurd H (by simp)
    ·rw [if_neg c3] at H
     have c3b0 : decide (0 < x0_1) = false := decide_eq_false c3
     clear c3
     by_cases c8 : 1 + x3_1.size ≤ 9223372036854775807
     ·rw [if_pos c8] at H
      have c8b0 := eq_true c8
      have c8b1 : decide (1 + x3_1.size ≤ 9223372036854775807) = true := decide_eq_true c8
      try have c8b2 : (9223372036854775807 < 1 + x3_1.size) = False := eq_false (Nat.not_lt.2 c8)
      obtain rfl := Option.some.inj H
      go_wp2
      go_ret
      exact ⟨by first | rfl | (simp [errW_none, errW_some] <;> rfl) | (simp [*, errW_none, errW_some] <;> rfl), by repeat (first | (with_reducible first | exact HB.out | apply below_alloc | apply pw_below_drewN | apply below_drew1) | exact HB.out)⟩
     ·rw [if_neg c8] at H
      exact absurd H (by simp)
def laws_markTermS.l0 : Nat → List (S120) → Int → Int → Option (Int × (List (S120)))
 | 0, _, _, _ => none
 | k + 1, x0, x1, x5 => if x5 < (x0.length : Int) then (if 0 ≤ x5 then ((some (x0.set (x5 : Int).toNat (⟨x1, (rd_T120 x0 x5).f1, (rd_T120 x0 x5).f2, (⟨(rd_T120 x0 x5).f3.f0, (rd_T120 x0 x5).f3.f1, (rd_T120 x0 x5).f3.f2⟩ : S104)⟩ : S120) : List (S120))).bind fun y373 => ((some (y373.set (x5 : Int).toNat (⟨(rd_T120 y373 x5).f0, wrap64 (x1 + 1), (rd_T120 y373 x5).f2, (⟨(rd_T120 y373 x5).f3.f0, (rd_T120 y373 x5).f3.f1, (rd_T120 y373 x5).f3.f2⟩ : S104)⟩ : S120) : List (S120))).bind fun y374 => ((laws_markText.f k (wrap64 ((wrap64 (x1 + 1)) + 1))).bind fun t375 => ((some (y374.set (x5 : Int).toNat (⟨(rd_T120 y374 x5).f0, (rd_T120 y374 x5).f1, t375, (⟨(rd_T120 y374 x5).f3.f0, (rd_T120 y374 x5).f3.f1, (rd_T120 y374 x5).f3.f2⟩ : S104)⟩ : S120) : List (S120))).bind fun y376 => ((some (y376.set (x5 : Int).toNat (⟨(rd_T120 y376 x5).f0, (rd_T120 y376 x5).f1, (rd_T120 y376 x5).f2, (⟨wrap64 ((wrap64 ((wrap64 (x1 + 1)) + 1)) + 1), (rd_T120 y376 x5).f3.f1, (rd_T120 y376 x5).f3.f2⟩ : S104)⟩ : S120) : List (S120))).bind fun y377 => ((some (y377.set (x5 : Int).toNat (⟨(rd_T120 y377 x5).f0, (rd_T120 y377 x5).f1, (rd_T120 y377 x5).f2, (⟨(rd_T120 y377 x5).f3.f0, wrap64 ((wrap64 ((wrap64 ((wrap64 (x1 + 1)) + 1)) + 1)) + 1), (rd_T120 y377 x5).f3.f2⟩ : S104)⟩ : S120) : List (S120))).bind fun y378 => ((laws_markText.f k (wrap64 ((wrap64 ((wrap64 ((wrap64 ((wrap64 (x1 + 1)) + 1)) + 1)) + 1)) + 1))).bind fun t379 => (laws_markTermS.l0 k (y378.set (x5 : Int).toNat (⟨(rd_T120 y378 x5).f0, (rd_T120 y378 x5).f1, (rd_T120 y378 x5).f2, (⟨(rd_T120 y378 x5).f3.f0, (rd_T120 y378 x5).f3.f1, t379⟩ : S104)⟩ : S120)) (wrap64 ((wrap64 ((wrap64 ((wrap64 ((wrap64 ((wrap64 (x1 + 1)) + 1)) + 1)) + 1)) + 1)) + 1)) (wrap64 (x5 + 1)))))))))) else (none)) else (some (x1, x0))
def laws_markTermS.f (k : Nat) (l0 : List (S120)) (a1 : Int) : Option (Int × (List (S120))) := laws_markTermS.l0 k l0 a1 0
theorem laws_markTermS.mono_l : ∀ k, (∀ y0 y1 y2, LeO (laws_markTermS.l0 k y0 y1 y2) (laws_markTermS.l0 (k + 1) y0 y1 y2))
 | 0 => fun _ _ _ r h => by simp [laws_markTermS.l0] at h
 | k + 1 => by
  have ih0 := laws_markTermS.mono_l k
  ·intro y0 y1 y2
   unfold laws_markTermS.l0
   repeat' first
   | (with_reducible exact ih0 _ _ _)
   | (with_reducible exact laws_markText.mono _ _)
   | (with_reducible exact LeO.refl _)
   | (with_reducible exact LeO.none _)
   | (with_reducible refine LeO.ite ?_ ?_)
   | (with_reducible refine LeO.bind ?_ (fun _ => ?_))
   | exact ih0 _ _ _
   | exact laws_markText.mono _ _
   | exact LeO.none _
   | refine LeO.ite ?_ ?_
   | refine LeO.bind ?_ (fun _ => ?_)
theorem laws_markTermS.mono : ∀ a0 a1 k, LeO (laws_markTermS.f k a0 a1) (laws_markTermS.f (k + 1) a0 a1) := by
 intro a0 a1 k
 have ih0 := laws_markTermS.mono_l k
 unfold laws_markTermS.f
 repeat' first
   | (with_reducible exact ih0 _ _ _)
   | (with_reducible exact laws_markText.mono _ _)
   | (with_reducible exact LeO.refl _)
   | (with_reducible exact LeO.none _)
   | (with_reducible refine LeO.ite ?_ ?_)
   | (with_reducible refine LeO.bind ?_ (fun _ => ?_))
   | exact ih0 _ _ _
   | exact laws_markText.mono _ _
   | exact LeO.none _
   | refine LeO.ite ?_ ?_
   | refine LeO.bind ?_ (fun _ => ?_)
end Go.Proofs.Ytoncacdehhmpaaa.P
namespace Go.Proofs.Ytoncacdehhmpaaa.P
open Go.RowKit Go.Proofs.YtoncacdehhmpaaaW.PrintWords Go.Proofs.YtoncacdehhmpaaaW.PrintLast Go.Proofs.YtoncacdehhmpaaaW.PrintMore
attribute [local go_sem] max2_int min2_int max_two min_two max_three min_three max_four min_four
set_option linter.unusedVariables false
set_option linter.unusedSimpArgs false
def laws_markPattern.f (k : Nat) (a0_0 : Bool) (a0_1 : ByteArray) (l0_2 : List (S120)) (a1 : Int) : Option (Int × (List (S120))) := (laws_markTermS.f k l0_2 a1).bind fun bt382 => (some (bt382.1, bt382.2))
theorem laws_markPattern.mono : ∀ a0 a1 a2 a3 k, LeO (laws_markPattern.f k a0 a1 a2 a3) (laws_markPattern.f (k + 1) a0 a1 a2 a3) := by
 intro a0 a1 a2 a3 k
 unfold laws_markPattern.f
 repeat' first
   | (with_reducible exact laws_markTermS.mono _ _ _)
   | (with_reducible exact LeO.refl _)
   | (with_reducible exact LeO.none _)
   | (with_reducible refine LeO.ite ?_ ?_)
   | (with_reducible refine LeO.bind ?_ (fun _ => ?_))
   | exact laws_markTermS.mono _ _ _
   | exact LeO.none _
   | refine LeO.ite ?_ ?_
   | refine LeO.bind ?_ (fun _ => ?_)
def laws_markAlphaTestS.l0 : Nat → List (S106) → Int → Int → Option (Int × (List (S106)))
 | 0, _, _, _ => none
 | k + 1, x0, x1, x5 => if x5 < (x0.length : Int) then (if 0 ≤ x5 then ((some (x0.set (x5 : Int).toNat (⟨x1, (rd_T106 x0 x5).f1, (rd_T106 x0 x5).f2, (⟨(rd_T106 x0 x5).f3.f0, (rd_T106 x0 x5).f3.f1, (rd_T106 x0 x5).f3.f2⟩ : S104)⟩ : S106) : List (S106))).bind fun y384 => ((some (y384.set (x5 : Int).toNat (⟨(rd_T106 y384 x5).f0, wrap64 (x1 + 1), (rd_T106 y384 x5).f2, (⟨(rd_T106 y384 x5).f3.f0, (rd_T106 y384 x5).f3.f1, (rd_T106 y384 x5).f3.f2⟩ : S104)⟩ : S106) : List (S106))).bind fun y385 => ((some (y385.set (x5 : Int).toNat (⟨(rd_T106 y385 x5).f0, (rd_T106 y385 x5).f1, wrap64 ((wrap64 (x1 + 1)) + 1), (⟨(rd_T106 y385 x5).f3.f0, (rd_T106 y385 x5).f3.f1, (rd_T106 y385 x5).f3.f2⟩ : S104)⟩ : S106) : List (S106))).bind fun y386 => ((some (y386.set (x5 : Int).toNat (⟨(rd_T106 y386 x5).f0, (rd_T106 y386 x5).f1, (rd_T106 y386 x5).f2, (⟨wrap64 ((wrap64 ((wrap64 (x1 + 1)) + 1)) + 1), (rd_T106 y386 x5).f3.f1, (rd_T106 y386 x5).f3.f2⟩ : S104)⟩ : S106) : List (S106))).bind fun y387 => ((some (y387.set (x5 : Int).toNat (⟨(rd_T106 y387 x5).f0, (rd_T106 y387 x5).f1, (rd_T106 y387 x5).f2, (⟨(rd_T106 y387 x5).f3.f0, wrap64 ((wrap64 ((wrap64 ((wrap64 (x1 + 1)) + 1)) + 1)) + 1), (rd_T106 y387 x5).f3.f2⟩ : S104)⟩ : S106) : List (S106))).bind fun y388 => ((laws_markText.f k (wrap64 ((wrap64 ((wrap64 ((wrap64 ((wrap64 (x1 + 1)) + 1)) + 1)) + 1)) + 1))).bind fun t389 => (laws_markAlphaTestS.l0 k (y388.set (x5 : Int).toNat (⟨(rd_T106 y388 x5).f0, (rd_T106 y388 x5).f1, (rd_T106 y388 x5).f2, (⟨(rd_T106 y388 x5).f3.f0, (rd_T106 y388 x5).f3.f1, t389⟩ : S104)⟩ : S106)) (wrap64 ((wrap64 ((wrap64 ((wrap64 ((wrap64 ((wrap64 (x1 + 1)) + 1)) + 1)) + 1)) + 1)) + 1)) (wrap64 (x5 + 1))))))))) else (none)) else (some (x1, x0))
def laws_markAlphaTestS.f (k : Nat) (l0 : List (S106)) (a1 : Int) : Option (Int × (List (S106))) := laws_markAlphaTestS.l0 k l0 a1 0
theorem laws_markAlphaTestS.mono_l : ∀ k, (∀ y0 y1 y2, LeO (laws_markAlphaTestS.l0 k y0 y1 y2) (laws_markAlphaTestS.l0 (k + 1) y0 y1 y2))
 | 0 => fun _ _ _ r h => by simp [laws_markAlphaTestS.l0] at h
 | k + 1 => by
  have ih0 := laws_markAlphaTestS.mono_l k
  ·intro y0 y1 y2
   unfold laws_markAlphaTestS.l0
   repeat' first
   | (with_reducible exact ih0 _ _ _)
   | (with_reducible exact laws_markText.mono _ _)
   | (with_reducible exact LeO.refl _)
   | (with_reducible exact LeO.none _)
   | (with_reducible refine LeO.ite ?_ ?_)
   | (with_reducible refine LeO.bind ?_ (fun _ => ?_))
   | exact ih0 _ _ _
   | exact laws_markText.mono _ _
   | exact LeO.none _
   | refine LeO.ite ?_ ?_
   | refine LeO.bind ?_ (fun _ => ?_)
theorem laws_markAlphaTestS.mono : ∀ a0 a1 k, LeO (laws_markAlphaTestS.f k a0 a1) (laws_markAlphaTestS.f (k + 1) a0 a1) := by
 intro a0 a1 k
 have ih0 := laws_markAlphaTestS.mono_l k
 unfold laws_markAlphaTestS.f
 repeat' first
   | (with_reducible exact ih0 _ _ _)
   | (with_reducible exact laws_markText.mono _ _)
   | (with_reducible exact LeO.refl _)
   | (with_reducible exact LeO.none _)
   | (with_reducible refine LeO.ite ?_ ?_)
   | (with_reducible refine LeO.bind ?_ (fun _ => ?_))
   | exact ih0 _ _ _
   | exact laws_markText.mono _ _
   | exact LeO.none _
   | refine LeO.ite ?_ ?_
   | refine LeO.bind ?_ (fun _ => ?_)
set_option maxHeartbeats 8000000 in
set_option maxRecDepth 100000 in
theorem laws_markAlphaTestS.calls (k : Nat) (P0_ : Nat → Prop) (u9000_ : Value) (l0 : List (S106)) (a1 : Int) (r1 : Int) (r2 : List (S106)) (w0 w : World) (hB : Below w0.heap.size w0 w) (ho0 : Kd.R k106 106 w w0.heap.size P0_ u9000_ l0) (h : laws_markAlphaTestS.f k l0 a1 = some (r1, r2)) :
  Calls Try.prog 77 #[u9000_, .int .i64 a1] w fun e w' => e = .returned (.int .i64 r1) ∧ Kd.R k106 106 w' w0.heap.size (fun k_ => (P0_ k_ ∨ w.heap.size ≤ k_)) u9000_ r2 ∧ Below w0.heap.size w0 w' ∧ Kept w w' (fun k_ => P0_ k_) := by
 have HO0 := Aside0.mk (show Kd.R k106 106 w w0.heap.size (fun k_ => (P0_ k_ ∨ w.heap.size ≤ k_)) u9000_ l0 from Kd.R_mono ho0 (fun k_ hk => (.inl hk)))
 have HK := Aside0.mk (Kept.refl w (fun k_ => P0_ k_))
 have HW0 := Aside0.mk hB.size
 have HB := Aside0.mk hB
 clear hB
 have H : (laws_markAlphaTestS.l0 k l0 a1 0) = some (r1, r2) := h
 clear h
 have H' := Aside0.mk H
 clear H
 go_enter Try.func77, Try.ntmps77
 go_wp2
 go_loopg [1, 5] k (fun kq v1 v5 w' => ∃ (x0_1 : List (S106)) (x1_1 : Int) (x5_1 : Int), v1 = .int .i64 x1_1 ∧ v5 = .int .i64 x5_1 ∧ Aside0 (laws_markAlphaTestS.l0 kq x0_1 x1_1 x5_1 = some (r1, r2)) ∧ Aside0 (kq ≤ k) ∧ Aside0 (Kd.R k106 106 w' w0.heap.size (fun k_ => (P0_ k_ ∨ w.heap.size ≤ k_)) u9000_ x0_1) ∧ Aside0 (Kept w w' (fun k_ => P0_ k_)) ∧ Aside0 (Below w0.heap.size w0 w'))
 case atStart => exact ⟨(l0), (a1), (0), (by first | rfl | (simp; done) | (simp [*]; done)), (by first | rfl | (simp; done) | (simp [*]; done)), H', ⟨Nat.le_refl _⟩, ⟨by (with_reducible repeat (first | apply Kd.R_alloc | apply Kd.R_drewN | apply Kd.R_drew)); exact HO0.out⟩, ⟨by repeat (first | (with_reducible first | exact HK.out | apply Kept.alloc | apply Kept.drewN | apply Kept.drew) | exact HK.out)⟩, ⟨by repeat (first | (with_reducible first | exact HB.out | apply below_alloc | apply pw_below_drewN | apply below_drew1) | exact HB.out)⟩⟩
 case round =>
  clear H'
  try clear p2
  obtain ⟨x0_1, x1_1, x5_1, rfl, rfl, HA, HK1, HO_0, HK, HB⟩ := hrel
  cases gk with
  | zero => exact absurd HA.out (by simp [laws_markAlphaTestS.l0])
  | succ k1 =>
   have H := HA.out
   clear HA
   simp only [laws_markAlphaTestS.l0] at H
   by_cases c3 : x5_1 < (x0_1.length : Int)
   ·rw [if_pos c3] at H
    have c3b0 : decide (x5_1 < (x0_1.length : Int)) = true := decide_eq_true c3
    clear c3
    by_cases c4 : 0 ≤ x5_1
    ·rw [if_pos c4] at H
     have c4b0 : decide (0 ≤ x5_1) = true := decide_eq_true c4
     clear c4
     obtain ⟨y384, hy384⟩ : ∃ y_ : List (S106), y_ = (x0_1.set (x5_1 : Int).toNat (⟨x1_1, (rd_T106 x0_1 x5_1).f1, (rd_T106 x0_1 x5_1).f2, (⟨(rd_T106 x0_1 x5_1).f3.f0, (rd_T106 x0_1 x5_1).f3.f1, (rd_T106 x0_1 x5_1).f3.f2⟩ : S104)⟩ : S106)) := ⟨_, rfl⟩
     replace H : ((some (y384.set (x5_1 : Int).toNat (⟨(rd_T106 y384 x5_1).f0, wrap64 (x1_1 + 1), (rd_T106 y384 x5_1).f2, (⟨(rd_T106 y384 x5_1).f3.f0, (rd_T106 y384 x5_1).f3.f1, (rd_T106 y384 x5_1).f3.f2⟩ : S104)⟩ : S106) : List (S106))).bind fun y385 => ((some (y385.set (x5_1 : Int).toNat (⟨(rd_T106 y385 x5_1).f0, (rd_T106 y385 x5_1).f1, wrap64 ((wrap64 (x1_1 + 1)) + 1), (⟨(rd_T106 y385 x5_1).f3.f0, (rd_T106 y385 x5_1).f3.f1, (rd_T106 y385 x5_1).f3.f2⟩ : S104)⟩ : S106) : List (S106))).bind fun y386 => ((some (y386.set (x5_1 : Int).toNat (⟨(rd_T106 y386 x5_1).f0, (rd_T106 y386 x5_1).f1, (rd_T106 y386 x5_1).f2, (⟨wrap64 ((wrap64 ((wrap64 (x1_1 + 1)) + 1)) + 1), (rd_T106 y386 x5_1).f3.f1, (rd_T106 y386 x5_1).f3.f2⟩ : S104)⟩ : S106) : List (S106))).bind fun y387 => ((some (y387.set (x5_1 : Int).toNat (⟨(rd_T106 y387 x5_1).f0, (rd_T106 y387 x5_1).f1, (rd_T106 y387 x5_1).f2, (⟨(rd_T106 y387 x5_1).f3.f0, wrap64 ((wrap64 ((wrap64 ((wrap64 (x1_1 + 1)) + 1)) + 1)) + 1), (rd_T106 y387 x5_1).f3.f2⟩ : S104)⟩ : S106) : List (S106))).bind fun y388 => ((laws_markText.f k1 (wrap64 ((wrap64 ((wrap64 ((wrap64 ((wrap64 (x1_1 + 1)) + 1)) + 1)) + 1)) + 1))).bind fun t389 => (laws_markAlphaTestS.l0 k1 (y388.set (x5_1 : Int).toNat (⟨(rd_T106 y388 x5_1).f0, (rd_T106 y388 x5_1).f1, (rd_T106 y388 x5_1).f2, (⟨(rd_T106 y388 x5_1).f3.f0, (rd_T106 y388 x5_1).f3.f1, t389⟩ : S104)⟩ : S106)) (wrap64 ((wrap64 ((wrap64 ((wrap64 ((wrap64 ((wrap64 (x1_1 + 1)) + 1)) + 1)) + 1)) + 1)) + 1)) (wrap64 (x5_1 + 1)))))))) = some (r1, r2) := by first | (rw [hy384]; with_reducible exact H) | (have H2_ := (Option.bind_some _ _).symm.trans H; rw [hy384]; with_reducible exact H2_) | (have H2_ := (Option.bind_some _ _).symm.trans H; with_reducible exact H2_) | with_reducible exact H | (rw [hy384]; exact H) | exact H
     have Ny384 := Aside0.mk hy384
     clear hy384
     obtain ⟨y385, hy385⟩ : ∃ y_ : List (S106), y_ = (y384.set (x5_1 : Int).toNat (⟨(rd_T106 y384 x5_1).f0, wrap64 (x1_1 + 1), (rd_T106 y384 x5_1).f2, (⟨(rd_T106 y384 x5_1).f3.f0, (rd_T106 y384 x5_1).f3.f1, (rd_T106 y384 x5_1).f3.f2⟩ : S104)⟩ : S106)) := ⟨_, rfl⟩
     replace H : ((some (y385.set (x5_1 : Int).toNat (⟨(rd_T106 y385 x5_1).f0, (rd_T106 y385 x5_1).f1, wrap64 ((wrap64 (x1_1 + 1)) + 1), (⟨(rd_T106 y385 x5_1).f3.f0, (rd_T106 y385 x5_1).f3.f1, (rd_T106 y385 x5_1).f3.f2⟩ : S104)⟩ : S106) : List (S106))).bind fun y386 => ((some (y386.set (x5_1 : Int).toNat (⟨(rd_T106 y386 x5_1).f0, (rd_T106 y386 x5_1).f1, (rd_T106 y386 x5_1).f2, (⟨wrap64 ((wrap64 ((wrap64 (x1_1 + 1)) + 1)) + 1), (rd_T106 y386 x5_1).f3.f1, (rd_T106 y386 x5_1).f3.f2⟩ : S104)⟩ : S106) : List (S106))).bind fun y387 => ((some (y387.set (x5_1 : Int).toNat (⟨(rd_T106 y387 x5_1).f0, (rd_T106 y387 x5_1).f1, (rd_T106 y387 x5_1).f2, (⟨(rd_T106 y387 x5_1).f3.f0, wrap64 ((wrap64 ((wrap64 ((wrap64 (x1_1 + 1)) + 1)) + 1)) + 1), (rd_T106 y387 x5_1).f3.f2⟩ : S104)⟩ : S106) : List (S106))).bind fun y388 => ((laws_markText.f k1 (wrap64 ((wrap64 ((wrap64 ((wrap64 ((wrap64 (x1_1 + 1)) + 1)) + 1)) + 1)) + 1))).bind fun t389 => (laws_markAlphaTestS.l0 k1 (y388.set (x5_1 : Int).toNat (⟨(rd_T106 y388 x5_1).f0, (rd_T106 y388 x5_1).f1, (rd_T106 y388 x5_1).f2, (⟨(rd_T106 y388 x5_1).f3.f0, (rd_T106 y388 x5_1).f3.f1, t389⟩ : S104)⟩ : S106)) (wrap64 ((wrap64 ((wrap64 ((wrap64 ((wrap64 ((wrap64 (x1_1 + 1)) + 1)) + 1)) + 1)) + 1)) + 1)) (wrap64 (x5_1 + 1))))))) = some (r1, r2) := by first | (rw [hy385]; with_reducible exact H) | (have H2_ := (Option.bind_some _ _).symm.trans H; rw [hy385]; with_reducible exact H2_) | (have H2_ := (Option.bind_some _ _).symm.trans H; with_reducible exact H2_) | with_reducible exact H | (rw [hy385]; exact H) | exact H
     have Ny385 := Aside0.mk hy385
     clear hy385
     obtain ⟨y386, hy386⟩ : ∃ y_ : List (S106), y_ = (y385.set (x5_1 : Int).toNat (⟨(rd_T106 y385 x5_1).f0, (rd_T106 y385 x5_1).f1, wrap64 ((wrap64 (x1_1 + 1)) + 1), (⟨(rd_T106 y385 x5_1).f3.f0, (rd_T106 y385 x5_1).f3.f1, (rd_T106 y385 x5_1).f3.f2⟩ : S104)⟩ : S106)) := ⟨_, rfl⟩
     replace H : ((some (y386.set (x5_1 : Int).toNat (⟨(rd_T106 y386 x5_1).f0, (rd_T106 y386 x5_1).f1, (rd_T106 y386 x5_1).f2, (⟨wrap64 ((wrap64 ((wrap64 (x1_1 + 1)) + 1)) + 1), (rd_T106 y386 x5_1).f3.f1, (rd_T106 y386 x5_1).f3.f2⟩ : S104)⟩ : S106) : List (S106))).bind fun y387 => ((some (y387.set (x5_1 : Int).toNat (⟨(rd_T106 y387 x5_1).f0, (rd_T106 y387 x5_1).f1, (rd_T106 y387 x5_1).f2, (⟨(rd_T106 y387 x5_1).f3.f0, wrap64 ((wrap64 ((wrap64 ((wrap64 (x1_1 + 1)) + 1)) + 1)) + 1), (rd_T106 y387 x5_1).f3.f2⟩ : S104)⟩ : S106) : List (S106))).bind fun y388 => ((laws_markText.f k1 (wrap64 ((wrap64 ((wrap64 ((wrap64 ((wrap64 (x1_1 + 1)) + 1)) + 1)) + 1)) + 1))).bind fun t389 => (laws_markAlphaTestS.l0 k1 (y388.set (x5_1 : Int).toNat (⟨(rd_T106 y388 x5_1).f0, (rd_T106 y388 x5_1).f1, (rd_T106 y388 x5_1).f2, (⟨(rd_T106 y388 x5_1).f3.f0, (rd_T106 y388 x5_1).f3.f1, t389⟩ : S104)⟩ : S106)) (wrap64 ((wrap64 ((wrap64 ((wrap64 ((wrap64 ((wrap64 (x1_1 + 1)) + 1)) + 1)) + 1)) + 1)) + 1)) (wrap64 (x5_1 + 1)))))) = some (r1, r2) := by first | (rw [hy386]; with_reducible exact H) | (have H2_ := (Option.bind_some _ _).symm.trans H; rw [hy386]; with_reducible exact H2_) | (have H2_ := (Option.bind_some _ _).symm.trans H; with_reducible exact H2_) | with_reducible exact H | (rw [hy386]; exact H) | exact H
     have Ny386 := Aside0.mk hy386
     clear hy386
     obtain ⟨y387, hy387⟩ : ∃ y_ : List (S106), y_ = (y386.set (x5_1 : Int).toNat (⟨(rd_T106 y386 x5_1).f0, (rd_T106 y386 x5_1).f1, (rd_T106 y386 x5_1).f2, (⟨wrap64 ((wrap64 ((wrap64 (x1_1 + 1)) + 1)) + 1), (rd_T106 y386 x5_1).f3.f1, (rd_T106 y386 x5_1).f3.f2⟩ : S104)⟩ : S106)) := ⟨_, rfl⟩
     replace H : ((some (y387.set (x5_1 : Int).toNat (⟨(rd_T106 y387 x5_1).f0, (rd_T106 y387 x5_1).f1, (rd_T106 y387 x5_1).f2, (⟨(rd_T106 y387 x5_1).f3.f0, wrap64 ((wrap64 ((wrap64 ((wrap64 (x1_1 + 1)) + 1)) + 1)) + 1), (rd_T106 y387 x5_1).f3.f2⟩ : S104)⟩ : S106) : List (S106))).bind fun y388 => ((laws_markText.f k1 (wrap64 ((wrap64 ((wrap64 ((wrap64 ((wrap64 (x1_1 + 1)) + 1)) + 1)) + 1)) + 1))).bind fun t389 => (laws_markAlphaTestS.l0 k1 (y388.set (x5_1 : Int).toNat (⟨(rd_T106 y388 x5_1).f0, (rd_T106 y388 x5_1).f1, (rd_T106 y388 x5_1).f2, (⟨(rd_T106 y388 x5_1).f3.f0, (rd_T106 y388 x5_1).f3.f1, t389⟩ : S104)⟩ : S106)) (wrap64 ((wrap64 ((wrap64 ((wrap64 ((wrap64 ((wrap64 (x1_1 + 1)) + 1)) + 1)) + 1)) + 1)) + 1)) (wrap64 (x5_1 + 1))))) = some (r1, r2) := by first | (rw [hy387]; with_reducible exact H) | (have H2_ := (Option.bind_some _ _).symm.trans H; rw [hy387]; with_reducible exact H2_) | (have H2_ := (Option.bind_some _ _).symm.trans H; with_reducible exact H2_) | with_reducible exact H | (rw [hy387]; exact H) | exact H
     have Ny387 := Aside0.mk hy387
     clear hy387
     obtain ⟨y388, hy388⟩ : ∃ y_ : List (S106), y_ = (y387.set (x5_1 : Int).toNat (⟨(rd_T106 y387 x5_1).f0, (rd_T106 y387 x5_1).f1, (rd_T106 y387 x5_1).f2, (⟨(rd_T106 y387 x5_1).f3.f0, wrap64 ((wrap64 ((wrap64 ((wrap64 (x1_1 + 1)) + 1)) + 1)) + 1), (rd_T106 y387 x5_1).f3.f2⟩ : S104)⟩ : S106)) := ⟨_, rfl⟩
     replace H : ((laws_markText.f k1 (wrap64 ((wrap64 ((wrap64 ((wrap64 ((wrap64 (x1_1 + 1)) + 1)) + 1)) + 1)) + 1))).bind fun t389 => (laws_markAlphaTestS.l0 k1 (y388.set (x5_1 : Int).toNat (⟨(rd_T106 y388 x5_1).f0, (rd_T106 y388 x5_1).f1, (rd_T106 y388 x5_1).f2, (⟨(rd_T106 y388 x5_1).f3.f0, (rd_T106 y388 x5_1).f3.f1, t389⟩ : S104)⟩ : S106)) (wrap64 ((wrap64 ((wrap64 ((wrap64 ((wrap64 ((wrap64 (x1_1 + 1)) + 1)) + 1)) + 1)) + 1)) + 1)) (wrap64 (x5_1 + 1)))) = some (r1, r2) := by first | (rw [hy388]; with_reducible exact H) | (have H2_ := (Option.bind_some _ _).symm.trans H; rw [hy388]; with_reducible exact H2_) | (have H2_ := (Option.bind_some _ _).symm.trans H; with_reducible exact H2_) | with_reducible exact H | (rw [hy388]; exact H) | exact H
     have Ny388 := Aside0.mk hy388
     clear hy388
     replace H := Option.bind_eq_some_iff.mp H
     obtain ⟨t389, A100, H⟩ := H
     replace H : (laws_markAlphaTestS.l0 k1 (y388.set (x5_1 : Int).toNat (⟨(rd_T106 y388 x5_1).f0, (rd_T106 y388 x5_1).f1, (rd_T106 y388 x5_1).f2, (⟨(rd_T106 y388 x5_1).f3.f0, (rd_T106 y388 x5_1).f3.f1, t389⟩ : S104)⟩ : S106)) (wrap64 ((wrap64 ((wrap64 ((wrap64 ((wrap64 ((wrap64 (x1_1 + 1)) + 1)) + 1)) + 1)) + 1)) + 1)) (wrap64 (x5_1 + 1))) = some (r1, r2) := H
     have A10 := Aside0.mk A100
     clear A100
     obtain ⟨y390, hy390⟩ : ∃ y_ : List (S106), y_ = (y388.set (x5_1 : Int).toNat (⟨(rd_T106 y388 x5_1).f0, (rd_T106 y388 x5_1).f1, (rd_T106 y388 x5_1).f2, (⟨(rd_T106 y388 x5_1).f3.f0, (rd_T106 y388 x5_1).f3.f1, t389⟩ : S104)⟩ : S106)) := ⟨_, rfl⟩
     replace H : (laws_markAlphaTestS.l0 k1 y390 (wrap64 ((wrap64 ((wrap64 ((wrap64 ((wrap64 ((wrap64 (x1_1 + 1)) + 1)) + 1)) + 1)) + 1)) + 1)) (wrap64 (x5_1 + 1))) = some (r1, r2) := by first | (rw [hy390]; with_reducible exact H) | (have H2_ := (Option.bind_some _ _).symm.trans H; rw [hy390]; with_reducible exact H2_) | (have H2_ := (Option.bind_some _ _).symm.trans H; with_reducible exact H2_) | with_reducible exact H | (rw [hy390]; exact H) | exact H
     have Ny390 := Aside0.mk hy390
     clear hy390
     have H' := Aside0.mk H
     clear H
     obtain ⟨Ao12, co12, eo12⟩ := Kd.R_slice HO_0.out
     subst eo12
     have p5 : 0 ≤ (x5_1 : Int) := of_decide_eq_true (by first | (with_reducible assumption) | assumption)
     have q5 : (x5_1 : Int) < ((x0_1.length : Int) : Int) := of_decide_eq_true (by first | (with_reducible assumption) | assumption)
     obtain ⟨go5, co5, eo5, gb5, gl5, cl5, HG5⟩ := Kd.R_form HO_0.out (by omega)
     (first | cases eo5 | (injection eo5 with ea_ en_ ec_; (first | subst ea_ | (injection ea_ with ea_; subst ea_)); subst ec_; clear en_))
     have GB5 := Aside0.mk gb5
     have GG5 := Aside0.mk HG5
     clear gb5 gl5 HG5
     have HMgo5 := Aside0.mk (show (P0_ go5 ∨ w.heap.size ≤ go5) from (HO_0.out.1 _ rfl))
     obtain ⟨ce5, hcl5, hM5, hcc5, hfr5⟩ := Kd.R_elem HO_0.out z106 (x5_1 : Int) p5 q5
     obtain rfl := k106_openM hM5
     have hx5_0 : wr.cell? ⟨go5, (x5_1 : Int).toNat * 6, none⟩ = some (.int .i64 ((rd_T106 x0_1 x5_1).f0)) := hcc5 0 _ rfl
     have hx5_1 : wr.cell? ⟨go5, (x5_1 : Int).toNat * 6 + 1, none⟩ = some (.int .i64 ((rd_T106 x0_1 x5_1).f1)) := hcc5 1 _ rfl
     have hx5_2 : wr.cell? ⟨go5, (x5_1 : Int).toNat * 6 + 2, none⟩ = some (.int .i64 ((rd_T106 x0_1 x5_1).f2)) := hcc5 2 _ rfl
     have hx5_3 : wr.cell? ⟨go5, (x5_1 : Int).toNat * 6 + 3, none⟩ = some (.int .i64 ((rd_T106 x0_1 x5_1).f3.f0)) := hcc5 3 _ rfl
     have hx5_4 : wr.cell? ⟨go5, (x5_1 : Int).toNat * 6 + 4, none⟩ = some (.int .i64 ((rd_T106 x0_1 x5_1).f3.f1)) := hcc5 4 _ rfl
     have hx5_5 : wr.cell? ⟨go5, (x5_1 : Int).toNat * 6 + 5, none⟩ = some (.string ((rd_T106 x0_1 x5_1).f3.f2)) := hcc5 5 _ rfl
     have hf5_0 : wr.frozen? ⟨go5, (x5_1 : Int).toNat * 6, none⟩ = false := hfr5 0
     have hf5_1 : wr.frozen? ⟨go5, (x5_1 : Int).toNat * 6 + 1, none⟩ = false := hfr5 1
     have hf5_2 : wr.frozen? ⟨go5, (x5_1 : Int).toNat * 6 + 2, none⟩ = false := hfr5 2
     have hf5_3 : wr.frozen? ⟨go5, (x5_1 : Int).toNat * 6 + 3, none⟩ = false := hfr5 3
     have hf5_4 : wr.frozen? ⟨go5, (x5_1 : Int).toNat * 6 + 4, none⟩ = false := hfr5 4
     have hf5_5 : wr.frozen? ⟨go5, (x5_1 : Int).toNat * 6 + 5, none⟩ = false := hfr5 5
     clear hcl5 hcc5 hfr5; (try clear hM5)
     replace p5 := eq_true p5
     replace q5 := eq_true q5
     have HX13 := Aside0.mk (show Kd.R k106 106 wr w0.heap.size (fun k_ => (P0_ k_ ∨ w.heap.size ≤ k_)) (.slice (some ⟨go5, 0, none⟩) x0_1.length co12) x0_1 from (by (with_reducible repeat (first | apply Kd.R_alloc | apply Kd.R_drewN | apply Kd.R_drew)); exact HO_0.out))
     obtain ⟨ce13, hcl13, hM13, hcc13, hfr13⟩ := Kd.R_elem HX13.out z106 (x5_1 : Int) (of_decide_eq_true (by first | (with_reducible assumption) | assumption)) (by have h_ : (x5_1 : Int) < ((x0_1.length : Int) : Int) := of_decide_eq_true (by first | (with_reducible assumption) | assumption); first | exact h_ | (have e_ := (Kd.R_reads' HO_0.out).1; omega) | simpa using h_)
     obtain rfl := k106_openM hM13
     have HP13 := Kd.R_seg HX13.out (x5_1 : Int) (of_decide_eq_true (by first | (with_reducible assumption) | assumption)) (by have h_ : (x5_1 : Int) < ((x0_1.length : Int) : Int) := of_decide_eq_true (by first | (with_reducible assumption) | assumption); first | exact h_ | (have e_ := (Kd.R_reads' HO_0.out).1; omega) | simpa using h_) (seg := [.int .i64 x1_1]) (j := 0) hcl13 hcc13 (show 1 ≤ 6 from by decide) (x' := (⟨x1_1, (rd_T106 x0_1 x5_1).f1, (rd_T106 x0_1 x5_1).f2, (⟨(rd_T106 x0_1 x5_1).f3.f0, (rd_T106 x0_1 x5_1).f3.f1, (rd_T106 x0_1 x5_1).f3.f2⟩ : S104)⟩ : S106)) (k106_mkM _ _ _ (⟨x1_1, (rd_T106 x0_1 x5_1).f1, (rd_T106 x0_1 x5_1).f2, (⟨(rd_T106 x0_1 x5_1).f3.f0, (rd_T106 x0_1 x5_1).f3.f1, (rd_T106 x0_1 x5_1).f3.f2⟩ : S104)⟩ : S106) ) (fun _ hk => hk)
     have hx13_0 := hcc13 0 _ rfl
     (try simp only [show (k106).sz = 6 from rfl, Nat.mul_one, Nat.add_zero] at hx13_0)
     have hf13_0 := hfr13 0
     (try simp only [show (k106).sz = 6 from rfl, Nat.mul_one, Nat.add_zero] at hf13_0)
     clear hcl13 hcc13 hfr13; (try clear hM13)
     go_wp2_with (first | ((with_reducible refine gate_store (t := 3) (p := 16) rfl ?_); refine store_event (t := 3) (p := 16) (v := ?vo_w14) (w1 := (wr.setCell ⟨go5, (x5_1 : Int).toNat * 6, none⟩ (.int .i64 x1_1))) ?hg ?ho ?hn ?hr ?_; (case ho => rfl); (case hg => rfl); (case hn => rfl); (case hr => first | (go_simp; done) | (go_simp; rfl)); intro w14 hw; have hg : wr.grownBy w14 (some go5) := (by rw [hw]; exact HP13.2); have hp_ : Kd.R k106 106 w14 w0.heap.size (fun k_ => (P0_ k_ ∨ w.heap.size ≤ k_)) (.slice (some ⟨go5, 0, none⟩) x0_1.length co12) y384 := (by rw [hw, Ny384.out]; exact HP13.1); clear HP13; have n0_ := Aside0.mk (hp_); have n1_ := Aside0.mk ((by rw [hw]; exact below_set (HB.out) GB5.out : Below w0.heap.size w0 w14)); have n2_ := Aside0.mk (Kept.of_grown (S := (fun k_ => P0_ k_)) hg (by repeat (first | (with_reducible first | exact HK.out | apply Kept.alloc | apply Kept.drewN | apply Kept.drew) | exact HK.out)) (fun k_ e_ => (HO_0.out.1 k_ e_))); clear HO_0; clear HB; clear HK; have HO_0 := n0_; have HB := n1_; have HK := n2_; clear n0_ n1_ n2_; clear hg hw hp_; have p6 : 0 ≤ (x5_1 : Int) := of_decide_eq_true (by first | (with_reducible assumption) | assumption); have q6 : (x5_1 : Int) < ((x0_1.length : Int) : Int) := of_decide_eq_true (by first | (with_reducible assumption) | assumption); obtain ⟨ce6, hcl6, hM6, hcc6, hfr6⟩ := Kd.R_elem HO_0.out z106 (x5_1 : Int) p6 q6; obtain rfl := k106_openM hM6; have hx6_0 : w14.cell? ⟨go5, (x5_1 : Int).toNat * 6, none⟩ = some (.int .i64 ((rd_T106 y384 x5_1).f0)) := hcc6 0 _ rfl; have hx6_1 : w14.cell? ⟨go5, (x5_1 : Int).toNat * 6 + 1, none⟩ = some (.int .i64 ((rd_T106 y384 x5_1).f1)) := hcc6 1 _ rfl; have hx6_2 : w14.cell? ⟨go5, (x5_1 : Int).toNat * 6 + 2, none⟩ = some (.int .i64 ((rd_T106 y384 x5_1).f2)) := hcc6 2 _ rfl; have hx6_3 : w14.cell? ⟨go5, (x5_1 : Int).toNat * 6 + 3, none⟩ = some (.int .i64 ((rd_T106 y384 x5_1).f3.f0)) := hcc6 3 _ rfl; have hx6_4 : w14.cell? ⟨go5, (x5_1 : Int).toNat * 6 + 4, none⟩ = some (.int .i64 ((rd_T106 y384 x5_1).f3.f1)) := hcc6 4 _ rfl; have hx6_5 : w14.cell? ⟨go5, (x5_1 : Int).toNat * 6 + 5, none⟩ = some (.string ((rd_T106 y384 x5_1).f3.f2)) := hcc6 5 _ rfl; have hf6_0 : w14.frozen? ⟨go5, (x5_1 : Int).toNat * 6, none⟩ = false := hfr6 0; have hf6_1 : w14.frozen? ⟨go5, (x5_1 : Int).toNat * 6 + 1, none⟩ = false := hfr6 1; have hf6_2 : w14.frozen? ⟨go5, (x5_1 : Int).toNat * 6 + 2, none⟩ = false := hfr6 2; have hf6_3 : w14.frozen? ⟨go5, (x5_1 : Int).toNat * 6 + 3, none⟩ = false := hfr6 3; have hf6_4 : w14.frozen? ⟨go5, (x5_1 : Int).toNat * 6 + 4, none⟩ = false := hfr6 4; have hf6_5 : w14.frozen? ⟨go5, (x5_1 : Int).toNat * 6 + 5, none⟩ = false := hfr6 5; clear hcl6 hcc6 hfr6; (try clear hM6); replace p6 := eq_true p6; replace q6 := eq_true q6; have HX15 := Aside0.mk (show Kd.R k106 106 w14 w0.heap.size (fun k_ => (P0_ k_ ∨ w.heap.size ≤ k_)) (.slice (some ⟨go5, 0, none⟩) x0_1.length co12) y384 from (by (with_reducible repeat (first | apply Kd.R_alloc | apply Kd.R_drewN | apply Kd.R_drew)); exact HO_0.out)); obtain ⟨ce15, hcl15, hM15, hcc15, hfr15⟩ := Kd.R_elem HX15.out z106 (x5_1 : Int) (of_decide_eq_true (by first | (with_reducible assumption) | assumption)) (by have h_ : (x5_1 : Int) < ((x0_1.length : Int) : Int) := of_decide_eq_true (by first | (with_reducible assumption) | assumption); first | exact h_ | (have e_ := (Kd.R_reads' HO_0.out).1; omega) | simpa using h_); obtain rfl := k106_openM hM15; have HP15 := Kd.R_seg HX15.out (x5_1 : Int) (of_decide_eq_true (by first | (with_reducible assumption) | assumption)) (by have h_ : (x5_1 : Int) < ((x0_1.length : Int) : Int) := of_decide_eq_true (by first | (with_reducible assumption) | assumption); first | exact h_ | (have e_ := (Kd.R_reads' HO_0.out).1; omega) | simpa using h_) (seg := [.int .i64 (wrap64 (x1_1 + 1))]) (j := 1) hcl15 hcc15 (show 2 ≤ 6 from by decide) (x' := (⟨(rd_T106 y384 x5_1).f0, wrap64 (x1_1 + 1), (rd_T106 y384 x5_1).f2, (⟨(rd_T106 y384 x5_1).f3.f0, (rd_T106 y384 x5_1).f3.f1, (rd_T106 y384 x5_1).f3.f2⟩ : S104)⟩ : S106)) (k106_mkM _ _ _ (⟨(rd_T106 y384 x5_1).f0, wrap64 (x1_1 + 1), (rd_T106 y384 x5_1).f2, (⟨(rd_T106 y384 x5_1).f3.f0, (rd_T106 y384 x5_1).f3.f1, (rd_T106 y384 x5_1).f3.f2⟩ : S104)⟩ : S106) ) (fun _ hk => hk); have hx15_1 := hcc15 1 _ rfl; (try simp only [show (k106).sz = 6 from rfl, Nat.mul_one, Nat.add_zero] at hx15_1); have hf15_1 := hfr15 1; (try simp only [show (k106).sz = 6 from rfl, Nat.mul_one, Nat.add_zero] at hf15_1); clear hcl15 hcc15 hfr15; (try clear hM15)) | ((with_reducible refine gate_store (t := 3) (p := 23) rfl ?_); refine store_event (t := 3) (p := 23) (v := ?vo_w16) (w1 := (w14.setCell ⟨go5, (x5_1 : Int).toNat * 6 + 1, none⟩ (.int .i64 (wrap64 (x1_1 + 1))))) ?hg ?ho ?hn ?hr ?_; (case ho => rfl); (case hg => rfl); (case hn => rfl); (case hr => first | (go_simp; done) | (go_simp; rfl)); intro w16 hw; have hg : w14.grownBy w16 (some go5) := (by rw [hw]; exact HP15.2); have hp_ : Kd.R k106 106 w16 w0.heap.size (fun k_ => (P0_ k_ ∨ w.heap.size ≤ k_)) (.slice (some ⟨go5, 0, none⟩) x0_1.length co12) y385 := (by rw [hw, Ny385.out]; exact HP15.1); clear HP15; have n0_ := Aside0.mk (hp_); have n1_ := Aside0.mk ((by rw [hw]; exact below_set (HB.out) GB5.out : Below w0.heap.size w0 w16)); have n2_ := Aside0.mk (Kept.of_grown (S := (fun k_ => P0_ k_)) hg (by repeat (first | (with_reducible first | exact HK.out | apply Kept.alloc | apply Kept.drewN | apply Kept.drew) | exact HK.out)) (fun k_ e_ => (HO_0.out.1 k_ e_))); clear HO_0; clear HB; clear HK; have HO_0 := n0_; have HB := n1_; have HK := n2_; clear n0_ n1_ n2_; clear hg hw hp_; have p7 : 0 ≤ (x5_1 : Int) := of_decide_eq_true (by first | (with_reducible assumption) | assumption); have q7 : (x5_1 : Int) < ((x0_1.length : Int) : Int) := of_decide_eq_true (by first | (with_reducible assumption) | assumption); obtain ⟨ce7, hcl7, hM7, hcc7, hfr7⟩ := Kd.R_elem HO_0.out z106 (x5_1 : Int) p7 q7; obtain rfl := k106_openM hM7; have hx7_0 : w16.cell? ⟨go5, (x5_1 : Int).toNat * 6, none⟩ = some (.int .i64 ((rd_T106 y385 x5_1).f0)) := hcc7 0 _ rfl; have hx7_1 : w16.cell? ⟨go5, (x5_1 : Int).toNat * 6 + 1, none⟩ = some (.int .i64 ((rd_T106 y385 x5_1).f1)) := hcc7 1 _ rfl; have hx7_2 : w16.cell? ⟨go5, (x5_1 : Int).toNat * 6 + 2, none⟩ = some (.int .i64 ((rd_T106 y385 x5_1).f2)) := hcc7 2 _ rfl; have hx7_3 : w16.cell? ⟨go5, (x5_1 : Int).toNat * 6 + 3, none⟩ = some (.int .i64 ((rd_T106 y385 x5_1).f3.f0)) := hcc7 3 _ rfl; have hx7_4 : w16.cell? ⟨go5, (x5_1 : Int).toNat * 6 + 4, none⟩ = some (.int .i64 ((rd_T106 y385 x5_1).f3.f1)) := hcc7 4 _ rfl; have hx7_5 : w16.cell? ⟨go5, (x5_1 : Int).toNat * 6 + 5, none⟩ = some (.string ((rd_T106 y385 x5_1).f3.f2)) := hcc7 5 _ rfl; have hf7_0 : w16.frozen? ⟨go5, (x5_1 : Int).toNat * 6, none⟩ = false := hfr7 0; have hf7_1 : w16.frozen? ⟨go5, (x5_1 : Int).toNat * 6 + 1, none⟩ = false := hfr7 1; have hf7_2 : w16.frozen? ⟨go5, (x5_1 : Int).toNat * 6 + 2, none⟩ = false := hfr7 2; have hf7_3 : w16.frozen? ⟨go5, (x5_1 : Int).toNat * 6 + 3, none⟩ = false := hfr7 3; have hf7_4 : w16.frozen? ⟨go5, (x5_1 : Int).toNat * 6 + 4, none⟩ = false := hfr7 4; have hf7_5 : w16.frozen? ⟨go5, (x5_1 : Int).toNat * 6 + 5, none⟩ = false := hfr7 5; clear hcl7 hcc7 hfr7; (try clear hM7); replace p7 := eq_true p7; replace q7 := eq_true q7; have HX17 := Aside0.mk (show Kd.R k106 106 w16 w0.heap.size (fun k_ => (P0_ k_ ∨ w.heap.size ≤ k_)) (.slice (some ⟨go5, 0, none⟩) x0_1.length co12) y385 from (by (with_reducible repeat (first | apply Kd.R_alloc | apply Kd.R_drewN | apply Kd.R_drew)); exact HO_0.out)); obtain ⟨ce17, hcl17, hM17, hcc17, hfr17⟩ := Kd.R_elem HX17.out z106 (x5_1 : Int) (of_decide_eq_true (by first | (with_reducible assumption) | assumption)) (by have h_ : (x5_1 : Int) < ((x0_1.length : Int) : Int) := of_decide_eq_true (by first | (with_reducible assumption) | assumption); first | exact h_ | (have e_ := (Kd.R_reads' HO_0.out).1; omega) | simpa using h_); obtain rfl := k106_openM hM17; have HP17 := Kd.R_seg HX17.out (x5_1 : Int) (of_decide_eq_true (by first | (with_reducible assumption) | assumption)) (by have h_ : (x5_1 : Int) < ((x0_1.length : Int) : Int) := of_decide_eq_true (by first | (with_reducible assumption) | assumption); first | exact h_ | (have e_ := (Kd.R_reads' HO_0.out).1; omega) | simpa using h_) (seg := [.int .i64 (wrap64 ((wrap64 (x1_1 + 1)) + 1))]) (j := 2) hcl17 hcc17 (show 3 ≤ 6 from by decide) (x' := (⟨(rd_T106 y385 x5_1).f0, (rd_T106 y385 x5_1).f1, wrap64 ((wrap64 (x1_1 + 1)) + 1), (⟨(rd_T106 y385 x5_1).f3.f0, (rd_T106 y385 x5_1).f3.f1, (rd_T106 y385 x5_1).f3.f2⟩ : S104)⟩ : S106)) (k106_mkM _ _ _ (⟨(rd_T106 y385 x5_1).f0, (rd_T106 y385 x5_1).f1, wrap64 ((wrap64 (x1_1 + 1)) + 1), (⟨(rd_T106 y385 x5_1).f3.f0, (rd_T106 y385 x5_1).f3.f1, (rd_T106 y385 x5_1).f3.f2⟩ : S104)⟩ : S106) ) (fun _ hk => hk); have hx17_2 := hcc17 2 _ rfl; (try simp only [show (k106).sz = 6 from rfl, Nat.mul_one, Nat.add_zero] at hx17_2); have hf17_2 := hfr17 2; (try simp only [show (k106).sz = 6 from rfl, Nat.mul_one, Nat.add_zero] at hf17_2); clear hcl17 hcc17 hfr17; (try clear hM17)) | ((with_reducible refine gate_store (t := 3) (p := 30) rfl ?_); refine store_event (t := 3) (p := 30) (v := ?vo_w18) (w1 := (w16.setCell ⟨go5, (x5_1 : Int).toNat * 6 + 2, none⟩ (.int .i64 (wrap64 ((wrap64 (x1_1 + 1)) + 1))))) ?hg ?ho ?hn ?hr ?_; (case ho => rfl); (case hg => rfl); (case hn => rfl); (case hr => first | (go_simp; done) | (go_simp; rfl)); intro w18 hw; have hg : w16.grownBy w18 (some go5) := (by rw [hw]; exact HP17.2); have hp_ : Kd.R k106 106 w18 w0.heap.size (fun k_ => (P0_ k_ ∨ w.heap.size ≤ k_)) (.slice (some ⟨go5, 0, none⟩) x0_1.length co12) y386 := (by rw [hw, Ny386.out]; exact HP17.1); clear HP17; have n0_ := Aside0.mk (hp_); have n1_ := Aside0.mk ((by rw [hw]; exact below_set (HB.out) GB5.out : Below w0.heap.size w0 w18)); have n2_ := Aside0.mk (Kept.of_grown (S := (fun k_ => P0_ k_)) hg (by repeat (first | (with_reducible first | exact HK.out | apply Kept.alloc | apply Kept.drewN | apply Kept.drew) | exact HK.out)) (fun k_ e_ => (HO_0.out.1 k_ e_))); clear HO_0; clear HB; clear HK; have HO_0 := n0_; have HB := n1_; have HK := n2_; clear n0_ n1_ n2_; clear hg hw hp_; have p8 : 0 ≤ (x5_1 : Int) := of_decide_eq_true (by first | (with_reducible assumption) | assumption); have q8 : (x5_1 : Int) < ((x0_1.length : Int) : Int) := of_decide_eq_true (by first | (with_reducible assumption) | assumption); obtain ⟨ce8, hcl8, hM8, hcc8, hfr8⟩ := Kd.R_elem HO_0.out z106 (x5_1 : Int) p8 q8; obtain rfl := k106_openM hM8; have hx8_0 : w18.cell? ⟨go5, (x5_1 : Int).toNat * 6, none⟩ = some (.int .i64 ((rd_T106 y386 x5_1).f0)) := hcc8 0 _ rfl; have hx8_1 : w18.cell? ⟨go5, (x5_1 : Int).toNat * 6 + 1, none⟩ = some (.int .i64 ((rd_T106 y386 x5_1).f1)) := hcc8 1 _ rfl; have hx8_2 : w18.cell? ⟨go5, (x5_1 : Int).toNat * 6 + 2, none⟩ = some (.int .i64 ((rd_T106 y386 x5_1).f2)) := hcc8 2 _ rfl; have hx8_3 : w18.cell? ⟨go5, (x5_1 : Int).toNat * 6 + 3, none⟩ = some (.int .i64 ((rd_T106 y386 x5_1).f3.f0)) := hcc8 3 _ rfl; have hx8_4 : w18.cell? ⟨go5, (x5_1 : Int).toNat * 6 + 4, none⟩ = some (.int .i64 ((rd_T106 y386 x5_1).f3.f1)) := hcc8 4 _ rfl; have hx8_5 : w18.cell? ⟨go5, (x5_1 : Int).toNat * 6 + 5, none⟩ = some (.string ((rd_T106 y386 x5_1).f3.f2)) := hcc8 5 _ rfl; have hf8_0 : w18.frozen? ⟨go5, (x5_1 : Int).toNat * 6, none⟩ = false := hfr8 0; have hf8_1 : w18.frozen? ⟨go5, (x5_1 : Int).toNat * 6 + 1, none⟩ = false := hfr8 1; have hf8_2 : w18.frozen? ⟨go5, (x5_1 : Int).toNat * 6 + 2, none⟩ = false := hfr8 2; have hf8_3 : w18.frozen? ⟨go5, (x5_1 : Int).toNat * 6 + 3, none⟩ = false := hfr8 3; have hf8_4 : w18.frozen? ⟨go5, (x5_1 : Int).toNat * 6 + 4, none⟩ = false := hfr8 4; have hf8_5 : w18.frozen? ⟨go5, (x5_1 : Int).toNat * 6 + 5, none⟩ = false := hfr8 5; clear hcl8 hcc8 hfr8; (try clear hM8); replace p8 := eq_true p8; replace q8 := eq_true q8; have HX19 := Aside0.mk (show Kd.R k106 106 w18 w0.heap.size (fun k_ => (P0_ k_ ∨ w.heap.size ≤ k_)) (.slice (some ⟨go5, 0, none⟩) x0_1.length co12) y386 from (by (with_reducible repeat (first | apply Kd.R_alloc | apply Kd.R_drewN | apply Kd.R_drew)); exact HO_0.out)); obtain ⟨ce19, hcl19, hM19, hcc19, hfr19⟩ := Kd.R_elem HX19.out z106 (x5_1 : Int) (of_decide_eq_true (by first | (with_reducible assumption) | assumption)) (by have h_ : (x5_1 : Int) < ((x0_1.length : Int) : Int) := of_decide_eq_true (by first | (with_reducible assumption) | assumption); first | exact h_ | (have e_ := (Kd.R_reads' HO_0.out).1; omega) | simpa using h_); obtain rfl := k106_openM hM19; have HP19 := Kd.R_seg HX19.out (x5_1 : Int) (of_decide_eq_true (by first | (with_reducible assumption) | assumption)) (by have h_ : (x5_1 : Int) < ((x0_1.length : Int) : Int) := of_decide_eq_true (by first | (with_reducible assumption) | assumption); first | exact h_ | (have e_ := (Kd.R_reads' HO_0.out).1; omega) | simpa using h_) (seg := [.int .i64 (wrap64 ((wrap64 ((wrap64 (x1_1 + 1)) + 1)) + 1))]) (j := 3) hcl19 hcc19 (show 4 ≤ 6 from by decide) (x' := (⟨(rd_T106 y386 x5_1).f0, (rd_T106 y386 x5_1).f1, (rd_T106 y386 x5_1).f2, (⟨wrap64 ((wrap64 ((wrap64 (x1_1 + 1)) + 1)) + 1), (rd_T106 y386 x5_1).f3.f1, (rd_T106 y386 x5_1).f3.f2⟩ : S104)⟩ : S106)) (k106_mkM _ _ _ (⟨(rd_T106 y386 x5_1).f0, (rd_T106 y386 x5_1).f1, (rd_T106 y386 x5_1).f2, (⟨wrap64 ((wrap64 ((wrap64 (x1_1 + 1)) + 1)) + 1), (rd_T106 y386 x5_1).f3.f1, (rd_T106 y386 x5_1).f3.f2⟩ : S104)⟩ : S106) ) (fun _ hk => hk); have hx19_3 := hcc19 3 _ rfl; (try simp only [show (k106).sz = 6 from rfl, Nat.mul_one, Nat.add_zero] at hx19_3); have hf19_3 := hfr19 3; (try simp only [show (k106).sz = 6 from rfl, Nat.mul_one, Nat.add_zero] at hf19_3); clear hcl19 hcc19 hfr19; (try clear hM19)) | ((with_reducible refine gate_store (t := 3) (p := 38) rfl ?_); refine store_event (t := 3) (p := 38) (v := ?vo_w20) (w1 := (w18.setCell ⟨go5, (x5_1 : Int).toNat * 6 + 3, none⟩ (.int .i64 (wrap64 ((wrap64 ((wrap64 (x1_1 + 1)) + 1)) + 1))))) ?hg ?ho ?hn ?hr ?_; (case ho => rfl); (case hg => rfl); (case hn => rfl); (case hr => first | (go_simp; done) | (go_simp; rfl)); intro w20 hw; have hg : w18.grownBy w20 (some go5) := (by rw [hw]; exact HP19.2); have hp_ : Kd.R k106 106 w20 w0.heap.size (fun k_ => (P0_ k_ ∨ w.heap.size ≤ k_)) (.slice (some ⟨go5, 0, none⟩) x0_1.length co12) y387 := (by rw [hw, Ny387.out]; exact HP19.1); clear HP19; have n0_ := Aside0.mk (hp_); have n1_ := Aside0.mk ((by rw [hw]; exact below_set (HB.out) GB5.out : Below w0.heap.size w0 w20)); have n2_ := Aside0.mk (Kept.of_grown (S := (fun k_ => P0_ k_)) hg (by repeat (first | (with_reducible first | exact HK.out | apply Kept.alloc | apply Kept.drewN | apply Kept.drew) | exact HK.out)) (fun k_ e_ => (HO_0.out.1 k_ e_))); clear HO_0; clear HB; clear HK; have HO_0 := n0_; have HB := n1_; have HK := n2_; clear n0_ n1_ n2_; clear hg hw hp_; have p9 : 0 ≤ (x5_1 : Int) := of_decide_eq_true (by first | (with_reducible assumption) | assumption); have q9 : (x5_1 : Int) < ((x0_1.length : Int) : Int) := of_decide_eq_true (by first | (with_reducible assumption) | assumption); obtain ⟨ce9, hcl9, hM9, hcc9, hfr9⟩ := Kd.R_elem HO_0.out z106 (x5_1 : Int) p9 q9; obtain rfl := k106_openM hM9; have hx9_0 : w20.cell? ⟨go5, (x5_1 : Int).toNat * 6, none⟩ = some (.int .i64 ((rd_T106 y387 x5_1).f0)) := hcc9 0 _ rfl; have hx9_1 : w20.cell? ⟨go5, (x5_1 : Int).toNat * 6 + 1, none⟩ = some (.int .i64 ((rd_T106 y387 x5_1).f1)) := hcc9 1 _ rfl; have hx9_2 : w20.cell? ⟨go5, (x5_1 : Int).toNat * 6 + 2, none⟩ = some (.int .i64 ((rd_T106 y387 x5_1).f2)) := hcc9 2 _ rfl; have hx9_3 : w20.cell? ⟨go5, (x5_1 : Int).toNat * 6 + 3, none⟩ = some (.int .i64 ((rd_T106 y387 x5_1).f3.f0)) := hcc9 3 _ rfl; have hx9_4 : w20.cell? ⟨go5, (x5_1 : Int).toNat * 6 + 4, none⟩ = some (.int .i64 ((rd_T106 y387 x5_1).f3.f1)) := hcc9 4 _ rfl; have hx9_5 : w20.cell? ⟨go5, (x5_1 : Int).toNat * 6 + 5, none⟩ = some (.string ((rd_T106 y387 x5_1).f3.f2)) := hcc9 5 _ rfl; have hf9_0 : w20.frozen? ⟨go5, (x5_1 : Int).toNat * 6, none⟩ = false := hfr9 0; have hf9_1 : w20.frozen? ⟨go5, (x5_1 : Int).toNat * 6 + 1, none⟩ = false := hfr9 1; have hf9_2 : w20.frozen? ⟨go5, (x5_1 : Int).toNat * 6 + 2, none⟩ = false := hfr9 2; have hf9_3 : w20.frozen? ⟨go5, (x5_1 : Int).toNat * 6 + 3, none⟩ = false := hfr9 3; have hf9_4 : w20.frozen? ⟨go5, (x5_1 : Int).toNat * 6 + 4, none⟩ = false := hfr9 4; have hf9_5 : w20.frozen? ⟨go5, (x5_1 : Int).toNat * 6 + 5, none⟩ = false := hfr9 5; clear hcl9 hcc9 hfr9; (try clear hM9); replace p9 := eq_true p9; replace q9 := eq_true q9; have HX21 := Aside0.mk (show Kd.R k106 106 w20 w0.heap.size (fun k_ => (P0_ k_ ∨ w.heap.size ≤ k_)) (.slice (some ⟨go5, 0, none⟩) x0_1.length co12) y387 from (by (with_reducible repeat (first | apply Kd.R_alloc | apply Kd.R_drewN | apply Kd.R_drew)); exact HO_0.out)); obtain ⟨ce21, hcl21, hM21, hcc21, hfr21⟩ := Kd.R_elem HX21.out z106 (x5_1 : Int) (of_decide_eq_true (by first | (with_reducible assumption) | assumption)) (by have h_ : (x5_1 : Int) < ((x0_1.length : Int) : Int) := of_decide_eq_true (by first | (with_reducible assumption) | assumption); first | exact h_ | (have e_ := (Kd.R_reads' HO_0.out).1; omega) | simpa using h_); obtain rfl := k106_openM hM21; have HP21 := Kd.R_seg HX21.out (x5_1 : Int) (of_decide_eq_true (by first | (with_reducible assumption) | assumption)) (by have h_ : (x5_1 : Int) < ((x0_1.length : Int) : Int) := of_decide_eq_true (by first | (with_reducible assumption) | assumption); first | exact h_ | (have e_ := (Kd.R_reads' HO_0.out).1; omega) | simpa using h_) (seg := [.int .i64 (wrap64 ((wrap64 ((wrap64 ((wrap64 (x1_1 + 1)) + 1)) + 1)) + 1))]) (j := 4) hcl21 hcc21 (show 5 ≤ 6 from by decide) (x' := (⟨(rd_T106 y387 x5_1).f0, (rd_T106 y387 x5_1).f1, (rd_T106 y387 x5_1).f2, (⟨(rd_T106 y387 x5_1).f3.f0, wrap64 ((wrap64 ((wrap64 ((wrap64 (x1_1 + 1)) + 1)) + 1)) + 1), (rd_T106 y387 x5_1).f3.f2⟩ : S104)⟩ : S106)) (k106_mkM _ _ _ (⟨(rd_T106 y387 x5_1).f0, (rd_T106 y387 x5_1).f1, (rd_T106 y387 x5_1).f2, (⟨(rd_T106 y387 x5_1).f3.f0, wrap64 ((wrap64 ((wrap64 ((wrap64 (x1_1 + 1)) + 1)) + 1)) + 1), (rd_T106 y387 x5_1).f3.f2⟩ : S104)⟩ : S106) ) (fun _ hk => hk); have hx21_4 := hcc21 4 _ rfl; (try simp only [show (k106).sz = 6 from rfl, Nat.mul_one, Nat.add_zero] at hx21_4); have hf21_4 := hfr21 4; (try simp only [show (k106).sz = 6 from rfl, Nat.mul_one, Nat.add_zero] at hf21_4); clear hcl21 hcc21 hfr21; (try clear hM21)) | ((with_reducible refine gate_store (t := 2) (p := 46) rfl ?_); refine store_event (t := 2) (p := 46) (v := ?vo_w22) (w1 := (w20.setCell ⟨go5, (x5_1 : Int).toNat * 6 + 4, none⟩ (.int .i64 (wrap64 ((wrap64 ((wrap64 ((wrap64 (x1_1 + 1)) + 1)) + 1)) + 1))))) ?hg ?ho ?hn ?hr ?_; (case ho => rfl); (case hg => rfl); (case hn => rfl); (case hr => first | (go_simp; done) | (go_simp; rfl)); intro w22 hw; have hg : w20.grownBy w22 (some go5) := (by rw [hw]; exact HP21.2); have hp_ : Kd.R k106 106 w22 w0.heap.size (fun k_ => (P0_ k_ ∨ w.heap.size ≤ k_)) (.slice (some ⟨go5, 0, none⟩) x0_1.length co12) y388 := (by rw [hw, Ny388.out]; exact HP21.1); clear HP21; have n0_ := Aside0.mk (hp_); have n1_ := Aside0.mk ((by rw [hw]; exact below_set (HB.out) GB5.out : Below w0.heap.size w0 w22)); have n2_ := Aside0.mk (Kept.of_grown (S := (fun k_ => P0_ k_)) hg (by repeat (first | (with_reducible first | exact HK.out | apply Kept.alloc | apply Kept.drewN | apply Kept.drew) | exact HK.out)) (fun k_ e_ => (HO_0.out.1 k_ e_))); clear HO_0; clear HB; clear HK; have HO_0 := n0_; have HB := n1_; have HK := n2_; clear n0_ n1_ n2_; clear hg hw hp_) | ((with_reducible refine gate_callee (f := 88) rfl ?_); refine goesL_ (some 52) rfl rfl Try.func88 (by kernel_rfl) rfl #[.int .i64 (wrap64 ((wrap64 ((wrap64 ((wrap64 ((wrap64 (x1_1 + 1)) + 1)) + 1)) + 1)) + 1))] rfl (by (try simp only [List.map_toArray, List.map_cons, List.map_nil]); first | done | rfl | (simp only [List.length_drop, List.length_take]; rfl)) ?_; (with_reducible refine (laws_markText.calls k1 (wrap64 ((wrap64 ((wrap64 ((wrap64 ((wrap64 (x1_1 + 1)) + 1)) + 1)) + 1)) + 1)) t389 _ A10.out).mono ?_); rintro e w23 ⟨rfl, hb⟩; refine ⟨_, rfl, ?_⟩; have n0_ := Aside0.mk (Kd.R_below (by (with_reducible repeat (first | apply Kd.R_alloc | apply Kd.R_drewN | apply Kd.R_drew)); exact HO_0.out) hb); have n1_ := Aside0.mk (Kept.below (S := (fun k_ => P0_ k_)) (by repeat (first | (with_reducible first | exact HK.out | apply Kept.alloc | apply Kept.drewN | apply Kept.drew) | exact HK.out)) hb); have n2_ := Aside0.mk (below_step (by repeat (first | (with_reducible first | exact HB.out | apply below_alloc | apply pw_below_drewN | apply below_drew1) | exact HB.out)) hb); clear HO_0; clear HK; clear HB; have HO_0 := n0_; have HK := n1_; have HB := n2_; clear n0_ n1_ n2_; (try clear hb); (try clear hb2); (try clear hk); (try clear hi); have p11 : 0 ≤ (x5_1 : Int) := of_decide_eq_true (by first | (with_reducible assumption) | assumption); have q11 : (x5_1 : Int) < ((x0_1.length : Int) : Int) := of_decide_eq_true (by first | (with_reducible assumption) | assumption); obtain ⟨ce11, hcl11, hM11, hcc11, hfr11⟩ := Kd.R_elem HO_0.out z106 (x5_1 : Int) p11 q11; obtain rfl := k106_openM hM11; have hx11_0 : w23.cell? ⟨go5, (x5_1 : Int).toNat * 6, none⟩ = some (.int .i64 ((rd_T106 y388 x5_1).f0)) := hcc11 0 _ rfl; have hx11_1 : w23.cell? ⟨go5, (x5_1 : Int).toNat * 6 + 1, none⟩ = some (.int .i64 ((rd_T106 y388 x5_1).f1)) := hcc11 1 _ rfl; have hx11_2 : w23.cell? ⟨go5, (x5_1 : Int).toNat * 6 + 2, none⟩ = some (.int .i64 ((rd_T106 y388 x5_1).f2)) := hcc11 2 _ rfl; have hx11_3 : w23.cell? ⟨go5, (x5_1 : Int).toNat * 6 + 3, none⟩ = some (.int .i64 ((rd_T106 y388 x5_1).f3.f0)) := hcc11 3 _ rfl; have hx11_4 : w23.cell? ⟨go5, (x5_1 : Int).toNat * 6 + 4, none⟩ = some (.int .i64 ((rd_T106 y388 x5_1).f3.f1)) := hcc11 4 _ rfl; have hx11_5 : w23.cell? ⟨go5, (x5_1 : Int).toNat * 6 + 5, none⟩ = some (.string ((rd_T106 y388 x5_1).f3.f2)) := hcc11 5 _ rfl; have hf11_0 : w23.frozen? ⟨go5, (x5_1 : Int).toNat * 6, none⟩ = false := hfr11 0; have hf11_1 : w23.frozen? ⟨go5, (x5_1 : Int).toNat * 6 + 1, none⟩ = false := hfr11 1; have hf11_2 : w23.frozen? ⟨go5, (x5_1 : Int).toNat * 6 + 2, none⟩ = false := hfr11 2; have hf11_3 : w23.frozen? ⟨go5, (x5_1 : Int).toNat * 6 + 3, none⟩ = false := hfr11 3; have hf11_4 : w23.frozen? ⟨go5, (x5_1 : Int).toNat * 6 + 4, none⟩ = false := hfr11 4; have hf11_5 : w23.frozen? ⟨go5, (x5_1 : Int).toNat * 6 + 5, none⟩ = false := hfr11 5; clear hcl11 hcc11 hfr11; (try clear hM11); replace p11 := eq_true p11; replace q11 := eq_true q11; have HX24 := Aside0.mk (show Kd.R k106 106 w23 w0.heap.size (fun k_ => (P0_ k_ ∨ w.heap.size ≤ k_)) (.slice (some ⟨go5, 0, none⟩) x0_1.length co12) y388 from (by (with_reducible repeat (first | apply Kd.R_alloc | apply Kd.R_drewN | apply Kd.R_drew)); exact HO_0.out)); obtain ⟨ce24, hcl24, hM24, hcc24, hfr24⟩ := Kd.R_elem HX24.out z106 (x5_1 : Int) (of_decide_eq_true (by first | (with_reducible assumption) | assumption)) (by have h_ : (x5_1 : Int) < ((x0_1.length : Int) : Int) := of_decide_eq_true (by first | (with_reducible assumption) | assumption); first | exact h_ | (have e_ := (Kd.R_reads' HO_0.out).1; omega) | simpa using h_); obtain rfl := k106_openM hM24; have HP24 := Kd.R_seg HX24.out (x5_1 : Int) (of_decide_eq_true (by first | (with_reducible assumption) | assumption)) (by have h_ : (x5_1 : Int) < ((x0_1.length : Int) : Int) := of_decide_eq_true (by first | (with_reducible assumption) | assumption); first | exact h_ | (have e_ := (Kd.R_reads' HO_0.out).1; omega) | simpa using h_) (seg := [.string t389]) (j := 5) hcl24 hcc24 (show 6 ≤ 6 from by decide) (x' := (⟨(rd_T106 y388 x5_1).f0, (rd_T106 y388 x5_1).f1, (rd_T106 y388 x5_1).f2, (⟨(rd_T106 y388 x5_1).f3.f0, (rd_T106 y388 x5_1).f3.f1, t389⟩ : S104)⟩ : S106)) (k106_mkM _ _ _ (⟨(rd_T106 y388 x5_1).f0, (rd_T106 y388 x5_1).f1, (rd_T106 y388 x5_1).f2, (⟨(rd_T106 y388 x5_1).f3.f0, (rd_T106 y388 x5_1).f3.f1, t389⟩ : S104)⟩ : S106) ) (fun _ hk => hk); have hx24_5 := hcc24 5 _ rfl; (try simp only [show (k106).sz = 6 from rfl, Nat.mul_one, Nat.add_zero] at hx24_5); have hf24_5 := hfr24 5; (try simp only [show (k106).sz = 6 from rfl, Nat.mul_one, Nat.add_zero] at hf24_5); clear hcl24 hcc24 hfr24; (try clear hM24)) | ((with_reducible refine gate_store (t := 9) (p := 55) rfl ?_); refine store_event (t := 9) (p := 55) (v := ?vo_w25) (w1 := (w23.setCell ⟨go5, (x5_1 : Int).toNat * 6 + 5, none⟩ (.string t389))) ?hg ?ho ?hn ?hr ?_; (case ho => rfl); (case hg => rfl); (case hn => rfl); (case hr => first | (go_simp; done) | (go_simp; rfl)); intro w25 hw; have hg : w23.grownBy w25 (some go5) := (by rw [hw]; exact HP24.2); have hp_ : Kd.R k106 106 w25 w0.heap.size (fun k_ => (P0_ k_ ∨ w.heap.size ≤ k_)) (.slice (some ⟨go5, 0, none⟩) x0_1.length co12) y390 := (by rw [hw, Ny390.out]; exact HP24.1); clear HP24; have n0_ := Aside0.mk (hp_); have n1_ := Aside0.mk ((by rw [hw]; exact below_set (HB.out) GB5.out : Below w0.heap.size w0 w25)); have n2_ := Aside0.mk (Kept.of_grown (S := (fun k_ => P0_ k_)) hg (by repeat (first | (with_reducible first | exact HK.out | apply Kept.alloc | apply Kept.drewN | apply Kept.drew) | exact HK.out)) (fun k_ e_ => (HO_0.out.1 k_ e_))); clear HO_0; clear HB; clear HK; have HO_0 := n0_; have HB := n1_; have HK := n2_; clear n0_ n1_ n2_; clear hg hw hp_))
     go_roundg k1
     case measure => have := HK1.out; omega
     case rel => exact ⟨(y390), (wrap64 ((wrap64 ((wrap64 ((wrap64 ((wrap64 ((wrap64 (x1_1 + 1)) + 1)) + 1)) + 1)) + 1)) + 1)), (wrap64 (x5_1 + 1)), (by first | rfl | (simp; done) | (simp [*]; done)), (by first | rfl | (simp; done) | (simp [*]; done)), H', ⟨by have := HK1.out; omega⟩, ⟨by (with_reducible repeat (first | apply Kd.R_alloc | apply Kd.R_drewN | apply Kd.R_drew)); exact HO_0.out⟩, ⟨by repeat (first | (with_reducible first | exact HK.out | apply Kept.alloc | apply Kept.drewN | apply Kept.drew) | exact HK.out)⟩, ⟨by repeat (first | (with_reducible first | exact HB.out | apply below_alloc | apply pw_below_drewN | apply below_drew1) | exact HB.out)⟩⟩
    ·rw [if_neg c4] at H
     exact absurd H (by simp)
   ·rw [if_neg c3] at H
    have c3b0 : decide (x5_1 < (x0_1.length : Int)) = false := decide_eq_false c3
    clear c3
    simp only [Option.some.injEq, Prod.mk.injEq] at H
    obtain ⟨rfl, rfl⟩ := H
    obtain ⟨Ao26, co26, eo26⟩ := Kd.R_slice HO_0.out
    subst eo26
    go_wp2
    go_ret
    exact ⟨by first | rfl | (simp [errW_none, errW_some] <;> rfl) | (simp [*, errW_none, errW_some] <;> rfl), by (with_reducible repeat (first | apply Kd.R_alloc | apply Kd.R_drewN | apply Kd.R_drew)); exact HO_0.out, by repeat (first | (with_reducible first | exact HB.out | apply below_alloc | apply pw_below_drewN | apply below_drew1) | exact HB.out), by repeat (first | (with_reducible first | exact HK.out | apply Kept.alloc | apply Kept.drewN | apply Kept.drew) | exact HK.out)⟩
def laws_markAlpha.f (k : Nat) (a0_0 : ByteArray) (a0_1 : Int) (l0_2 : List (S106)) (a1 : Int) : Option (Int × (List (S106))) := (laws_markAlphaTestS.f k l0_2 a1).bind fun bt392 => (some (bt392.1, bt392.2))
theorem laws_markAlpha.mono : ∀ a0 a1 a2 a3 k, LeO (laws_markAlpha.f k a0 a1 a2 a3) (laws_markAlpha.f (k + 1) a0 a1 a2 a3) := by
 intro a0 a1 a2 a3 k
 unfold laws_markAlpha.f
 repeat' first
   | (with_reducible exact laws_markAlphaTestS.mono _ _ _)
   | (with_reducible exact LeO.refl _)
   | (with_reducible exact LeO.none _)
   | (with_reducible refine LeO.ite ?_ ?_)
   | (with_reducible refine LeO.bind ?_ (fun _ => ?_))
   | exact laws_markAlphaTestS.mono _ _ _
   | exact LeO.none _
   | refine LeO.ite ?_ ?_
   | refine LeO.bind ?_ (fun _ => ?_)
end Go.Proofs.Ytoncacdehhmpaaa.P
namespace Go.Proofs.Ytoncacdehhmpaaa.P
open Go.RowKit Go.Proofs.YtoncacdehhmpaaaW.PrintWords Go.Proofs.YtoncacdehhmpaaaW.PrintLast Go.Proofs.YtoncacdehhmpaaaW.PrintMore
attribute [local go_sem] max2_int min2_int max_two min_two max_three min_three max_four min_four
set_option linter.unusedVariables false
set_option linter.unusedSimpArgs false
def laws_markAlphaS.r (k : Nat) : List S34 → Int → Option (Int × List S34)
 | [], a => some (a, [])
 | x :: xs, a => (laws_markText.f k a).bind fun t0 => (laws_markAlphaTestS.f k x.f2 (wrap64 ((wrap64 (a + 1)) + 1))).bind fun y => (laws_markAlphaS.r k xs y.1).bind fun z => some (z.1, (⟨t0, (wrap64 (a + 1)), y.2⟩ : S34) :: z.2)
def laws_markAlphaS.f (k : Nat) (l0 : List S34) (a1 : Int) : Option (Int × List S34) := laws_markAlphaS.r k l0 a1
theorem laws_markAlphaS.mono_r : ∀ xs a k, LeO (laws_markAlphaS.r k xs a) (laws_markAlphaS.r (k + 1) xs a)
 | [], a, k => LeO.refl _
 | x :: xs, a, k => LeO.bind (laws_markText.mono _ k) (fun t0 => LeO.bind (laws_markAlphaTestS.mono _ _ k) (fun y => LeO.bind (laws_markAlphaS.mono_r xs _ k) (fun z => LeO.refl _)))
theorem laws_markAlphaS.mono : ∀ a0 a1 k, LeO (laws_markAlphaS.f k a0 a1) (laws_markAlphaS.f (k + 1) a0 a1) := laws_markAlphaS.mono_r
open Go.Proofs.YtoncacdehhmpaaaX in
set_option maxHeartbeats 8000000 in
set_option maxRecDepth 100000 in
theorem laws_markAlphaS.calls (k : Nat) (P0_ : Nat → Prop) (u9000_ : Value) (l0 : List (S34)) (a1 : Int) (r1 : Int) (r2 : List (S34)) (w0 w : World) (hB : Below w0.heap.size w0 w) (ho0 : Kd.S k34 34 w w0.heap.size P0_ u9000_ l0) (h : laws_markAlphaS.f k l0 a1 = some (r1, r2)) :
  Calls Try.prog 87 #[u9000_, .int .i64 a1] w fun e w' => e = .returned (.int .i64 r1) ∧ Kd.S k34 34 w' w0.heap.size (fun k_ => (P0_ k_ ∨ w.heap.size ≤ k_)) u9000_ r2 ∧ Below w0.heap.size w0 w' ∧ Kept w w' (fun k_ => P0_ k_) := by
 have HS := Aside0.mk ho0
 have HB := Aside0.mk hB
 have HH : Aside0 (laws_markAlphaS.r k l0 a1 = some (r1, r2)) := ⟨h⟩
 obtain ⟨A, c, e0, hlc, hC⟩ := Kd.S_reads ho0
 subst e0
 have hlm : l0.length ≤ 9223372036854775807 := hC.2.1
 have hu0 := Try.underlying34
 clear ho0 hB h hlc hC
 go_enter Try.func87, Try.ntmps87
 go_wp2
 go_loopg [1, 5] l0.length (fun gg v1 v5 wr => ∃ (d t : List (S34)) (a : Int) (z : List (S34)), d.length + t.length = l0.length ∧ l0.length - d.length ≤ gg ∧ v1 = .int .i64 a ∧ v5 = .int .i64 (d.length : Int) ∧ Aside0 (laws_markAlphaS.r k t a = some (r1, z)) ∧ Aside0 (d ++ z = r2) ∧ Aside0 (Kd.S k34 34 wr w0.heap.size P0_ (.slice A l0.length c) (d ++ t)) ∧ Aside0 (Below w0.heap.size w0 wr) ∧ Aside0 (Kept w wr (fun k_ => P0_ k_)))
 case atStart => exact ⟨[], l0, a1, r2, by simp, by simp, rfl, rfl, HH, ⟨rfl⟩, HS, HB, ⟨Kept.refl _ _⟩⟩
 case round =>
  obtain ⟨d, t, a, z, hdt, hgg, rfl, rfl, HR, HZ, HO, HB1, HK⟩ := hrel
  cases t with
  | nil =>
   have hdl : d.length = l0.length := by simpa using hdt
   have hnl : ¬ ((d.length : Int) < (l0.length : Int)) := by omega
   go_wp2
   go_ret
   have e1 := Option.some.inj HR.out
   injection e1 with e1 e2
   subst e1
   refine ⟨rfl, ?_, HB1.out, HK.out⟩
   have := HO.out
   rw [← HZ.out, ← e2]
   exact Kd.S_mono this (fun _ hk => .inl hk)
  | cons x t =>
   have hdl : d.length < l0.length := by rw [List.length_cons] at hdt; omega
   have hz : (d.length : Int) < (l0.length : Int) := by omega
   have hz0 : (0 : Int) ≤ (d.length : Int) := by omega
   have hnat : ((d.length : Int)).toNat = d.length := by omega
   have HRR := HR.out
   unfold laws_markAlphaS.r at HRR
   obtain ⟨t0, h0, Hb0⟩ := Option.bind_eq_some_iff.1 HRR
   obtain ⟨y2, hy, Hy⟩ := Option.bind_eq_some_iff.1 Hb0
   obtain ⟨zz, h3, Hc⟩ := Option.bind_eq_some_iff.1 Hy
   have Hd := Option.some.inj Hc
   injection Hd with H4 H5
   have T0 := Aside0.mk h0
   have A2 := Aside0.mk hy
   have A3 := Aside0.mk h3
   have A4 := Aside0.mk H4
   have A5 := Aside0.mk H5
   clear h0 hy h3 H4 H5 HR HRR Hb0 Hy Hc
   have hsl : (d ++ x :: t).length = l0.length := by simp at hdt ⊢; omega
   have HL := Aside0.mk hsl
   obtain ⟨g, cap, eg, hgb, hgl, _⟩ := Kd.S_form HO.out (by omega)
   rw [hsl] at eg
   injection eg with eA _ ec
   subst eA
   subst ec
   have HP : Aside0 (P0_ g) := ⟨(Kd.S_R HO.out).1 g (by simp [Value.ownBlock])⟩
   have HO1 := HO
   have HK1 := HK
   clear hsl hgl HO HK
   go_wp2_with (first
    | (go_at_call 88; refine (laws_markText.calls k a _ _ T0.out).mono ?_; rintro e w1 ⟨rfl, hd⟩; have HO2 := Aside0.mk (Kd.S_below HO1.out hd); have HB2 := Aside0.mk (below_step HB1.out hd); have HK2 := Aside0.mk (Kept.below HK1.out hd); clear hd HO1 HB1 HK1)
    | ((with_reducible refine gate_store (t := 9) (p := 17) rfl ?_); (obtain ⟨oki, cc, _, hM, _, _, hoki, hH⟩ := Kd.S_elem HO2.out z34 (d.length : Int) (by omega) (by omega)); rw [Int.toNat_natCast, rd_mid] at hM; (obtain ⟨vs, ec, hI⟩ := k34_openM hM); subst ec; refine Kd.H_store k34 w0.heap.size rfl rfl 9 (.tmp 17) (.tmp 15) rfl 34 (d.length : Int) 0 (d ++ x :: t) (⟨t0, x.f1, x.f2⟩ : S34) (.string t0) [.string t0] [.string x.f0, .int .i64 x.f1, vs] P0_ oki oki rfl (by rw [Int.toNat_natCast]; rfl) rfl rfl (by kernel_rfl) (by intro q hq; simp at hq; subst hq; rfl) hH (by omega) (by omega) (show (0 : Nat) + 1 ≤ 3 by decide) (k34_mkM _ _ _ (⟨t0, x.f1, x.f2⟩ : S34) hI) (fun _ h => h) HB2.out ?_; intro w2 ho hb hg; rw [Int.toNat_natCast, set_mid] at ho; have HO3 := Aside0.mk ho; have HB3 := Aside0.mk hb; have HK3 := Aside0.mk (Kept.of_grown hg HK2.out (by intro k_ e; injection e with e; subst e; exact .inl HP.out)); clear ho hb hg hH hI hM hoki HO2 HB2 HK2)
    | ((with_reducible refine gate_store (t := 3) (p := 24) rfl ?_); (obtain ⟨oki, cc, _, hM, _, _, hoki, hH⟩ := Kd.S_elem HO3.out z34 (d.length : Int) (by omega) (by omega)); rw [Int.toNat_natCast, rd_mid] at hM; (obtain ⟨vs, ec, hI⟩ := k34_openM hM); subst ec; refine Kd.H_store k34 w0.heap.size rfl rfl 3 (.tmp 24) (.tmp 22) rfl 34 (d.length : Int) 1 (d ++ (⟨t0, x.f1, x.f2⟩ : S34) :: t) (⟨t0, (wrap64 (a + 1)), x.f2⟩ : S34) (.int .i64 (wrap64 (a + 1))) [.int .i64 (wrap64 (a + 1))] [.string t0, .int .i64 x.f1, vs] P0_ oki oki rfl (by rw [Int.toNat_natCast]; rfl) rfl rfl (by kernel_rfl) (by intro q hq; simp at hq; subst hq; rfl) hH (by omega) (by omega) (show (1 : Nat) + 1 ≤ 3 by decide) (k34_mkM _ _ _ (⟨t0, (wrap64 (a + 1)), x.f2⟩ : S34) hI) (fun _ h => h) HB3.out ?_; intro w3 ho hb hg; rw [Int.toNat_natCast, set_mid] at ho; have HO4 := Aside0.mk ho; have HB4 := Aside0.mk hb; have HK4 := Aside0.mk (Kept.of_grown hg HK3.out (by intro k_ e; injection e with e; subst e; exact .inl HP.out)); clear ho hb hg hH hI hM hoki HO3 HB3 HK3; (obtain ⟨oki, cc, _, hM, hcc, hoki, hH⟩ := Kd.S_lend HO4.out z34 (d.length : Int) (by omega) (by omega)); rw [Int.toNat_natCast, rd_mid] at hM; (obtain ⟨vs, ec, hI⟩ := k34_openM hM); subst ec; have hx2 := hcc 2 _ rfl; rw [Int.toNat_natCast] at hx2; have hx2 : w3.cell? ⟨g, d.length * 3 + 2, none⟩ = some vs := hx2; have HH := Aside0.mk hH; have HI := Aside0.mk hI; clear hH hI hM hcc hoki)
    | (go_at_call 77; refine (laws_markAlphaTestS.calls k oki vs x.f2 (wrap64 ((wrap64 (a + 1)) + 1)) y2.1 y2.2 w0 _ HB4.out HI.out A2.out).mono ?_; rintro e w4 ⟨rfl, hr, hb, hk⟩; have hr2 := Kd.R_mono (Kd.R_tight rfl hr) (fun k_ hk_ => HI.out.1 k_ hk_.symm); have hs := Kd.H_back (Kd.H_kept HH.out hk (fun k_ _ h_ => h_)) (k34_mkM _ _ _ (⟨t0, (wrap64 (a + 1)), y2.2⟩ : S34) hr2) (fun _ h => h); rw [Int.toNat_natCast, set_mid] at hs; have HO5 := Aside0.mk hs; have HB5 := Aside0.mk hb; have HK5 := Aside0.mk (HK4.out.then_ hk (fun k_ hk_ => .inl (HH.out.1 k_ hk_))); clear hr hr2 hs hb hk HO4 HB4 HK4))
   go_roundg (l0.length - (d.length + 1))
   case measure => omega
   case rel => exact ⟨d ++ [(⟨t0, (wrap64 (a + 1)), y2.2⟩ : S34)], t, y2.1, zz.2, by simp at hdt ⊢; omega, by simp, rfl, by rw [List.length_append, List.length_singleton]; go_num, ⟨by rw [A3.out, ← A4.out]⟩, ⟨by rw [← HZ.out, ← A5.out]; simp⟩, ⟨by rw [List.append_assoc]; exact HO5.out⟩, HB5, HK5⟩
end Go.Proofs.Ytoncacdehhmpaaa.P
namespace Go.Proofs.YtoncacdehhmpaaaX
open Go.RowKit Go.Proofs.YtoncacdehhmpaaaW.PrintWords
set_option linter.unusedVariables false
set_option linter.unusedSimpArgs false
def Pty (W : World) (qs : List Nat) (lo : Nat) (k : Nat) : Prop := lo ≤ k ∧ k < W.heap.size ∧ ∃ q, q ∈ qs ∧ ∃ cells, W.heap[k]? = some (.cells cells q (0, 0))
theorem S_pty {α : Type} {d : Kd α} {e base lo : Nat} {W : World} {ok : Nat → Prop} {v : Value} {xs : List α} (h : Kd.S d e W base ok v xs) (hlo : lo ≤ base) : Kd.S d e W lo (Pty W (e :: d.E) lo) v xs :=
  Kd.S_lower (Kd.S_mono (Kd.S_bound h) (fun k hk => ⟨Nat.le_trans hlo hk.2.1, hk.2.2.1, hk.2.2.2⟩)) hlo
theorem pty_before {W W2 : World} {qs qs2 : List Nat} {lo lo2 : Nat} (h : W.heap.size ≤ lo2) : ∀ k, Pty W qs lo k → ¬ Pty W2 qs2 lo2 k := fun k h1 h2 => by
  have := h1.2.1
  have := h2.1
  omega
theorem pty_behind {W W2 : World} {qs qs2 : List Nat} {lo lo2 : Nat} (h : W2.heap.size ≤ lo) : ∀ k, Pty W qs lo k → ¬ Pty W2 qs2 lo2 k := fun k h1 h2 => by
  have := h1.1
  have := h2.2.1
  omega
theorem pty_types {W : World} {qs qs2 : List Nat} {lo lo2 : Nat} (h : ∀ q, q ∈ qs → q ∉ qs2) : ∀ k, Pty W qs lo k → ¬ Pty W qs2 lo2 k := fun k h1 h2 => by
  obtain ⟨_, _, q, hq, c, hc⟩ := h1
  obtain ⟨_, _, q2, hq2, c2, hc2⟩ := h2
  rw [hc] at hc2
  injection hc2 with e
  injection e with _ e
  subst e
  exact h q hq hq2
theorem S_read {α : Type} {d : Kd α} {e base n c : Nat} {W : World} {ok : Nat → Prop} {A : Option Addr} {xs : List α} (h : Kd.S d e W base ok (.slice A n c) xs) : d.C W A xs.length xs := (Kd.S_reads' h).2.2
theorem S_room {α : Type} {d : Kd α} {e base n c : Nat} {W : World} {ok : Nat → Prop} {A : Option Addr} {xs : List α} (h : Kd.S d e W base ok (.slice A n c) xs) : xs.length ≤ c := (Kd.S_reads' h).1 ▸ (Kd.S_reads' h).2.1
end Go.Proofs.YtoncacdehhmpaaaX
namespace Go.Proofs.Ytoncacdehhmpaaa.P
open Go.RowKit Go.Proofs.YtoncacdehhmpaaaW.PrintWords Go.Proofs.YtoncacdehhmpaaaW.PrintLast Go.Proofs.YtoncacdehhmpaaaW.PrintMore
attribute [local go_sem] max2_int min2_int max_two min_two max_three min_three max_four min_four
set_option linter.unusedVariables false
set_option linter.unusedSimpArgs false
def laws_markNet.f (k : Nat) (l0 : List S34) (l1 : List (List Int)) (a : Int) : Option (Int × List S34 × List (List Int)) :=
 (laws_markAlphaS.f k l0 a).bind fun y => (laws_markIntSS.f k l1 y.1).bind fun z => some (z.1, y.2, z.2)
open Go.Proofs.YtoncacdehhmpaaaX in
set_option maxHeartbeats 4000000 in
set_option maxRecDepth 100000 in
theorem laws_markNet.calls (k : Nat) (PA PO : Nat → Prop) (u v : Value) (l0 : List S34) (l1 : List (List Int)) (a r1 : Int) (r2 : List S34) (r3 : List (List Int)) (w0 w : World) (hB : Below w0.heap.size w0 w)
  (hA : Kd.S k34 34 w w0.heap.size PA u l0) (hO : Kd.S (Kd.slice 3 (Kd.int .i64)) 67 w w0.heap.size PO v l1) (hd : ∀ k, PA k → ¬ PO k) (h : laws_markNet.f k l0 l1 a = some (r1, r2, r3)) :
  Calls Try.prog 46 #[.agg #[u, v], .int .i64 a] w fun e w' => e = .returned (.int .i64 r1) ∧ Below w0.heap.size w0 w' ∧ Kept w w' (fun k => PA k ∨ PO k) := by
 unfold laws_markNet.f at h
 obtain ⟨y, h1, H⟩ := Option.bind_eq_some_iff.1 h
 obtain ⟨z, h2, H⟩ := Option.bind_eq_some_iff.1 H
 have H := Option.some.inj H
 injection H with e1 e2
 subst e1
 have A1 := Aside0.mk h1
 have A2 := Aside0.mk h2
 have HD := Aside0.mk hd
 obtain ⟨A, c, eu⟩ := Kd.S_slice hA
 obtain ⟨A', c', ev⟩ := Kd.S_slice hO
 subst eu
 subst ev
 have HA := Aside0.mk (Kd.S_mono (ok' := fun k => PA k ∧ k < w.heap.size) (Kd.S_bound hA) (fun k hk => ⟨hk.1, hk.2.2.1⟩))
 have HO := Aside0.mk hO
 have HB := Aside0.mk hB
 have hu0 := Try.underlying81
 have hw0 := hB.size
 clear h1 h2 e2 h hd hA hO hB
 go_enter Try.func46, Try.ntmps46
 go_wp2_with (first
  | (go_at_call 87; refine (laws_markAlphaS.calls k (fun k => PA k ∧ k < w.heap.size) _ l0 a y.1 y.2 w0 _ (HB.out.alloc hw0 _) (Kd.S_alloc HA.out _) A1.out).mono ?_; rintro e w1 ⟨rfl, _, hb, hk⟩; have HO1 := Aside0.mk (Kd.S_kept (Kd.S_alloc HO.out _) hk (fun k_ h1 h2 => HD.out k_ h2.1 h1)); have hx : w1.cell? ⟨w.heap.size, 1, none⟩ = some (.slice A' l1.length c') := (by have hb3 := blk_kept (g := w.heap.size) (blk_new w _) hk (fun h_ => Nat.lt_irrefl _ h_.2); exact (blk_cell hb3 1).trans rfl); have HB1 := Aside0.mk hb; have HK1 := Aside0.mk hk; clear hb hk)
  | (go_at_call 48; refine (laws_markIntSS.calls k PO _ l1 y.1 z.1 z.2 w0 _ HB1.out HO1.out A2.out).mono ?_; rintro e w2 ⟨rfl, _, hb, hk⟩; have HB2 := Aside0.mk hb; have HK2 := Aside0.mk hk; clear hb hk))
 go_ret
 exact ⟨rfl, HB2.out, (Kept.then_ (Kept.then_ (S := fun k => PA k ∨ PO k) (Kept.alloc (Kept.refl _ _) _) HK1.out (fun k hk => .inl (.inl hk.1))) HK2.out (fun k hk => .inl (.inr hk)))⟩
end Go.Proofs.Ytoncacdehhmpaaa.P
namespace Go.Proofs.Ytoncacdehhmpaaa.P
open Go.RowKit Go.Proofs.YtoncacdehhmpaaaW.PrintWords Go.Proofs.YtoncacdehhmpaaaW.PrintLast Go.Proofs.YtoncacdehhmpaaaW.PrintMore
attribute [local go_sem] max2_int min2_int max_two min_two max_three min_three max_four min_four
set_option linter.unusedVariables false
set_option linter.unusedSimpArgs false
def laws_markValueS.l0 : Nat → List (S104) → Int → Int → Option (Int × (List (S104)))
 | 0, _, _, _ => none
 | k + 1, x0, x1, x5 => if x5 < (x0.length : Int) then (if 0 ≤ x5 then ((some (x0.set (x5 : Int).toNat (⟨x1, (rd_T104 x0 x5).f1, (rd_T104 x0 x5).f2⟩ : S104) : List (S104))).bind fun y726 => ((some (y726.set (x5 : Int).toNat (⟨(rd_T104 y726 x5).f0, wrap64 (x1 + 1), (rd_T104 y726 x5).f2⟩ : S104) : List (S104))).bind fun y727 => ((laws_markText.f k (wrap64 ((wrap64 (x1 + 1)) + 1))).bind fun t728 => (laws_markValueS.l0 k (y727.set (x5 : Int).toNat (⟨(rd_T104 y727 x5).f0, (rd_T104 y727 x5).f1, t728⟩ : S104)) (wrap64 ((wrap64 ((wrap64 (x1 + 1)) + 1)) + 1)) (wrap64 (x5 + 1)))))) else (none)) else (some (x1, x0))
def laws_markValueS.f (k : Nat) (l0 : List (S104)) (a1 : Int) : Option (Int × (List (S104))) := laws_markValueS.l0 k l0 a1 0
theorem laws_markValueS.mono_l : ∀ k, (∀ y0 y1 y2, LeO (laws_markValueS.l0 k y0 y1 y2) (laws_markValueS.l0 (k + 1) y0 y1 y2))
 | 0 => fun _ _ _ r h => by simp [laws_markValueS.l0] at h
 | k + 1 => by
  have ih0 := laws_markValueS.mono_l k
  ·intro y0 y1 y2
   unfold laws_markValueS.l0
   repeat' first
   | (with_reducible exact ih0 _ _ _)
   | (with_reducible exact laws_markText.mono _ _)
   | (with_reducible exact LeO.refl _)
   | (with_reducible exact LeO.none _)
   | (with_reducible refine LeO.ite ?_ ?_)
   | (with_reducible refine LeO.bind ?_ (fun _ => ?_))
   | exact ih0 _ _ _
   | exact laws_markText.mono _ _
   | exact LeO.none _
   | refine LeO.ite ?_ ?_
   | refine LeO.bind ?_ (fun _ => ?_)
theorem laws_markValueS.mono : ∀ a0 a1 k, LeO (laws_markValueS.f k a0 a1) (laws_markValueS.f (k + 1) a0 a1) := by
 intro a0 a1 k
 have ih0 := laws_markValueS.mono_l k
 unfold laws_markValueS.f
 repeat' first
   | (with_reducible exact ih0 _ _ _)
   | (with_reducible exact laws_markText.mono _ _)
   | (with_reducible exact LeO.refl _)
   | (with_reducible exact LeO.none _)
   | (with_reducible refine LeO.ite ?_ ?_)
   | (with_reducible refine LeO.bind ?_ (fun _ => ?_))
   | exact ih0 _ _ _
   | exact laws_markText.mono _ _
   | exact LeO.none _
   | refine LeO.ite ?_ ?_
   | refine LeO.bind ?_ (fun _ => ?_)
set_option maxHeartbeats 8000000 in
set_option maxRecDepth 100000 in
theorem laws_markValueS.calls (k : Nat) (P0_ : Nat → Prop) (u9000_ : Value) (l0 : List (S104)) (a1 : Int) (r1 : Int) (r2 : List (S104)) (w0 w : World) (hB : Below w0.heap.size w0 w) (ho0 : Kd.R k104 104 w w0.heap.size P0_ u9000_ l0) (h : laws_markValueS.f k l0 a1 = some (r1, r2)) :
  Calls Try.prog 89 #[u9000_, .int .i64 a1] w fun e w' => e = .returned (.int .i64 r1) ∧ Kd.R k104 104 w' w0.heap.size (fun k_ => (P0_ k_ ∨ w.heap.size ≤ k_)) u9000_ r2 ∧ Below w0.heap.size w0 w' ∧ Kept w w' (fun k_ => P0_ k_) := by
 have HO0 := Aside0.mk (show Kd.R k104 104 w w0.heap.size (fun k_ => (P0_ k_ ∨ w.heap.size ≤ k_)) u9000_ l0 from Kd.R_mono ho0 (fun k_ hk => (.inl hk)))
 have HK := Aside0.mk (Kept.refl w (fun k_ => P0_ k_))
 have HW0 := Aside0.mk hB.size
 have HB := Aside0.mk hB
 clear hB
 have H : (laws_markValueS.l0 k l0 a1 0) = some (r1, r2) := h
 clear h
 have H' := Aside0.mk H
 clear H
 go_enter Try.func89, Try.ntmps89
 go_wp2
 go_loopg [1, 5] k (fun kq v1 v5 w' => ∃ (x0_1 : List (S104)) (x1_1 : Int) (x5_1 : Int), v1 = .int .i64 x1_1 ∧ v5 = .int .i64 x5_1 ∧ Aside0 (laws_markValueS.l0 kq x0_1 x1_1 x5_1 = some (r1, r2)) ∧ Aside0 (kq ≤ k) ∧ Aside0 (Kd.R k104 104 w' w0.heap.size (fun k_ => (P0_ k_ ∨ w.heap.size ≤ k_)) u9000_ x0_1) ∧ Aside0 (Kept w w' (fun k_ => P0_ k_)) ∧ Aside0 (Below w0.heap.size w0 w'))
 case atStart => exact ⟨(l0), (a1), (0), (by first | rfl | (simp; done) | (simp [*]; done)), (by first | rfl | (simp; done) | (simp [*]; done)), H', ⟨Nat.le_refl _⟩, ⟨by (with_reducible repeat (first | apply Kd.R_alloc | apply Kd.R_drewN | apply Kd.R_drew)); exact HO0.out⟩, ⟨by repeat (first | (with_reducible first | exact HK.out | apply Kept.alloc | apply Kept.drewN | apply Kept.drew) | exact HK.out)⟩, ⟨by repeat (first | (with_reducible first | exact HB.out | apply below_alloc | apply pw_below_drewN | apply below_drew1) | exact HB.out)⟩⟩
 case round =>
  clear H'
  try clear p2
  obtain ⟨x0_1, x1_1, x5_1, rfl, rfl, HA, HK1, HO_0, HK, HB⟩ := hrel
  cases gk with
  | zero => exact absurd HA.out (by simp [laws_markValueS.l0])
  | succ k1 =>
   have H := HA.out
   clear HA
   simp only [laws_markValueS.l0] at H
   by_cases c3 : x5_1 < (x0_1.length : Int)
   ·rw [if_pos c3] at H
    have c3b0 : decide (x5_1 < (x0_1.length : Int)) = true := decide_eq_true c3
    clear c3
    by_cases c4 : 0 ≤ x5_1
    ·rw [if_pos c4] at H
     have c4b0 : decide (0 ≤ x5_1) = true := decide_eq_true c4
     clear c4
     obtain ⟨y726, hy726⟩ : ∃ y_ : List (S104), y_ = (x0_1.set (x5_1 : Int).toNat (⟨x1_1, (rd_T104 x0_1 x5_1).f1, (rd_T104 x0_1 x5_1).f2⟩ : S104)) := ⟨_, rfl⟩
     replace H : ((some (y726.set (x5_1 : Int).toNat (⟨(rd_T104 y726 x5_1).f0, wrap64 (x1_1 + 1), (rd_T104 y726 x5_1).f2⟩ : S104) : List (S104))).bind fun y727 => ((laws_markText.f k1 (wrap64 ((wrap64 (x1_1 + 1)) + 1))).bind fun t728 => (laws_markValueS.l0 k1 (y727.set (x5_1 : Int).toNat (⟨(rd_T104 y727 x5_1).f0, (rd_T104 y727 x5_1).f1, t728⟩ : S104)) (wrap64 ((wrap64 ((wrap64 (x1_1 + 1)) + 1)) + 1)) (wrap64 (x5_1 + 1))))) = some (r1, r2) := by first | (rw [hy726]; with_reducible exact H) | (have H2_ := (Option.bind_some _ _).symm.trans H; rw [hy726]; with_reducible exact H2_) | (have H2_ := (Option.bind_some _ _).symm.trans H; with_reducible exact H2_) | with_reducible exact H | (rw [hy726]; exact H) | exact H
     have Ny726 := Aside0.mk hy726
     clear hy726
     obtain ⟨y727, hy727⟩ : ∃ y_ : List (S104), y_ = (y726.set (x5_1 : Int).toNat (⟨(rd_T104 y726 x5_1).f0, wrap64 (x1_1 + 1), (rd_T104 y726 x5_1).f2⟩ : S104)) := ⟨_, rfl⟩
     replace H : ((laws_markText.f k1 (wrap64 ((wrap64 (x1_1 + 1)) + 1))).bind fun t728 => (laws_markValueS.l0 k1 (y727.set (x5_1 : Int).toNat (⟨(rd_T104 y727 x5_1).f0, (rd_T104 y727 x5_1).f1, t728⟩ : S104)) (wrap64 ((wrap64 ((wrap64 (x1_1 + 1)) + 1)) + 1)) (wrap64 (x5_1 + 1)))) = some (r1, r2) := by first | (rw [hy727]; with_reducible exact H) | (have H2_ := (Option.bind_some _ _).symm.trans H; rw [hy727]; with_reducible exact H2_) | (have H2_ := (Option.bind_some _ _).symm.trans H; with_reducible exact H2_) | with_reducible exact H | (rw [hy727]; exact H) | exact H
     have Ny727 := Aside0.mk hy727
     clear hy727
     replace H := Option.bind_eq_some_iff.mp H
     obtain ⟨t728, A70, H⟩ := H
     replace H : (laws_markValueS.l0 k1 (y727.set (x5_1 : Int).toNat (⟨(rd_T104 y727 x5_1).f0, (rd_T104 y727 x5_1).f1, t728⟩ : S104)) (wrap64 ((wrap64 ((wrap64 (x1_1 + 1)) + 1)) + 1)) (wrap64 (x5_1 + 1))) = some (r1, r2) := H
     have A7 := Aside0.mk A70
     clear A70
     obtain ⟨y729, hy729⟩ : ∃ y_ : List (S104), y_ = (y727.set (x5_1 : Int).toNat (⟨(rd_T104 y727 x5_1).f0, (rd_T104 y727 x5_1).f1, t728⟩ : S104)) := ⟨_, rfl⟩
     replace H : (laws_markValueS.l0 k1 y729 (wrap64 ((wrap64 ((wrap64 (x1_1 + 1)) + 1)) + 1)) (wrap64 (x5_1 + 1))) = some (r1, r2) := by first | (rw [hy729]; with_reducible exact H) | (have H2_ := (Option.bind_some _ _).symm.trans H; rw [hy729]; with_reducible exact H2_) | (have H2_ := (Option.bind_some _ _).symm.trans H; with_reducible exact H2_) | with_reducible exact H | (rw [hy729]; exact H) | exact H
     have Ny729 := Aside0.mk hy729
     clear hy729
     have H' := Aside0.mk H
     clear H
     obtain ⟨Ao9, co9, eo9⟩ := Kd.R_slice HO_0.out
     subst eo9
     have p5 : 0 ≤ (x5_1 : Int) := of_decide_eq_true (by first | (with_reducible assumption) | assumption)
     have q5 : (x5_1 : Int) < ((x0_1.length : Int) : Int) := of_decide_eq_true (by first | (with_reducible assumption) | assumption)
     obtain ⟨go5, co5, eo5, gb5, gl5, cl5, HG5⟩ := Kd.R_form HO_0.out (by omega)
     (first | cases eo5 | (injection eo5 with ea_ en_ ec_; (first | subst ea_ | (injection ea_ with ea_; subst ea_)); subst ec_; clear en_))
     have GB5 := Aside0.mk gb5
     have GG5 := Aside0.mk HG5
     clear gb5 gl5 HG5
     have HMgo5 := Aside0.mk (show (P0_ go5 ∨ w.heap.size ≤ go5) from (HO_0.out.1 _ rfl))
     obtain ⟨ce5, hcl5, hM5, hcc5, hfr5⟩ := Kd.R_elem HO_0.out z104 (x5_1 : Int) p5 q5
     obtain rfl := k104_openM hM5
     have hx5_0 : wr.cell? ⟨go5, (x5_1 : Int).toNat * 3, none⟩ = some (.int .i64 ((rd_T104 x0_1 x5_1).f0)) := hcc5 0 _ rfl
     have hx5_1 : wr.cell? ⟨go5, (x5_1 : Int).toNat * 3 + 1, none⟩ = some (.int .i64 ((rd_T104 x0_1 x5_1).f1)) := hcc5 1 _ rfl
     have hx5_2 : wr.cell? ⟨go5, (x5_1 : Int).toNat * 3 + 2, none⟩ = some (.string ((rd_T104 x0_1 x5_1).f2)) := hcc5 2 _ rfl
     have hf5_0 : wr.frozen? ⟨go5, (x5_1 : Int).toNat * 3, none⟩ = false := hfr5 0
     have hf5_1 : wr.frozen? ⟨go5, (x5_1 : Int).toNat * 3 + 1, none⟩ = false := hfr5 1
     have hf5_2 : wr.frozen? ⟨go5, (x5_1 : Int).toNat * 3 + 2, none⟩ = false := hfr5 2
     clear hcl5 hcc5 hfr5; (try clear hM5)
     replace p5 := eq_true p5
     replace q5 := eq_true q5
     have HX10 := Aside0.mk (show Kd.R k104 104 wr w0.heap.size (fun k_ => (P0_ k_ ∨ w.heap.size ≤ k_)) (.slice (some ⟨go5, 0, none⟩) x0_1.length co9) x0_1 from (by (with_reducible repeat (first | apply Kd.R_alloc | apply Kd.R_drewN | apply Kd.R_drew)); exact HO_0.out))
     obtain ⟨ce10, hcl10, hM10, hcc10, hfr10⟩ := Kd.R_elem HX10.out z104 (x5_1 : Int) (of_decide_eq_true (by first | (with_reducible assumption) | assumption)) (by have h_ : (x5_1 : Int) < ((x0_1.length : Int) : Int) := of_decide_eq_true (by first | (with_reducible assumption) | assumption); first | exact h_ | (have e_ := (Kd.R_reads' HO_0.out).1; omega) | simpa using h_)
     obtain rfl := k104_openM hM10
     have HP10 := Kd.R_seg HX10.out (x5_1 : Int) (of_decide_eq_true (by first | (with_reducible assumption) | assumption)) (by have h_ : (x5_1 : Int) < ((x0_1.length : Int) : Int) := of_decide_eq_true (by first | (with_reducible assumption) | assumption); first | exact h_ | (have e_ := (Kd.R_reads' HO_0.out).1; omega) | simpa using h_) (seg := [.int .i64 x1_1]) (j := 0) hcl10 hcc10 (show 1 ≤ 3 from by decide) (x' := (⟨x1_1, (rd_T104 x0_1 x5_1).f1, (rd_T104 x0_1 x5_1).f2⟩ : S104)) (k104_mkM _ _ _ (⟨x1_1, (rd_T104 x0_1 x5_1).f1, (rd_T104 x0_1 x5_1).f2⟩ : S104) ) (fun _ hk => hk)
     have hx10_0 := hcc10 0 _ rfl
     (try simp only [show (k104).sz = 3 from rfl, Nat.mul_one, Nat.add_zero] at hx10_0)
     have hf10_0 := hfr10 0
     (try simp only [show (k104).sz = 3 from rfl, Nat.mul_one, Nat.add_zero] at hf10_0)
     clear hcl10 hcc10 hfr10; (try clear hM10)
     go_wp2_with (first | ((with_reducible refine gate_store (t := 3) (p := 16) rfl ?_); refine store_event (t := 3) (p := 16) (v := ?vo_w11) (w1 := (wr.setCell ⟨go5, (x5_1 : Int).toNat * 3, none⟩ (.int .i64 x1_1))) ?hg ?ho ?hn ?hr ?_; (case ho => rfl); (case hg => rfl); (case hn => rfl); (case hr => first | (go_simp; done) | (go_simp; rfl)); intro w11 hw; have hg : wr.grownBy w11 (some go5) := (by rw [hw]; exact HP10.2); have hp_ : Kd.R k104 104 w11 w0.heap.size (fun k_ => (P0_ k_ ∨ w.heap.size ≤ k_)) (.slice (some ⟨go5, 0, none⟩) x0_1.length co9) y726 := (by rw [hw, Ny726.out]; exact HP10.1); clear HP10; have n0_ := Aside0.mk (hp_); have n1_ := Aside0.mk ((by rw [hw]; exact below_set (HB.out) GB5.out : Below w0.heap.size w0 w11)); have n2_ := Aside0.mk (Kept.of_grown (S := (fun k_ => P0_ k_)) hg (by repeat (first | (with_reducible first | exact HK.out | apply Kept.alloc | apply Kept.drewN | apply Kept.drew) | exact HK.out)) (fun k_ e_ => (HO_0.out.1 k_ e_))); clear HO_0; clear HB; clear HK; have HO_0 := n0_; have HB := n1_; have HK := n2_; clear n0_ n1_ n2_; clear hg hw hp_; have p6 : 0 ≤ (x5_1 : Int) := of_decide_eq_true (by first | (with_reducible assumption) | assumption); have q6 : (x5_1 : Int) < ((x0_1.length : Int) : Int) := of_decide_eq_true (by first | (with_reducible assumption) | assumption); obtain ⟨ce6, hcl6, hM6, hcc6, hfr6⟩ := Kd.R_elem HO_0.out z104 (x5_1 : Int) p6 q6; obtain rfl := k104_openM hM6; have hx6_0 : w11.cell? ⟨go5, (x5_1 : Int).toNat * 3, none⟩ = some (.int .i64 ((rd_T104 y726 x5_1).f0)) := hcc6 0 _ rfl; have hx6_1 : w11.cell? ⟨go5, (x5_1 : Int).toNat * 3 + 1, none⟩ = some (.int .i64 ((rd_T104 y726 x5_1).f1)) := hcc6 1 _ rfl; have hx6_2 : w11.cell? ⟨go5, (x5_1 : Int).toNat * 3 + 2, none⟩ = some (.string ((rd_T104 y726 x5_1).f2)) := hcc6 2 _ rfl; have hf6_0 : w11.frozen? ⟨go5, (x5_1 : Int).toNat * 3, none⟩ = false := hfr6 0; have hf6_1 : w11.frozen? ⟨go5, (x5_1 : Int).toNat * 3 + 1, none⟩ = false := hfr6 1; have hf6_2 : w11.frozen? ⟨go5, (x5_1 : Int).toNat * 3 + 2, none⟩ = false := hfr6 2; clear hcl6 hcc6 hfr6; (try clear hM6); replace p6 := eq_true p6; replace q6 := eq_true q6; have HX12 := Aside0.mk (show Kd.R k104 104 w11 w0.heap.size (fun k_ => (P0_ k_ ∨ w.heap.size ≤ k_)) (.slice (some ⟨go5, 0, none⟩) x0_1.length co9) y726 from (by (with_reducible repeat (first | apply Kd.R_alloc | apply Kd.R_drewN | apply Kd.R_drew)); exact HO_0.out)); obtain ⟨ce12, hcl12, hM12, hcc12, hfr12⟩ := Kd.R_elem HX12.out z104 (x5_1 : Int) (of_decide_eq_true (by first | (with_reducible assumption) | assumption)) (by have h_ : (x5_1 : Int) < ((x0_1.length : Int) : Int) := of_decide_eq_true (by first | (with_reducible assumption) | assumption); first | exact h_ | (have e_ := (Kd.R_reads' HO_0.out).1; omega) | simpa using h_); obtain rfl := k104_openM hM12; have HP12 := Kd.R_seg HX12.out (x5_1 : Int) (of_decide_eq_true (by first | (with_reducible assumption) | assumption)) (by have h_ : (x5_1 : Int) < ((x0_1.length : Int) : Int) := of_decide_eq_true (by first | (with_reducible assumption) | assumption); first | exact h_ | (have e_ := (Kd.R_reads' HO_0.out).1; omega) | simpa using h_) (seg := [.int .i64 (wrap64 (x1_1 + 1))]) (j := 1) hcl12 hcc12 (show 2 ≤ 3 from by decide) (x' := (⟨(rd_T104 y726 x5_1).f0, wrap64 (x1_1 + 1), (rd_T104 y726 x5_1).f2⟩ : S104)) (k104_mkM _ _ _ (⟨(rd_T104 y726 x5_1).f0, wrap64 (x1_1 + 1), (rd_T104 y726 x5_1).f2⟩ : S104) ) (fun _ hk => hk); have hx12_1 := hcc12 1 _ rfl; (try simp only [show (k104).sz = 3 from rfl, Nat.mul_one, Nat.add_zero] at hx12_1); have hf12_1 := hfr12 1; (try simp only [show (k104).sz = 3 from rfl, Nat.mul_one, Nat.add_zero] at hf12_1); clear hcl12 hcc12 hfr12; (try clear hM12)) | ((with_reducible refine gate_store (t := 2) (p := 23) rfl ?_); refine store_event (t := 2) (p := 23) (v := ?vo_w13) (w1 := (w11.setCell ⟨go5, (x5_1 : Int).toNat * 3 + 1, none⟩ (.int .i64 (wrap64 (x1_1 + 1))))) ?hg ?ho ?hn ?hr ?_; (case ho => rfl); (case hg => rfl); (case hn => rfl); (case hr => first | (go_simp; done) | (go_simp; rfl)); intro w13 hw; have hg : w11.grownBy w13 (some go5) := (by rw [hw]; exact HP12.2); have hp_ : Kd.R k104 104 w13 w0.heap.size (fun k_ => (P0_ k_ ∨ w.heap.size ≤ k_)) (.slice (some ⟨go5, 0, none⟩) x0_1.length co9) y727 := (by rw [hw, Ny727.out]; exact HP12.1); clear HP12; have n0_ := Aside0.mk (hp_); have n1_ := Aside0.mk ((by rw [hw]; exact below_set (HB.out) GB5.out : Below w0.heap.size w0 w13)); have n2_ := Aside0.mk (Kept.of_grown (S := (fun k_ => P0_ k_)) hg (by repeat (first | (with_reducible first | exact HK.out | apply Kept.alloc | apply Kept.drewN | apply Kept.drew) | exact HK.out)) (fun k_ e_ => (HO_0.out.1 k_ e_))); clear HO_0; clear HB; clear HK; have HO_0 := n0_; have HB := n1_; have HK := n2_; clear n0_ n1_ n2_; clear hg hw hp_) | ((with_reducible refine gate_callee (f := 88) rfl ?_); refine goesL_ (some 29) rfl rfl Try.func88 (by kernel_rfl) rfl #[.int .i64 (wrap64 ((wrap64 (x1_1 + 1)) + 1))] rfl (by (try simp only [List.map_toArray, List.map_cons, List.map_nil]); first | done | rfl | (simp only [List.length_drop, List.length_take]; rfl)) ?_; (with_reducible refine (laws_markText.calls k1 (wrap64 ((wrap64 (x1_1 + 1)) + 1)) t728 _ A7.out).mono ?_); rintro e w14 ⟨rfl, hb⟩; refine ⟨_, rfl, ?_⟩; have n0_ := Aside0.mk (Kd.R_below (by (with_reducible repeat (first | apply Kd.R_alloc | apply Kd.R_drewN | apply Kd.R_drew)); exact HO_0.out) hb); have n1_ := Aside0.mk (Kept.below (S := (fun k_ => P0_ k_)) (by repeat (first | (with_reducible first | exact HK.out | apply Kept.alloc | apply Kept.drewN | apply Kept.drew) | exact HK.out)) hb); have n2_ := Aside0.mk (below_step (by repeat (first | (with_reducible first | exact HB.out | apply below_alloc | apply pw_below_drewN | apply below_drew1) | exact HB.out)) hb); clear HO_0; clear HK; clear HB; have HO_0 := n0_; have HK := n1_; have HB := n2_; clear n0_ n1_ n2_; (try clear hb); (try clear hb2); (try clear hk); (try clear hi); have p8 : 0 ≤ (x5_1 : Int) := of_decide_eq_true (by first | (with_reducible assumption) | assumption); have q8 : (x5_1 : Int) < ((x0_1.length : Int) : Int) := of_decide_eq_true (by first | (with_reducible assumption) | assumption); obtain ⟨ce8, hcl8, hM8, hcc8, hfr8⟩ := Kd.R_elem HO_0.out z104 (x5_1 : Int) p8 q8; obtain rfl := k104_openM hM8; have hx8_0 : w14.cell? ⟨go5, (x5_1 : Int).toNat * 3, none⟩ = some (.int .i64 ((rd_T104 y727 x5_1).f0)) := hcc8 0 _ rfl; have hx8_1 : w14.cell? ⟨go5, (x5_1 : Int).toNat * 3 + 1, none⟩ = some (.int .i64 ((rd_T104 y727 x5_1).f1)) := hcc8 1 _ rfl; have hx8_2 : w14.cell? ⟨go5, (x5_1 : Int).toNat * 3 + 2, none⟩ = some (.string ((rd_T104 y727 x5_1).f2)) := hcc8 2 _ rfl; have hf8_0 : w14.frozen? ⟨go5, (x5_1 : Int).toNat * 3, none⟩ = false := hfr8 0; have hf8_1 : w14.frozen? ⟨go5, (x5_1 : Int).toNat * 3 + 1, none⟩ = false := hfr8 1; have hf8_2 : w14.frozen? ⟨go5, (x5_1 : Int).toNat * 3 + 2, none⟩ = false := hfr8 2; clear hcl8 hcc8 hfr8; (try clear hM8); replace p8 := eq_true p8; replace q8 := eq_true q8; have HX15 := Aside0.mk (show Kd.R k104 104 w14 w0.heap.size (fun k_ => (P0_ k_ ∨ w.heap.size ≤ k_)) (.slice (some ⟨go5, 0, none⟩) x0_1.length co9) y727 from (by (with_reducible repeat (first | apply Kd.R_alloc | apply Kd.R_drewN | apply Kd.R_drew)); exact HO_0.out)); obtain ⟨ce15, hcl15, hM15, hcc15, hfr15⟩ := Kd.R_elem HX15.out z104 (x5_1 : Int) (of_decide_eq_true (by first | (with_reducible assumption) | assumption)) (by have h_ : (x5_1 : Int) < ((x0_1.length : Int) : Int) := of_decide_eq_true (by first | (with_reducible assumption) | assumption); first | exact h_ | (have e_ := (Kd.R_reads' HO_0.out).1; omega) | simpa using h_); obtain rfl := k104_openM hM15; have HP15 := Kd.R_seg HX15.out (x5_1 : Int) (of_decide_eq_true (by first | (with_reducible assumption) | assumption)) (by have h_ : (x5_1 : Int) < ((x0_1.length : Int) : Int) := of_decide_eq_true (by first | (with_reducible assumption) | assumption); first | exact h_ | (have e_ := (Kd.R_reads' HO_0.out).1; omega) | simpa using h_) (seg := [.string t728]) (j := 2) hcl15 hcc15 (show 3 ≤ 3 from by decide) (x' := (⟨(rd_T104 y727 x5_1).f0, (rd_T104 y727 x5_1).f1, t728⟩ : S104)) (k104_mkM _ _ _ (⟨(rd_T104 y727 x5_1).f0, (rd_T104 y727 x5_1).f1, t728⟩ : S104) ) (fun _ hk => hk); have hx15_2 := hcc15 2 _ rfl; (try simp only [show (k104).sz = 3 from rfl, Nat.mul_one, Nat.add_zero] at hx15_2); have hf15_2 := hfr15 2; (try simp only [show (k104).sz = 3 from rfl, Nat.mul_one, Nat.add_zero] at hf15_2); clear hcl15 hcc15 hfr15; (try clear hM15)) | ((with_reducible refine gate_store (t := 9) (p := 31) rfl ?_); refine store_event (t := 9) (p := 31) (v := ?vo_w16) (w1 := (w14.setCell ⟨go5, (x5_1 : Int).toNat * 3 + 2, none⟩ (.string t728))) ?hg ?ho ?hn ?hr ?_; (case ho => rfl); (case hg => rfl); (case hn => rfl); (case hr => first | (go_simp; done) | (go_simp; rfl)); intro w16 hw; have hg : w14.grownBy w16 (some go5) := (by rw [hw]; exact HP15.2); have hp_ : Kd.R k104 104 w16 w0.heap.size (fun k_ => (P0_ k_ ∨ w.heap.size ≤ k_)) (.slice (some ⟨go5, 0, none⟩) x0_1.length co9) y729 := (by rw [hw, Ny729.out]; exact HP15.1); clear HP15; have n0_ := Aside0.mk (hp_); have n1_ := Aside0.mk ((by rw [hw]; exact below_set (HB.out) GB5.out : Below w0.heap.size w0 w16)); have n2_ := Aside0.mk (Kept.of_grown (S := (fun k_ => P0_ k_)) hg (by repeat (first | (with_reducible first | exact HK.out | apply Kept.alloc | apply Kept.drewN | apply Kept.drew) | exact HK.out)) (fun k_ e_ => (HO_0.out.1 k_ e_))); clear HO_0; clear HB; clear HK; have HO_0 := n0_; have HB := n1_; have HK := n2_; clear n0_ n1_ n2_; clear hg hw hp_))
     go_roundg k1
     case measure => have := HK1.out; omega
     case rel => exact ⟨(y729), (wrap64 ((wrap64 ((wrap64 (x1_1 + 1)) + 1)) + 1)), (wrap64 (x5_1 + 1)), (by first | rfl | (simp; done) | (simp [*]; done)), (by first | rfl | (simp; done) | (simp [*]; done)), H', ⟨by have := HK1.out; omega⟩, ⟨by (with_reducible repeat (first | apply Kd.R_alloc | apply Kd.R_drewN | apply Kd.R_drew)); exact HO_0.out⟩, ⟨by repeat (first | (with_reducible first | exact HK.out | apply Kept.alloc | apply Kept.drewN | apply Kept.drew) | exact HK.out)⟩, ⟨by repeat (first | (with_reducible first | exact HB.out | apply below_alloc | apply pw_below_drewN | apply below_drew1) | exact HB.out)⟩⟩
    ·rw [if_neg c4] at H
     exact absurd H (by simp)
   ·rw [if_neg c3] at H
    have c3b0 : decide (x5_1 < (x0_1.length : Int)) = false := decide_eq_false c3
    clear c3
    simp only [Option.some.injEq, Prod.mk.injEq] at H
    obtain ⟨rfl, rfl⟩ := H
    obtain ⟨Ao17, co17, eo17⟩ := Kd.R_slice HO_0.out
    subst eo17
    go_wp2
    go_ret
    exact ⟨by first | rfl | (simp [errW_none, errW_some] <;> rfl) | (simp [*, errW_none, errW_some] <;> rfl), by (with_reducible repeat (first | apply Kd.R_alloc | apply Kd.R_drewN | apply Kd.R_drew)); exact HO_0.out, by repeat (first | (with_reducible first | exact HB.out | apply below_alloc | apply pw_below_drewN | apply below_drew1) | exact HB.out), by repeat (first | (with_reducible first | exact HK.out | apply Kept.alloc | apply Kept.drewN | apply Kept.drew) | exact HK.out)⟩
end Go.Proofs.Ytoncacdehhmpaaa.P
namespace Go.Proofs.Ytoncacdehhmpaaa.P
open Go.RowKit Go.Proofs.YtoncacdehhmpaaaW.PrintWords Go.Proofs.YtoncacdehhmpaaaW.PrintLast Go.Proofs.YtoncacdehhmpaaaW.PrintMore
attribute [local go_sem] max2_int min2_int max_two min_two max_three min_three max_four min_four
set_option linter.unusedVariables false
set_option linter.unusedSimpArgs false
def laws_markFactS.r (k : Nat) : List S38 → Int → Option (Int × List S38)
 | [], a => some (a, [])
 | x :: xs, a => (laws_markText.f k (wrap64 (a + 1))).bind fun t1 => (laws_markValueS.f k x.f2 (wrap64 ((wrap64 (a + 1)) + 1))).bind fun y => (laws_markFactS.r k xs y.1).bind fun z => some (z.1, (⟨a, t1, y.2⟩ : S38) :: z.2)
def laws_markFactS.f (k : Nat) (l0 : List S38) (a1 : Int) : Option (Int × List S38) := laws_markFactS.r k l0 a1
theorem laws_markFactS.mono_r : ∀ xs a k, LeO (laws_markFactS.r k xs a) (laws_markFactS.r (k + 1) xs a)
 | [], a, k => LeO.refl _
 | x :: xs, a, k => LeO.bind (laws_markText.mono _ k) (fun t1 => LeO.bind (laws_markValueS.mono _ _ k) (fun y => LeO.bind (laws_markFactS.mono_r xs _ k) (fun z => LeO.refl _)))
theorem laws_markFactS.mono : ∀ a0 a1 k, LeO (laws_markFactS.f k a0 a1) (laws_markFactS.f (k + 1) a0 a1) := laws_markFactS.mono_r
open Go.Proofs.YtoncacdehhmpaaaX in
set_option maxHeartbeats 8000000 in
set_option maxRecDepth 100000 in
theorem laws_markFactS.calls (k : Nat) (P0_ : Nat → Prop) (u9000_ : Value) (l0 : List (S38)) (a1 : Int) (r1 : Int) (r2 : List (S38)) (w0 w : World) (hB : Below w0.heap.size w0 w) (ho0 : Kd.S k38 38 w w0.heap.size P0_ u9000_ l0) (h : laws_markFactS.f k l0 a1 = some (r1, r2)) :
  Calls Try.prog 47 #[u9000_, .int .i64 a1] w fun e w' => e = .returned (.int .i64 r1) ∧ Kd.S k38 38 w' w0.heap.size (fun k_ => (P0_ k_ ∨ w.heap.size ≤ k_)) u9000_ r2 ∧ Below w0.heap.size w0 w' ∧ Kept w w' (fun k_ => P0_ k_) := by
 have HS := Aside0.mk ho0
 have HB := Aside0.mk hB
 have HH : Aside0 (laws_markFactS.r k l0 a1 = some (r1, r2)) := ⟨h⟩
 obtain ⟨A, c, e0, hlc, hC⟩ := Kd.S_reads ho0
 subst e0
 have hlm : l0.length ≤ 9223372036854775807 := hC.2.1
 have hu0 := Try.underlying38
 clear ho0 hB h hlc hC
 go_enter Try.func47, Try.ntmps47
 go_wp2
 go_loopg [1, 5] l0.length (fun gg v1 v5 wr => ∃ (d t : List (S38)) (a : Int) (z : List (S38)), d.length + t.length = l0.length ∧ l0.length - d.length ≤ gg ∧ v1 = .int .i64 a ∧ v5 = .int .i64 (d.length : Int) ∧ Aside0 (laws_markFactS.r k t a = some (r1, z)) ∧ Aside0 (d ++ z = r2) ∧ Aside0 (Kd.S k38 38 wr w0.heap.size P0_ (.slice A l0.length c) (d ++ t)) ∧ Aside0 (Below w0.heap.size w0 wr) ∧ Aside0 (Kept w wr (fun k_ => P0_ k_)))
 case atStart => exact ⟨[], l0, a1, r2, by simp, by simp, rfl, rfl, HH, ⟨rfl⟩, HS, HB, ⟨Kept.refl _ _⟩⟩
 case round =>
  obtain ⟨d, t, a, z, hdt, hgg, rfl, rfl, HR, HZ, HO, HB1, HK⟩ := hrel
  cases t with
  | nil =>
   have hdl : d.length = l0.length := by simpa using hdt
   have hnl : ¬ ((d.length : Int) < (l0.length : Int)) := by omega
   go_wp2
   go_ret
   have e1 := Option.some.inj HR.out
   injection e1 with e1 e2
   subst e1
   refine ⟨rfl, ?_, HB1.out, HK.out⟩
   have := HO.out
   rw [← HZ.out, ← e2]
   exact Kd.S_mono this (fun _ hk => .inl hk)
  | cons x t =>
   have hdl : d.length < l0.length := by rw [List.length_cons] at hdt; omega
   have hz : (d.length : Int) < (l0.length : Int) := by omega
   have hz0 : (0 : Int) ≤ (d.length : Int) := by omega
   have hnat : ((d.length : Int)).toNat = d.length := by omega
   have HRR := HR.out
   unfold laws_markFactS.r at HRR
   obtain ⟨t1, h1, Hb1⟩ := Option.bind_eq_some_iff.1 HRR
   obtain ⟨y2, hy, Hy⟩ := Option.bind_eq_some_iff.1 Hb1
   obtain ⟨zz, h3, Hc⟩ := Option.bind_eq_some_iff.1 Hy
   have Hd := Option.some.inj Hc
   injection Hd with H4 H5
   have T1 := Aside0.mk h1
   have A2 := Aside0.mk hy
   have A3 := Aside0.mk h3
   have A4 := Aside0.mk H4
   have A5 := Aside0.mk H5
   clear h1 hy h3 H4 H5 HR HRR Hb1 Hy Hc
   have hsl : (d ++ x :: t).length = l0.length := by simp at hdt ⊢; omega
   have HL := Aside0.mk hsl
   obtain ⟨g, cap, eg, hgb, hgl, _⟩ := Kd.S_form HO.out (by omega)
   rw [hsl] at eg
   injection eg with eA _ ec
   subst eA
   subst ec
   have HP : Aside0 (P0_ g) := ⟨(Kd.S_R HO.out).1 g (by simp [Value.ownBlock])⟩
   have HO1 := HO
   have HK1 := HK
   clear hsl hgl HO HK
   go_wp2_with (first
    | ((with_reducible refine gate_store (t := 3) (p := 16) rfl ?_); (obtain ⟨oki, cc, _, hM, _, _, hoki, hH⟩ := Kd.S_elem HO1.out z38 (d.length : Int) (by omega) (by omega)); rw [Int.toNat_natCast, rd_mid] at hM; (obtain ⟨vs, ec, hI⟩ := k38_openM hM); subst ec; refine Kd.H_store k38 w0.heap.size rfl rfl 3 (.tmp 16) (.tmp 14) rfl 38 (d.length : Int) 0 (d ++ x :: t) (⟨a, x.f1, x.f2⟩ : S38) (.int .i64 a) [.int .i64 a] [.int .i64 x.f0, .string x.f1, vs] P0_ oki oki rfl (by rw [Int.toNat_natCast]; rfl) rfl rfl (by kernel_rfl) (by intro q hq; simp at hq; subst hq; rfl) hH (by omega) (by omega) (show (0 : Nat) + 1 ≤ 3 by decide) (k38_mkM _ _ _ (⟨a, x.f1, x.f2⟩ : S38) hI) (fun _ h => h) HB1.out ?_; intro w1 ho hb hg; rw [Int.toNat_natCast, set_mid] at ho; have HO2 := Aside0.mk ho; have HB2 := Aside0.mk hb; have HK2 := Aside0.mk (Kept.of_grown hg HK1.out (by intro k_ e; injection e with e; subst e; exact .inl HP.out)); clear ho hb hg hH hI hM hoki HO1 HB1 HK1)
    | (go_at_call 88; refine (laws_markText.calls k (wrap64 (a + 1)) _ _ T1.out).mono ?_; rintro e w2 ⟨rfl, hd⟩; have HO3 := Aside0.mk (Kd.S_below HO2.out hd); have HB3 := Aside0.mk (below_step HB2.out hd); have HK3 := Aside0.mk (Kept.below HK2.out hd); clear hd HO2 HB2 HK2)
    | ((with_reducible refine gate_store (t := 9) (p := 24) rfl ?_); (obtain ⟨oki, cc, _, hM, _, _, hoki, hH⟩ := Kd.S_elem HO3.out z38 (d.length : Int) (by omega) (by omega)); rw [Int.toNat_natCast, rd_mid] at hM; (obtain ⟨vs, ec, hI⟩ := k38_openM hM); subst ec; refine Kd.H_store k38 w0.heap.size rfl rfl 9 (.tmp 24) (.tmp 22) rfl 38 (d.length : Int) 1 (d ++ (⟨a, x.f1, x.f2⟩ : S38) :: t) (⟨a, t1, x.f2⟩ : S38) (.string t1) [.string t1] [.int .i64 a, .string x.f1, vs] P0_ oki oki rfl (by rw [Int.toNat_natCast]; rfl) rfl rfl (by kernel_rfl) (by intro q hq; simp at hq; subst hq; rfl) hH (by omega) (by omega) (show (1 : Nat) + 1 ≤ 3 by decide) (k38_mkM _ _ _ (⟨a, t1, x.f2⟩ : S38) hI) (fun _ h => h) HB3.out ?_; intro w3 ho hb hg; rw [Int.toNat_natCast, set_mid] at ho; have HO4 := Aside0.mk ho; have HB4 := Aside0.mk hb; have HK4 := Aside0.mk (Kept.of_grown hg HK3.out (by intro k_ e; injection e with e; subst e; exact .inl HP.out)); clear ho hb hg hH hI hM hoki HO3 HB3 HK3; (obtain ⟨oki, cc, _, hM, hcc, hoki, hH⟩ := Kd.S_lend HO4.out z38 (d.length : Int) (by omega) (by omega)); rw [Int.toNat_natCast, rd_mid] at hM; (obtain ⟨vs, ec, hI⟩ := k38_openM hM); subst ec; have hx2 := hcc 2 _ rfl; rw [Int.toNat_natCast] at hx2; have hx2 : w3.cell? ⟨g, d.length * 3 + 2, none⟩ = some vs := hx2; have HH := Aside0.mk hH; have HI := Aside0.mk hI; clear hH hI hM hcc hoki)
    | (go_at_call 89; refine (laws_markValueS.calls k oki vs x.f2 (wrap64 ((wrap64 (a + 1)) + 1)) y2.1 y2.2 w0 _ HB4.out HI.out A2.out).mono ?_; rintro e w4 ⟨rfl, hr, hb, hk⟩; have hr2 := Kd.R_mono (Kd.R_tight rfl hr) (fun k_ hk_ => HI.out.1 k_ hk_.symm); have hs := Kd.H_back (Kd.H_kept HH.out hk (fun k_ _ h_ => h_)) (k38_mkM _ _ _ (⟨a, t1, y2.2⟩ : S38) hr2) (fun _ h => h); rw [Int.toNat_natCast, set_mid] at hs; have HO5 := Aside0.mk hs; have HB5 := Aside0.mk hb; have HK5 := Aside0.mk (HK4.out.then_ hk (fun k_ hk_ => .inl (HH.out.1 k_ hk_))); clear hr hr2 hs hb hk HO4 HB4 HK4))
   go_roundg (l0.length - (d.length + 1))
   case measure => omega
   case rel => exact ⟨d ++ [(⟨a, t1, y2.2⟩ : S38)], t, y2.1, zz.2, by simp at hdt ⊢; omega, by simp, rfl, by rw [List.length_append, List.length_singleton]; go_num, ⟨by rw [A3.out, ← A4.out]⟩, ⟨by rw [← HZ.out, ← A5.out]; simp⟩, ⟨by rw [List.append_assoc]; exact HO5.out⟩, HB5, HK5⟩
end Go.Proofs.Ytoncacdehhmpaaa.P
namespace Go.Proofs.Ytoncacdehhmpaaa.P
open Go.RowKit Go.Proofs.YtoncacdehhmpaaaW.PrintWords Go.Proofs.YtoncacdehhmpaaaW.PrintLast Go.Proofs.YtoncacdehhmpaaaW.PrintMore
attribute [local go_sem] max2_int min2_int max_two min_two max_three min_three max_four min_four
set_option linter.unusedVariables false
set_option linter.unusedSimpArgs false
def laws_heldIntSS.l0 : Nat → List (List Int) → Int → Int → Option (Int)
 | 0, _, _, _ => none
 | k + 1, x0, x1, x5 => if x5 < (x0.length : Int) then (if 0 ≤ x5 then ((laws_heldIntS.f k (rd_L18 x0 x5) x1).bind fun t731 => (if t731 < 0 then (some (-1)) else (laws_heldIntSS.l0 k x0 t731 (wrap64 (x5 + 1))))) else (none)) else (some x1)
def laws_heldIntSS.f (k : Nat) (l0 : List (List Int)) (a1 : Int) : Option (Int) := laws_heldIntSS.l0 k l0 a1 0
theorem laws_heldIntSS.mono_l : ∀ k, (∀ y0 y1 y2, LeO (laws_heldIntSS.l0 k y0 y1 y2) (laws_heldIntSS.l0 (k + 1) y0 y1 y2))
 | 0 => fun _ _ _ r h => by simp [laws_heldIntSS.l0] at h
 | k + 1 => by
  have ih0 := laws_heldIntSS.mono_l k
  ·intro y0 y1 y2
   unfold laws_heldIntSS.l0
   repeat' first
   | (with_reducible exact ih0 _ _ _)
   | (with_reducible exact laws_heldIntS.mono _ _ _)
   | (with_reducible exact LeO.refl _)
   | (with_reducible exact LeO.none _)
   | (with_reducible refine LeO.ite ?_ ?_)
   | (with_reducible refine LeO.bind ?_ (fun _ => ?_))
   | exact ih0 _ _ _
   | exact laws_heldIntS.mono _ _ _
   | exact LeO.none _
   | refine LeO.ite ?_ ?_
   | refine LeO.bind ?_ (fun _ => ?_)
theorem laws_heldIntSS.mono : ∀ a0 a1 k, LeO (laws_heldIntSS.f k a0 a1) (laws_heldIntSS.f (k + 1) a0 a1) := by
 intro a0 a1 k
 have ih0 := laws_heldIntSS.mono_l k
 unfold laws_heldIntSS.f
 repeat' first
   | (with_reducible exact ih0 _ _ _)
   | (with_reducible exact laws_heldIntS.mono _ _ _)
   | (with_reducible exact LeO.refl _)
   | (with_reducible exact LeO.none _)
   | (with_reducible refine LeO.ite ?_ ?_)
   | (with_reducible refine LeO.bind ?_ (fun _ => ?_))
   | exact ih0 _ _ _
   | exact laws_heldIntS.mono _ _ _
   | exact LeO.none _
   | refine LeO.ite ?_ ?_
   | refine LeO.bind ?_ (fun _ => ?_)
set_option maxHeartbeats 8000000 in
set_option maxRecDepth 100000 in
theorem laws_heldIntSS.calls (k : Nat) (A0 : Option Addr) (c0 : Nat) (l0 : List (List Int)) (a1 : Int) (r : Int) (w : World) (hr0 : Kd.C (Kd.slice 3 (Kd.int .i64)) w A0 l0.length l0) (hc0 : l0.length ≤ c0) (h : laws_heldIntSS.f k l0 a1 = some r) :
  Calls Try.prog 49 #[.slice A0 l0.length c0, .int .i64 a1] w fun e w' => e = .returned (.int .i64 r) ∧ Drawn0 w w' := by
 have HR0 := Aside0.mk hr0
 have HC0 := Aside0.mk hc0
 clear hr0 hc0
 have H : (laws_heldIntSS.l0 k l0 a1 0) = some r := h
 clear h
 have H' := Aside0.mk H
 clear H
 go_enter Try.func49, Try.ntmps49
 go_wp2
 go_loopg [1, 5] k (fun kq v1 v5 w' => ∃ (x1_1 : Int) (x5_1 : Int), v1 = .int .i64 x1_1 ∧ v5 = .int .i64 x5_1 ∧ Aside0 (laws_heldIntSS.l0 kq l0 x1_1 x5_1 = some r) ∧ Aside0 (kq ≤ k) ∧ Drawn0 w w')
 case atStart => exact ⟨(a1), (0), (by first | rfl | (simp; done) | (simp [*]; done)), (by first | rfl | (simp; done) | (simp [*]; done)), H', ⟨Nat.le_refl _⟩, by repeat (first | exact Drawn0.refl _ | apply Drawn0.step)⟩
 case round =>
  clear H'
  try clear p2
  obtain ⟨x1_1, x5_1, rfl, rfl, HA, HK1, ⟨m1, rfl⟩⟩ := hrel
  cases gk with
  | zero => exact absurd HA.out (by simp [laws_heldIntSS.l0])
  | succ k1 =>
   have H := HA.out
   clear HA
   simp only [laws_heldIntSS.l0] at H
   by_cases c3 : x5_1 < (l0.length : Int)
   ·rw [if_pos c3] at H
    have c3b0 : decide (x5_1 < (l0.length : Int)) = true := decide_eq_true c3
    clear c3
    by_cases c4 : 0 ≤ x5_1
    ·rw [if_pos c4] at H
     have c4b0 : decide (0 ≤ x5_1) = true := decide_eq_true c4
     clear c4
     replace H := Option.bind_eq_some_iff.mp H
     obtain ⟨t731, A50, H⟩ := H
     replace H : (if t731 < 0 then (some (-1)) else (laws_heldIntSS.l0 k1 l0 t731 (wrap64 (x5_1 + 1)))) = some r := H
     have A5 := Aside0.mk A50
     clear A50
     by_cases c6 : t731 < 0
     ·rw [if_pos c6] at H
      have c6b0 : decide (t731 < 0) = true := decide_eq_true c6
      clear c6
      obtain rfl := Option.some.inj H
      have p730 : 0 ≤ (x5_1 : Int) := of_decide_eq_true (by first | (with_reducible assumption) | assumption)
      have q730 : x5_1 < (l0.length : Int) := of_decide_eq_true (by first | (with_reducible assumption) | assumption)
      obtain ⟨ad730, A730_0, c730_0, e730, hx730_0, hl730_0, hi730_0⟩ := at_L18 HR0.out x5_1 p730 q730
      cases e730
      have HR730_0 := Aside0.mk hi730_0
      have HC730_0 := Aside0.mk hl730_0
      clear hi730_0 hl730_0
      replace p730 := eq_true p730
      replace q730 := eq_true q730
      go_wp2_with (first | ((with_reducible refine gate_callee (f := 36) rfl ?_); refine goesL_ (some 17) rfl rfl Try.func36 (by kernel_rfl) rfl #[.slice A730_0 (rd_L18 l0 x5_1).length c730_0, .int .i64 x1_1] rfl (by (try simp only [List.map_toArray, List.map_cons, List.map_nil]); first | done | rfl | (simp only [List.length_drop, List.length_take]; rfl)) ?_; (with_reducible refine (laws_heldIntS.calls k1 _ _ (rd_L18 l0 x5_1) x1_1 t731 _ ?side1 ?side2 A5.out).mono ?_); (case side1 => repeat (first | exact HR730_0.out | (with_reducible refine Kd.C_alloc ?_ _) | (with_reducible refine Kd.C_drewN ?_ _) | (with_reducible refine Kd.C_drew ?_))); (case side2 => exact HC730_0.out); rintro e w' ⟨rfl, ⟨nd, rfl⟩⟩; refine ⟨_, rfl, ?_⟩))
      go_ret
      exact ⟨by first | rfl | (simp; done) | (simp [*]; done), by repeat (first | exact Drawn0.refl _ | apply Drawn0.step)⟩
     ·rw [if_neg c6] at H
      have c6b0 : decide (t731 < 0) = false := decide_eq_false c6
      clear c6
      have H' := Aside0.mk H
      clear H
      have p730 : 0 ≤ (x5_1 : Int) := of_decide_eq_true (by first | (with_reducible assumption) | assumption)
      have q730 : x5_1 < (l0.length : Int) := of_decide_eq_true (by first | (with_reducible assumption) | assumption)
      obtain ⟨ad730, A730_0, c730_0, e730, hx730_0, hl730_0, hi730_0⟩ := at_L18 HR0.out x5_1 p730 q730
      cases e730
      have HR730_0 := Aside0.mk hi730_0
      have HC730_0 := Aside0.mk hl730_0
      clear hi730_0 hl730_0
      replace p730 := eq_true p730
      replace q730 := eq_true q730
      go_wp2_with (first | ((with_reducible refine gate_callee (f := 36) rfl ?_); refine goesL_ (some 17) rfl rfl Try.func36 (by kernel_rfl) rfl #[.slice A730_0 (rd_L18 l0 x5_1).length c730_0, .int .i64 x1_1] rfl (by (try simp only [List.map_toArray, List.map_cons, List.map_nil]); first | done | rfl | (simp only [List.length_drop, List.length_take]; rfl)) ?_; (with_reducible refine (laws_heldIntS.calls k1 _ _ (rd_L18 l0 x5_1) x1_1 t731 _ ?side1 ?side2 A5.out).mono ?_); (case side1 => repeat (first | exact HR730_0.out | (with_reducible refine Kd.C_alloc ?_ _) | (with_reducible refine Kd.C_drewN ?_ _) | (with_reducible refine Kd.C_drew ?_))); (case side2 => exact HC730_0.out); rintro e w' ⟨rfl, ⟨nd, rfl⟩⟩; refine ⟨_, rfl, ?_⟩))
      go_roundg k1
      case measure => have := HK1.out; omega
      case rel => exact ⟨(t731), (wrap64 (x5_1 + 1)), (by first | rfl | (simp; done) | (simp [*]; done)), (by first | rfl | (simp; done) | (simp [*]; done)), H', ⟨by have := HK1.out; omega⟩, by repeat (first | exact Drawn0.refl _ | apply Drawn0.step)⟩
    ·rw [if_neg c4] at H
     exact absurd H (by simp)
   ·rw [if_neg c3] at H
    have c3b0 : decide (x5_1 < (l0.length : Int)) = false := decide_eq_false c3
    clear c3
    obtain rfl := Option.some.inj H
    go_wp2
    go_ret
    exact ⟨by first | rfl | (simp; done) | (simp [*]; done), by repeat (first | exact Drawn0.refl _ | apply Drawn0.step)⟩
end Go.Proofs.Ytoncacdehhmpaaa.P
namespace Go.Proofs.Ytoncacdehhmpaaa.P
open Go.RowKit Go.Proofs.YtoncacdehhmpaaaW.PrintWords Go.Proofs.YtoncacdehhmpaaaW.PrintLast Go.Proofs.YtoncacdehhmpaaaW.PrintMore
attribute [local go_sem] max2_int min2_int max_two min_two max_three min_three max_four min_four
set_option linter.unusedVariables false
set_option linter.unusedSimpArgs false
def FnExactAlphaMems.Facts (k : Nat) (n0 : List S25) (n1 : List (List Int)) (l : List S28) : Prop :=
 ∃ s1 : Int, laws_szNet.f k n0 n1 1048576 = some s1 ∧ (s1 < 0 ∨ (0 ≤ s1 ∧ ∃ s2 : Int, laws_szFactS.f k l s1 = some s2 ∧ (s2 < 0 ∨ (0 ≤ s2 ∧
  ∃ (T0 : List S34) (T1 : List (List Int)) (F : List S38) (G : List (List Int)) (y : Int × List S34 × List (List Int)) (z : Int × List S38) (q : Int × List (List Int)),
   laws_toNet.f k n0 n1 = some (T0, T1) ∧ laws_toFactS.f k l = some F ∧ spec_AlphaMems.f k T0 T1 F = some G ∧ impl_AlphaMems.f k T0 T1 F = some G ∧ laws_eqIntSS.f k G G = some true ∧
   laws_eqNet.f k T0 T1 T0 T1 = some true ∧ laws_eqFactS.f k F F = some true ∧ laws_markNet.f k T0 T1 1 = some (y.1, y.2.1, y.2.2) ∧ laws_markFactS.f k F y.1 = some (z.1, z.2) ∧ 0 ≤ z.1 ∧
   laws_markIntSS.f k G 1 = some (q.1, q.2) ∧ laws_heldIntSS.f k q.2 1 = some q.1 ∧ 0 ≤ q.1))))
open Classical in
noncomputable def laws_FnExactAlphaMems.f (k : Nat) (n0 : List S25) (n1 : List (List Int)) (l : List S28) : Option Bool := if FnExactAlphaMems.Facts k n0 n1 l then some true else none
open Go.Proofs.YtoncacdehhmpaaaX in
set_option maxHeartbeats 8000000 in
set_option maxRecDepth 100000 in
theorem laws_FnExactAlphaMems.calls (k : Nat) (A0_0 : Option Addr) (c0_0 : Nat) (l0_0 : List S25) (A0_1 : Option Addr) (c0_1 : Nat) (l0_1 : List (List Int)) (A1 : Option Addr) (c1 : Nat) (l1 : List S28) (r : Bool) (w : World)
  (hr0_0 : Kd.C k25 w A0_0 l0_0.length l0_0) (hc0_0 : l0_0.length ≤ c0_0) (hr0_1 : Kd.C (Kd.slice 3 (Kd.int .i64)) w A0_1 l0_1.length l0_1) (hc0_1 : l0_1.length ≤ c0_1) (hr1 : Kd.C k28 w A1 l1.length l1) (hc1 : l1.length ≤ c1) (h : laws_FnExactAlphaMems.f k l0_0 l0_1 l1 = some r) :
  Calls Try.prog 8 #[.agg #[.slice A0_0 l0_0.length c0_0, .slice A0_1 l0_1.length c0_1], .slice A1 l1.length c1] w fun e w' => e = .returned (.bool r) ∧ Below w.heap.size w w' := by
 unfold laws_FnExactAlphaMems.f at h
 split at h
 case isFalse => cases h
 case isTrue hF =>
 have hr := Option.some.inj h
 subst hr
 clear h
 have HR0 := Aside0.mk hr0_0
 have HC0 := Aside0.mk hc0_0
 have HR1 := Aside0.mk hr0_1
 have HC1 := Aside0.mk hc0_1
 have HR2 := Aside0.mk hr1
 have HC2 := Aside0.mk hc1
 have HBE := Aside0.mk (Below.refl w.heap.size w)
 clear hr0_0 hc0_0 hr0_1 hc0_1 hr1 hc1
 have hu0 := Try.underlying81
 have hu1 := Try.underlying75
 obtain ⟨s1, p1, hF⟩ := hF
 have P1 := Aside0.mk p1
 clear p1
 rcases hF with hn | ⟨hp, s2, p2, hF⟩
 ·have hb1 : decide (s1 < 0) = true := decide_eq_true hn
  clear hn
  go_enter Try.func8, Try.ntmps8
  go_wp2_with (first
  | (go_at_call 37; refine (laws_szNet.calls k _ _ l0_0 _ _ l0_1 1048576 s1 _ (Kd.C_below HR0.out (by repeat (first | exact HBE.out | apply below_alloc))) HC0.out (Kd.C_below HR1.out (by repeat (first | exact HBE.out | apply below_alloc))) HC1.out P1.out).mono ?_; rintro e w16 ⟨rfl, hd⟩; have HB16 : Aside0 (Below w.heap.size w w16) := ⟨below_step (by repeat (first | exact HBE.out | apply below_alloc)) hd⟩; have BN16 := Aside0.mk (blk_below (blk_new w _) hd); have hs16 : w.heap.size + 1 ≤ w16.heap.size := (by have h_ := hd.size; simpa using h_); have hzBN_16_0 := (blk_cell BN16.out 0).trans rfl; have hzBN_16_1 := (blk_cell BN16.out 1).trans rfl; clear hd))
  go_ret
  exact ⟨rfl, HB16.out⟩
 have P2 := Aside0.mk p2
 clear p2
 have hb1 : decide (s1 < 0) = false := decide_eq_false (by omega)
 clear hp
 rcases hF with hn | ⟨hp, T0, T1, F, G, y, z, q, p3, p4, p5, p6, p7, p8, p9, p10, p11, p12, p13, p14, p15⟩
 ·have hb2 : decide (s2 < 0) = true := decide_eq_true hn
  clear hn
  go_enter Try.func8, Try.ntmps8
  go_wp2_with (first
  | (go_at_call 37; refine (laws_szNet.calls k _ _ l0_0 _ _ l0_1 1048576 s1 _ (Kd.C_below HR0.out (by repeat (first | exact HBE.out | apply below_alloc))) HC0.out (Kd.C_below HR1.out (by repeat (first | exact HBE.out | apply below_alloc))) HC1.out P1.out).mono ?_; rintro e w16 ⟨rfl, hd⟩; have HB16 : Aside0 (Below w.heap.size w w16) := ⟨below_step (by repeat (first | exact HBE.out | apply below_alloc)) hd⟩; have BN16 := Aside0.mk (blk_below (blk_new w _) hd); have hs16 : w.heap.size + 1 ≤ w16.heap.size := (by have h_ := hd.size; simpa using h_); have hzBN_16_0 := (blk_cell BN16.out 0).trans rfl; have hzBN_16_1 := (blk_cell BN16.out 1).trans rfl; clear hd)
  | (go_at_call 38; refine (laws_szFactS.calls k _ _ l1 s1 s2 _ (Kd.C_below HR2.out HB16.out) HC2.out P2.out).mono ?_; rintro e w21 ⟨rfl, hd⟩; have HB21 : Aside0 (Below w.heap.size w w21) := ⟨below_step HB16.out hd⟩; have BN21 := Aside0.mk (blk_below BN16.out hd); have hs21 : w16.heap.size ≤ w21.heap.size := hd.size; clear HB16 BN16 hzBN_16_0 hzBN_16_1; have hzBN_21_0 := (blk_cell BN21.out 0).trans rfl; have hzBN_21_1 := (blk_cell BN21.out 1).trans rfl; clear hd))
  go_ret
  exact ⟨rfl, HB21.out⟩
 have P3 := Aside0.mk p3
 have P4 := Aside0.mk p4
 have P5 := Aside0.mk p5
 have P6 := Aside0.mk p6
 have P7 := Aside0.mk p7
 have P8 := Aside0.mk p8
 have P9 := Aside0.mk p9
 have P10 := Aside0.mk p10
 have P11 := Aside0.mk p11
 have P13 := Aside0.mk p13
 have P14 := Aside0.mk p14
 have hb2 : decide (s2 < 0) = false := decide_eq_false (by omega)
 have hb3 : decide (z.1 < 0) = false := decide_eq_false (by omega)
 have hb5 : (q.1 != q.1) = false := by simp
 have hb4 : decide (q.1 < 0) = false := decide_eq_false (by omega)
 clear hp p3 p4 p5 p6 p7 p8 p9 p10 p11 p12 p13 p14 p15
 go_enter Try.func8, Try.ntmps8
 go_wp2_with (first
  | (go_at_call 37; refine (laws_szNet.calls k _ _ l0_0 _ _ l0_1 1048576 s1 _ (Kd.C_below HR0.out (by repeat (first | exact HBE.out | apply below_alloc))) HC0.out (Kd.C_below HR1.out (by repeat (first | exact HBE.out | apply below_alloc))) HC1.out P1.out).mono ?_; rintro e w16 ⟨rfl, hd⟩; have HB16 : Aside0 (Below w.heap.size w w16) := ⟨below_step (by repeat (first | exact HBE.out | apply below_alloc)) hd⟩; have BN16 := Aside0.mk (blk_below (blk_new w _) hd); have hs16 : w.heap.size + 1 ≤ w16.heap.size := (by have h_ := hd.size; simpa using h_); have hzBN_16_0 := (blk_cell BN16.out 0).trans rfl; have hzBN_16_1 := (blk_cell BN16.out 1).trans rfl; clear hd)
  | (go_at_call 38; refine (laws_szFactS.calls k _ _ l1 s1 s2 _ (Kd.C_below HR2.out HB16.out) HC2.out P2.out).mono ?_; rintro e w21 ⟨rfl, hd⟩; have HB21 : Aside0 (Below w.heap.size w w21) := ⟨below_step HB16.out hd⟩; have BN21 := Aside0.mk (blk_below BN16.out hd); have hs21 : w16.heap.size ≤ w21.heap.size := hd.size; clear HB16 BN16 hzBN_16_0 hzBN_16_1; have hzBN_21_0 := (blk_cell BN21.out 0).trans rfl; have hzBN_21_1 := (blk_cell BN21.out 1).trans rfl; clear hd)
  | (go_at_call 40; refine (laws_toNet.calls k _ _ l0_0 _ _ l0_1 T0 T1 _ (Kd.C_below HR0.out HB21.out) HC0.out (Kd.C_below HR1.out HB21.out) HC1.out P3.out).mono ?_; rintro e w25 ⟨v0, v1, rfl, ho0, ho1, hd⟩; (obtain ⟨At0, ct0, e_⟩ := Kd.S_slice ho0); subst e_; (obtain ⟨At1, ct1, e_⟩ := Kd.S_slice ho1); subst e_; have HB25 : Aside0 (Below w.heap.size w w25) := ⟨below_step HB21.out hd⟩; have BN25 := Aside0.mk (blk_below BN21.out hd); have hs25 : w21.heap.size ≤ w25.heap.size := hd.size; clear HB21 BN21 hzBN_21_0 hzBN_21_1; have hzBN_25_0 := (blk_cell BN25.out 0).trans rfl; have hzBN_25_1 := (blk_cell BN25.out 1).trans rfl; have HOt0_25 := Aside0.mk (S_pty ho0 (Nat.le_refl _)); have HOt1_25 := Aside0.mk (S_pty ho1 (Nat.le_refl _)); clear hd ho0 ho1)
  | (go_at_call 41; refine (laws_toFactS.calls k _ _ l1 F _ (Kd.C_below HR2.out HB25.out) HC2.out P4.out).mono ?_; rintro e w27 ⟨v0, rfl, ho0, hd⟩; (obtain ⟨Af, cf, e_⟩ := Kd.S_slice ho0); subst e_; have HB27 : Aside0 (Below w.heap.size w w27) := ⟨below_step HB25.out hd⟩; have BN27 := Aside0.mk (blk_below BN25.out hd); have hs27 : w25.heap.size ≤ w27.heap.size := hd.size; clear HB25 BN25 hzBN_25_0 hzBN_25_1; have HOt0_27 := Aside0.mk (Kd.S_below HOt0_25.out hd); clear HOt0_25; have HOt1_27 := Aside0.mk (Kd.S_below HOt1_25.out hd); clear HOt1_25; have hzBN_27_0 := (blk_cell BN27.out 0).trans rfl; have hzBN_27_1 := (blk_cell BN27.out 1).trans rfl; have HOf_27 := Aside0.mk (S_pty ho0 (Nat.le_refl _)); clear hd ho0)
  | (go_at_call 39; refine (spec_AlphaMems.calls k _ _ T0 _ _ T1 _ _ F G _ (S_read HOt0_27.out) (S_room HOt0_27.out) (S_read HOt1_27.out) (S_room HOt1_27.out) (S_read HOf_27.out) (S_room HOf_27.out) P5.out).mono ?_; rintro e w28 ⟨v0, rfl, ho0, hd⟩; (obtain ⟨Aw0, cw0, e_⟩ := Kd.S_slice ho0); subst e_; have HB28 : Aside0 (Below w.heap.size w w28) := ⟨below_step HB27.out hd⟩; have BN28 := Aside0.mk (blk_below BN27.out hd); have hs28 : w27.heap.size ≤ w28.heap.size := hd.size; clear HB27 BN27 hzBN_27_0 hzBN_27_1; clear HOt0_27; clear HOt1_27; clear HOf_27; have hzBN_28_0 := (blk_cell BN28.out 0).trans rfl; have hzBN_28_1 := (blk_cell BN28.out 1).trans rfl; have HOw0_28 := Aside0.mk (S_pty ho0 (Nat.le_refl _)); clear hd ho0)
  | (go_at_call 40; refine (laws_toNet.calls k _ _ l0_0 _ _ l0_1 T0 T1 _ (Kd.C_below HR0.out HB28.out) HC0.out (Kd.C_below HR1.out HB28.out) HC1.out P3.out).mono ?_; rintro e w30 ⟨v0, v1, rfl, ho0, ho1, hd⟩; (obtain ⟨Ax0, cx0, e_⟩ := Kd.S_slice ho0); subst e_; (obtain ⟨Ax1, cx1, e_⟩ := Kd.S_slice ho1); subst e_; have HB30 : Aside0 (Below w.heap.size w w30) := ⟨below_step HB28.out hd⟩; have BN30 := Aside0.mk (blk_below BN28.out hd); have hs30 : w28.heap.size ≤ w30.heap.size := hd.size; clear HB28 BN28 hzBN_28_0 hzBN_28_1; have HOw0_30 := Aside0.mk (Kd.S_below HOw0_28.out hd); clear HOw0_28; have hzBN_30_0 := (blk_cell BN30.out 0).trans rfl; have hzBN_30_1 := (blk_cell BN30.out 1).trans rfl; have HOx0_30 := Aside0.mk (S_pty ho0 (Nat.le_refl _)); have HOx1_30 := Aside0.mk (S_pty ho1 (Nat.le_refl _)); clear hd ho0 ho1)
  | (go_at_call 41; refine (laws_toFactS.calls k _ _ l1 F _ (Kd.C_below HR2.out (by repeat (first | exact HB30.out | apply below_alloc))) HC2.out P4.out).mono ?_; rintro e w32 ⟨v0, rfl, ho0, hd⟩; (obtain ⟨Ax2, cx2, e_⟩ := Kd.S_slice ho0); subst e_; have HB32 : Aside0 (Below w.heap.size w w32) := ⟨below_step (by repeat (first | exact HB30.out | apply below_alloc)) hd⟩; have BN32 := Aside0.mk (blk_below (blk_alloc BN30.out _) hd); have BX32 := Aside0.mk (blk_below (blk_new w30 _) hd); have hs32 : w30.heap.size + 1 ≤ w32.heap.size := (by have h_ := hd.size; simp at h_; omega); have HOx0_32 := Aside0.mk (Kd.S_below (Kd.S_alloc HOx0_30.out _) hd); have HOx1_32 := Aside0.mk (Kd.S_below (Kd.S_alloc HOx1_30.out _) hd); have HOw0_32 := Aside0.mk (Kd.S_below (Kd.S_alloc HOw0_30.out _) hd); have HOx2_32 := Aside0.mk (S_pty ho0 (lo := w30.heap.size + 1) (by simp)); clear HB30 BN30 hzBN_30_0 hzBN_30_1 HOx0_30 HOx1_30 HOw0_30 hd ho0; have hzBN_32_0 := (blk_cell BN32.out 0).trans rfl; have hzBN_32_1 := (blk_cell BN32.out 1).trans rfl; have hzBX_32_0 := (blk_cell BX32.out 0).trans rfl; have hzBX_32_1 := (blk_cell BX32.out 1).trans rfl)
  | (go_at_call 42; refine (impl_AlphaMems.calls k _ _ T0 _ _ T1 _ _ F G _ (S_read HOx0_32.out) (S_room HOx0_32.out) (S_read HOx1_32.out) (S_room HOx1_32.out) (S_read HOx2_32.out) (S_room HOx2_32.out) P6.out).mono ?_; rintro e w35 ⟨v0, rfl, ho0, hd⟩; (obtain ⟨Ag0, cg0, e_⟩ := Kd.S_slice ho0); subst e_; have HB35 : Aside0 (Below w.heap.size w w35) := ⟨below_step HB32.out hd⟩; have BN35 := Aside0.mk (blk_below BN32.out hd); have hs35 : w32.heap.size ≤ w35.heap.size := hd.size; clear HB32 BN32 hzBN_32_0 hzBN_32_1; have HOw0_35 := Aside0.mk (Kd.S_below HOw0_32.out hd); clear HOw0_32; have HOx0_35 := Aside0.mk (Kd.S_below HOx0_32.out hd); clear HOx0_32; have HOx1_35 := Aside0.mk (Kd.S_below HOx1_32.out hd); clear HOx1_32; have HOx2_35 := Aside0.mk (Kd.S_below HOx2_32.out hd); clear HOx2_32; have BX35 := Aside0.mk (blk_below BX32.out hd); clear BX32 hzBX_32_0 hzBX_32_1; have hzBX_35_0 := (blk_cell BX35.out 0).trans rfl; have hzBX_35_1 := (blk_cell BX35.out 1).trans rfl; have hzBN_35_0 := (blk_cell BN35.out 0).trans rfl; have hzBN_35_1 := (blk_cell BN35.out 1).trans rfl; have HOg0_35 := Aside0.mk (S_pty ho0 (Nat.le_refl _)); clear hd ho0)
  | (go_at_call 43; refine (laws_eqIntSS.calls k _ _ G _ _ G true _ (S_read HOg0_35.out) (S_room HOg0_35.out) (S_read HOw0_35.out) (S_room HOw0_35.out) P7.out).mono ?_; rintro e w38 ⟨rfl, hd⟩; replace hd := hd.below; have HB38 : Aside0 (Below w.heap.size w w38) := ⟨below_step HB35.out hd⟩; have BN38 := Aside0.mk (blk_below BN35.out hd); have hs38 : w35.heap.size ≤ w38.heap.size := hd.size; clear HB35 BN35 hzBN_35_0 hzBN_35_1; have HOw0_38 := Aside0.mk (Kd.S_below HOw0_35.out hd); clear HOw0_35; have HOx0_38 := Aside0.mk (Kd.S_below HOx0_35.out hd); clear HOx0_35; have HOx1_38 := Aside0.mk (Kd.S_below HOx1_35.out hd); clear HOx1_35; have HOx2_38 := Aside0.mk (Kd.S_below HOx2_35.out hd); clear HOx2_35; have HOg0_38 := Aside0.mk (Kd.S_below HOg0_35.out hd); clear HOg0_35; have BX38 := Aside0.mk (blk_below BX35.out hd); clear BX35 hzBX_35_0 hzBX_35_1; have hzBX_38_0 := (blk_cell BX38.out 0).trans rfl; have hzBX_38_1 := (blk_cell BX38.out 1).trans rfl; have hzBN_38_0 := (blk_cell BN38.out 0).trans rfl; have hzBN_38_1 := (blk_cell BN38.out 1).trans rfl; clear hd))
 go_region_held3 (fun w' => w'.cell? ⟨w.heap.size, 0, none⟩ = some (.slice A0_0 l0_0.length c0_0) ∧ w'.cell? ⟨w.heap.size, 1, none⟩ = some (.slice A0_1 l0_1.length c0_1) ∧ w'.cell? ⟨w30.heap.size, 0, none⟩ = some (.slice Ax0 T0.length cx0) ∧ w'.cell? ⟨w30.heap.size, 1, none⟩ = some (.slice Ax1 T1.length cx1)) ((first | go_keep | (refine ⟨?_, ?_, ?_, ?_⟩ <;> refine (hd.cell ?_).trans ?_ <;> first | (go_simp; done) | (go_simp; omega))))
  (first
   | (go_at_call 40; refine (laws_toNet.calls k _ _ l0_0 _ _ l0_1 T0 T1 _ (Kd.C_below HR0.out (by repeat (first | exact HB38.out | apply below_drew | apply pw_below_drewN))) HC0.out (Kd.C_below HR1.out (by repeat (first | exact HB38.out | apply below_drew | apply pw_below_drewN))) HC1.out P3.out).mono ?_; rintro e w42 ⟨v0, v1, rfl, ho0, ho1, hd⟩; (obtain ⟨At0, ct0, e_⟩ := Kd.S_slice ho0); subst e_; (obtain ⟨At1, ct1, e_⟩ := Kd.S_slice ho1); subst e_; have HMw0 := Aside0.mk (Kd.S_below (by repeat (first | exact HOw0_38.out | apply Kd.S_drew | apply Kd.S_drewN)) hd); have HMx0 := Aside0.mk (Kd.S_below (by repeat (first | exact HOx0_38.out | apply Kd.S_drew | apply Kd.S_drewN)) hd); have HMx1 := Aside0.mk (Kd.S_below (by repeat (first | exact HOx1_38.out | apply Kd.S_drew | apply Kd.S_drewN)) hd); have HMx2 := Aside0.mk (Kd.S_below (by repeat (first | exact HOx2_38.out | apply Kd.S_drew | apply Kd.S_drewN)) hd); have HMg0 := Aside0.mk (Kd.S_below (by repeat (first | exact HOg0_38.out | apply Kd.S_drew | apply Kd.S_drewN)) hd); have HMBN := Aside0.mk (blk_below (by repeat (first | exact BN38.out | refine blk_drewN ?_ _ | refine blk_drew ?_)) hd); have HMBX := Aside0.mk (blk_below (by repeat (first | exact BX38.out | refine blk_drewN ?_ _ | refine blk_drew ?_)) hd); have HB42 : Aside0 (Below w.heap.size w w42) := ⟨below_step (by repeat (first | exact HB38.out | apply below_drew | apply pw_below_drewN)) hd⟩; have HT0 := Aside0.mk ho0; have HT1 := Aside0.mk ho1; have hs42 : w38.heap.size ≤ w42.heap.size := hd.size)
   | (go_at_call 44; refine (laws_eqNet.calls k _ _ T0 _ _ T1 _ _ T0 _ _ T1 true _ (S_read (by repeat (first | exact HMx0.out | apply Kd.S_drew | apply Kd.S_drewN))) (S_room HMx0.out) (S_read (by repeat (first | exact HMx1.out | apply Kd.S_drew | apply Kd.S_drewN))) (S_room HMx1.out) (S_read (by repeat (first | exact HT0.out | apply Kd.S_drew | apply Kd.S_drewN))) (S_room HT0.out) (S_read (by repeat (first | exact HT1.out | apply Kd.S_drew | apply Kd.S_drewN))) (S_room HT1.out) P8.out).mono ?_; have HH42 := Aside0.mk hd; clear hd; rintro e w43 ⟨rfl, hd⟩))
 have HOw0_43 := Aside0.mk (Kd.S_below (by repeat (first | exact HMw0.out | apply Kd.S_drew | apply Kd.S_drewN)) hd)
 have HOx0_43 := Aside0.mk (Kd.S_below (by repeat (first | exact HMx0.out | apply Kd.S_drew | apply Kd.S_drewN)) hd)
 have HOx1_43 := Aside0.mk (Kd.S_below (by repeat (first | exact HMx1.out | apply Kd.S_drew | apply Kd.S_drewN)) hd)
 have HOx2_43 := Aside0.mk (Kd.S_below (by repeat (first | exact HMx2.out | apply Kd.S_drew | apply Kd.S_drewN)) hd)
 have HOg0_43 := Aside0.mk (Kd.S_below (by repeat (first | exact HMg0.out | apply Kd.S_drew | apply Kd.S_drewN)) hd)
 have BN43 := Aside0.mk (blk_below (by repeat (first | exact HMBN.out | refine blk_drewN ?_ _ | refine blk_drew ?_)) hd)
 have BX43 := Aside0.mk (blk_below (by repeat (first | exact HMBX.out | refine blk_drewN ?_ _ | refine blk_drew ?_)) hd)
 have HB43 : Aside0 (Below w.heap.size w w43) := ⟨below_step (by repeat (first | exact HB42.out | apply below_drew | apply pw_below_drewN)) hd⟩
 have hs43 : w42.heap.size ≤ w43.heap.size := hd.size
 have hzBN_43_0 := (blk_cell BN43.out 0).trans rfl
 have hzBN_43_1 := (blk_cell BN43.out 1).trans rfl
 have hzBX_43_0 := (blk_cell BX43.out 0).trans rfl
 have hzBX_43_1 := (blk_cell BX43.out 1).trans rfl
 clear hd HH42 HB42 HT0 HT1 HB38 BN38 BX38 HMBN HMBX hzBN_38_0 hzBN_38_1 hzBX_38_0 hzBX_38_1 HMw0 HOw0_38 HMx0 HOx0_38 HMx1 HOx1_38 HMx2 HOx2_38 HMg0 HOg0_38
 go_wp2_with (first
  | (go_at_call 41; refine (laws_toFactS.calls k _ _ l1 F _ (Kd.C_below HR2.out HB43.out) HC2.out P4.out).mono ?_; rintro e w47 ⟨v0, rfl, ho0, hd⟩; (obtain ⟨Af2, cf2, e_⟩ := Kd.S_slice ho0); subst e_; have HB47 : Aside0 (Below w.heap.size w w47) := ⟨below_step HB43.out hd⟩; have BN47 := Aside0.mk (blk_below BN43.out hd); have hs47 : w43.heap.size ≤ w47.heap.size := hd.size; clear HB43 BN43 hzBN_43_0 hzBN_43_1; have HOw0_47 := Aside0.mk (Kd.S_below HOw0_43.out hd); clear HOw0_43; have HOx0_47 := Aside0.mk (Kd.S_below HOx0_43.out hd); clear HOx0_43; have HOx1_47 := Aside0.mk (Kd.S_below HOx1_43.out hd); clear HOx1_43; have HOx2_47 := Aside0.mk (Kd.S_below HOx2_43.out hd); clear HOx2_43; have HOg0_47 := Aside0.mk (Kd.S_below HOg0_43.out hd); clear HOg0_43; have BX47 := Aside0.mk (blk_below BX43.out hd); clear BX43 hzBX_43_0 hzBX_43_1; have hzBX_47_0 := (blk_cell BX47.out 0).trans rfl; have hzBX_47_1 := (blk_cell BX47.out 1).trans rfl; have hzBN_47_0 := (blk_cell BN47.out 0).trans rfl; have hzBN_47_1 := (blk_cell BN47.out 1).trans rfl; have HOf2_47 := Aside0.mk (S_pty ho0 (Nat.le_refl _)); clear hd ho0)
  | (go_at_call 45; refine (laws_eqFactS.calls k _ _ F _ _ F true _ (S_read HOx2_47.out) (S_room HOx2_47.out) (S_read HOf2_47.out) (S_room HOf2_47.out) P9.out).mono ?_; rintro e w48 ⟨rfl, hd⟩; have HB48 : Aside0 (Below w.heap.size w w48) := ⟨below_step HB47.out hd⟩; have BN48 := Aside0.mk (blk_below BN47.out hd); have hs48 : w47.heap.size ≤ w48.heap.size := hd.size; clear HB47 BN47 hzBN_47_0 hzBN_47_1; have HOw0_48 := Aside0.mk (Kd.S_below HOw0_47.out hd); clear HOw0_47; have HOx0_48 := Aside0.mk (Kd.S_below HOx0_47.out hd); clear HOx0_47; have HOx1_48 := Aside0.mk (Kd.S_below HOx1_47.out hd); clear HOx1_47; have HOx2_48 := Aside0.mk (Kd.S_below HOx2_47.out hd); clear HOx2_47; have HOg0_48 := Aside0.mk (Kd.S_below HOg0_47.out hd); clear HOg0_47; clear HOf2_47; have BX48 := Aside0.mk (blk_below BX47.out hd); clear BX47 hzBX_47_0 hzBX_47_1; have hzBX_48_0 := (blk_cell BX48.out 0).trans rfl; have hzBX_48_1 := (blk_cell BX48.out 1).trans rfl; have hzBN_48_0 := (blk_cell BN48.out 0).trans rfl; have hzBN_48_1 := (blk_cell BN48.out 1).trans rfl; clear hd)
  | (go_at_call 46; refine (laws_markNet.calls k _ _ _ _ T0 T1 1 y.1 y.2.1 y.2.2 w _ HB48.out (Kd.S_lower HOx0_48.out (by omega)) (Kd.S_lower HOx1_48.out (by omega)) (pty_types (by decide)) P10.out).mono ?_; rintro e w52 ⟨rfl, hb, hk⟩; have HB52 : Aside0 (Below w.heap.size w w52) := ⟨hb⟩; have hs52 : w48.heap.size ≤ w52.heap.size := hk.1; have HOw0_52 := Aside0.mk (Kd.S_kept HOw0_48.out hk (fun k_ h1 h2 => h2.elim (fun h2 => (pty_before (by omega)) k_ h1 h2) (fun h2 => (pty_before (by omega)) k_ h1 h2))); clear HOw0_48; clear HOx0_48; clear HOx1_48; have HOx2_52 := Aside0.mk (Kd.S_kept HOx2_48.out hk (fun k_ h1 h2 => h2.elim (fun h2 => (pty_behind (by omega)) k_ h1 h2) (fun h2 => (pty_behind (by omega)) k_ h1 h2))); clear HOx2_48; have HOg0_52 := Aside0.mk (Kd.S_kept HOg0_48.out hk (fun k_ h1 h2 => h2.elim (fun h2 => (pty_behind (by omega)) k_ h1 h2) (fun h2 => (pty_behind (by omega)) k_ h1 h2))); clear HOg0_48; have BN52 := Aside0.mk (blk_kept BN48.out hk (fun h_ => h_.elim (fun h2 => by have := h2.1; omega) (fun h2 => by have := h2.1; omega))); clear HB48 BN48 hzBN_48_0 hzBN_48_1; have hzBN_52_0 := (blk_cell BN52.out 0).trans rfl; have hzBN_52_1 := (blk_cell BN52.out 1).trans rfl; clear BX48 hzBX_48_0 hzBX_48_1; clear hb hk)
  | (go_at_call 47; refine (laws_markFactS.calls k _ _ F y.1 z.1 z.2 w _ HB52.out (Kd.S_lower HOx2_52.out (by omega)) P11.out).mono ?_; rintro e w55 ⟨rfl, _, hb, hk⟩; have HB55 : Aside0 (Below w.heap.size w w55) := ⟨hb⟩; have hs55 : w52.heap.size ≤ w55.heap.size := hk.1; have HOw0_55 := Aside0.mk (Kd.S_kept HOw0_52.out hk (pty_before (by omega))); clear HOw0_52; clear HOx2_52; have HOg0_55 := Aside0.mk (Kd.S_kept HOg0_52.out hk (pty_behind (by omega))); clear HOg0_52; have BN55 := Aside0.mk (blk_kept BN52.out hk (fun h_ => by have := h_.1; omega)); clear HB52 BN52 hzBN_52_0 hzBN_52_1; have hzBN_55_0 := (blk_cell BN55.out 0).trans rfl; have hzBN_55_1 := (blk_cell BN55.out 1).trans rfl; clear hb hk)
  | (go_at_call 43; refine (laws_eqIntSS.calls k _ _ G _ _ G true _ (S_read HOg0_55.out) (S_room HOg0_55.out) (S_read HOw0_55.out) (S_room HOw0_55.out) P7.out).mono ?_; rintro e w61 ⟨rfl, hd⟩; replace hd := hd.below; have HB61 : Aside0 (Below w.heap.size w w61) := ⟨below_step HB55.out hd⟩; have BN61 := Aside0.mk (blk_below BN55.out hd); have hs61 : w55.heap.size ≤ w61.heap.size := hd.size; clear HB55 BN55 hzBN_55_0 hzBN_55_1; have HOw0_61 := Aside0.mk (Kd.S_below HOw0_55.out hd); clear HOw0_55; have HOg0_61 := Aside0.mk (Kd.S_below HOg0_55.out hd); clear HOg0_55; have hzBN_61_0 := (blk_cell BN61.out 0).trans rfl; have hzBN_61_1 := (blk_cell BN61.out 1).trans rfl; clear hd)
  | (go_at_call 48; refine (laws_markIntSS.calls k _ _ G 1 q.1 q.2 w _ HB61.out (Kd.S_lower HOg0_61.out (by omega)) P13.out).mono ?_; rintro e w66 ⟨rfl, ho, hb, hk⟩; have HG66 := Aside0.mk ho; clear ho; have HLG : Aside0 (G.length = q.2.length) := ⟨(Kd.S_reads' HG66.out).1⟩; have HB66 : Aside0 (Below w.heap.size w w66) := ⟨hb⟩; have hs66 : w61.heap.size ≤ w66.heap.size := hk.1; have HOw0_66 := Aside0.mk (Kd.S_kept HOw0_61.out hk (pty_before (by omega))); clear HOw0_61; clear HOg0_61; have BN66 := Aside0.mk (blk_kept BN61.out hk (fun h_ => by have := h_.1; omega)); clear HB61 BN61 hzBN_61_0 hzBN_61_1; have hzBN_66_0 := (blk_cell BN66.out 0).trans rfl; have hzBN_66_1 := (blk_cell BN66.out 1).trans rfl; clear hb hk)
  | (go_at_call 49; refine calls_of_args (args' := #[.slice Ag0 q.2.length cg0, .int .i64 1]) (by rw [HLG.out]) ?_; refine (laws_heldIntSS.calls k _ _ q.2 1 q.1 _ (S_read HG66.out) (S_room HG66.out) P14.out).mono ?_; rintro e w69 ⟨rfl, hd⟩; replace hd := hd.below; have HG69 := Aside0.mk (Kd.S_below HG66.out hd); clear HG66; have HB69 : Aside0 (Below w.heap.size w w69) := ⟨below_step HB66.out hd⟩; have BN69 := Aside0.mk (blk_below BN66.out hd); have hs69 : w66.heap.size ≤ w69.heap.size := hd.size; clear HB66 BN66 hzBN_66_0 hzBN_66_1; have HOw0_69 := Aside0.mk (Kd.S_below HOw0_66.out hd); clear HOw0_66; have hzBN_69_0 := (blk_cell BN69.out 0).trans rfl; have hzBN_69_1 := (blk_cell BN69.out 1).trans rfl; clear hd)
  | (go_at_call 40; refine (laws_toNet.calls k _ _ l0_0 _ _ l0_1 T0 T1 _ (Kd.C_below HR0.out HB69.out) HC0.out (Kd.C_below HR1.out HB69.out) HC1.out P3.out).mono ?_; rintro e w76 ⟨v0, v1, rfl, ho0, ho1, hd⟩; (obtain ⟨At2, ct2, e_⟩ := Kd.S_slice ho0); subst e_; (obtain ⟨At3, ct3, e_⟩ := Kd.S_slice ho1); subst e_; have HB76 : Aside0 (Below w.heap.size w w76) := ⟨below_step HB69.out hd⟩; have BN76 := Aside0.mk (blk_below BN69.out hd); have hs76 : w69.heap.size ≤ w76.heap.size := hd.size; clear HB69 BN69 hzBN_69_0 hzBN_69_1; have HOw0_76 := Aside0.mk (Kd.S_below HOw0_69.out hd); clear HOw0_69; have hzBN_76_0 := (blk_cell BN76.out 0).trans rfl; have hzBN_76_1 := (blk_cell BN76.out 1).trans rfl; have HOt2_76 := Aside0.mk (S_pty ho0 (Nat.le_refl _)); have HOt3_76 := Aside0.mk (S_pty ho1 (Nat.le_refl _)); have HG76 := Aside0.mk (Kd.S_below HG69.out hd); clear HG69; clear hd ho0 ho1)
  | (go_at_call 41; refine (laws_toFactS.calls k _ _ l1 F _ (Kd.C_below HR2.out HB76.out) HC2.out P4.out).mono ?_; rintro e w78 ⟨v0, rfl, ho0, hd⟩; (obtain ⟨Af3, cf3, e_⟩ := Kd.S_slice ho0); subst e_; have HB78 : Aside0 (Below w.heap.size w w78) := ⟨below_step HB76.out hd⟩; have BN78 := Aside0.mk (blk_below BN76.out hd); have hs78 : w76.heap.size ≤ w78.heap.size := hd.size; clear HB76 BN76 hzBN_76_0 hzBN_76_1; have HOw0_78 := Aside0.mk (Kd.S_below HOw0_76.out hd); clear HOw0_76; have HOt2_78 := Aside0.mk (Kd.S_below HOt2_76.out hd); clear HOt2_76; have HOt3_78 := Aside0.mk (Kd.S_below HOt3_76.out hd); clear HOt3_76; have hzBN_78_0 := (blk_cell BN78.out 0).trans rfl; have hzBN_78_1 := (blk_cell BN78.out 1).trans rfl; have HOf3_78 := Aside0.mk (S_pty ho0 (Nat.le_refl _)); have HG78 := Aside0.mk (Kd.S_below HG76.out hd); clear HG76; clear hd ho0)
  | (go_at_call 42; refine (impl_AlphaMems.calls k _ _ T0 _ _ T1 _ _ F G _ (S_read HOt2_78.out) (S_room HOt2_78.out) (S_read HOt3_78.out) (S_room HOt3_78.out) (S_read HOf3_78.out) (S_room HOf3_78.out) P6.out).mono ?_; rintro e w79 ⟨v0, rfl, ho0, hd⟩; (obtain ⟨Ah0, ch0, e_⟩ := Kd.S_slice ho0); subst e_; have HB79 : Aside0 (Below w.heap.size w w79) := ⟨below_step HB78.out hd⟩; have BN79 := Aside0.mk (blk_below BN78.out hd); have hs79 : w78.heap.size ≤ w79.heap.size := hd.size; clear HB78 BN78 hzBN_78_0 hzBN_78_1; have HOw0_79 := Aside0.mk (Kd.S_below HOw0_78.out hd); clear HOw0_78; clear HOt2_78; clear HOt3_78; clear HOf3_78; have hzBN_79_0 := (blk_cell BN79.out 0).trans rfl; have hzBN_79_1 := (blk_cell BN79.out 1).trans rfl; have HOh0_79 := Aside0.mk (S_pty ho0 (Nat.le_refl _)); have HG79 := Aside0.mk (Kd.S_below HG78.out hd); clear HG78; clear hd ho0)
  | (go_at_call 43; refine (laws_eqIntSS.calls k _ _ G _ _ G true _ (S_read HOh0_79.out) (S_room HOh0_79.out) (S_read HOw0_79.out) (S_room HOw0_79.out) P7.out).mono ?_; rintro e w82 ⟨rfl, hd⟩; replace hd := hd.below; have HB82 : Aside0 (Below w.heap.size w w82) := ⟨below_step HB79.out hd⟩; have BN82 := Aside0.mk (blk_below BN79.out hd); have hs82 : w79.heap.size ≤ w82.heap.size := hd.size; clear HB79 BN79 hzBN_79_0 hzBN_79_1; have HOw0_82 := Aside0.mk (Kd.S_below HOw0_79.out hd); clear HOw0_79; have HOh0_82 := Aside0.mk (Kd.S_below HOh0_79.out hd); clear HOh0_79; have hzBN_82_0 := (blk_cell BN82.out 0).trans rfl; have hzBN_82_1 := (blk_cell BN82.out 1).trans rfl; have HG82 := Aside0.mk (Kd.S_below HG79.out hd); clear HG79; clear hd)
  | (go_at_call 49; refine calls_of_args (args' := #[.slice Ag0 q.2.length cg0, .int .i64 1]) (by rw [HLG.out]) ?_; refine (laws_heldIntSS.calls k _ _ q.2 1 q.1 _ (S_read HG82.out) (S_room HG82.out) P14.out).mono ?_; rintro e w86 ⟨rfl, hd⟩; replace hd := hd.below; have HG86 := Aside0.mk (Kd.S_below HG82.out hd); clear HG82; have HB86 : Aside0 (Below w.heap.size w w86) := ⟨below_step HB82.out hd⟩; have BN86 := Aside0.mk (blk_below BN82.out hd); have hs86 : w82.heap.size ≤ w86.heap.size := hd.size; clear HB82 BN82 hzBN_82_0 hzBN_82_1; have HOw0_86 := Aside0.mk (Kd.S_below HOw0_82.out hd); clear HOw0_82; have HOh0_86 := Aside0.mk (Kd.S_below HOh0_82.out hd); clear HOh0_82; have hzBN_86_0 := (blk_cell BN86.out 0).trans rfl; have hzBN_86_1 := (blk_cell BN86.out 1).trans rfl; clear hd))
 go_ret
 exact ⟨rfl, HB86.out⟩
end Go.Proofs.Ytoncacdehhmpaaa.P
namespace Go.Proofs.Ytoncacdehhmpaaa.P
open Go.RowKit Go.Proofs.YtoncacdehhmpaaaW.PrintWords Go.Proofs.YtoncacdehhmpaaaW.PrintLast Go.Proofs.YtoncacdehhmpaaaW.PrintMore
attribute [local go_sem] max2_int min2_int max_two min_two max_three min_three max_four min_four
set_option linter.unusedVariables false
set_option linter.unusedSimpArgs false
attribute [local go_sem high] eqA104
def laws_szTermS.l0 : Nat → List (S174) → Int → Int → Option (Int)
 | 0, _, _, _ => none
 | k + 1, x0, x1, x5 => if x5 < (x0.length : Int) then (if 0 ≤ x5 then ((laws_szTerm.f ((rd_T174 x0 x5).f0) ((rd_T174 x0 x5).f1) ((rd_T174 x0 x5).f2) ((rd_T174 x0 x5).f3.f0) ((rd_T174 x0 x5).f3.f1) ((rd_T174 x0 x5).f3.f2) x1).bind fun t300 => (if t300 < 0 then (some (-1)) else (laws_szTermS.l0 k x0 t300 (wrap64 (x5 + 1))))) else (none)) else (some x1)
def laws_szTermS.f (k : Nat) (l0 : List (S174)) (a1 : Int) : Option (Int) := if (wrap64 (a1 - (l0.length : Int))) < 0 then (some (-1)) else (laws_szTermS.l0 k l0 (wrap64 (a1 - (l0.length : Int))) 0)
theorem laws_szTermS.mono_l : ∀ k, (∀ y0 y1 y2, LeO (laws_szTermS.l0 k y0 y1 y2) (laws_szTermS.l0 (k + 1) y0 y1 y2))
 | 0 => fun _ _ _ r h => by simp [laws_szTermS.l0] at h
 | k + 1 => by
  have ih0 := laws_szTermS.mono_l k
  ·intro y0 y1 y2
   unfold laws_szTermS.l0
   repeat' first
   | (with_reducible exact ih0 _ _ _)
   | (with_reducible exact LeO.refl _)
   | (with_reducible exact LeO.none _)
   | (with_reducible refine LeO.ite ?_ ?_)
   | (with_reducible refine LeO.bind ?_ (fun _ => ?_))
   | exact ih0 _ _ _
   | exact LeO.none _
   | refine LeO.ite ?_ ?_
   | refine LeO.bind ?_ (fun _ => ?_)
theorem laws_szTermS.mono : ∀ a0 a1 k, LeO (laws_szTermS.f k a0 a1) (laws_szTermS.f (k + 1) a0 a1) := by
 intro a0 a1 k
 have ih0 := laws_szTermS.mono_l k
 unfold laws_szTermS.f
 repeat' first
   | (with_reducible exact ih0 _ _ _)
   | (with_reducible exact LeO.refl _)
   | (with_reducible exact LeO.none _)
   | (with_reducible refine LeO.ite ?_ ?_)
   | (with_reducible refine LeO.bind ?_ (fun _ => ?_))
   | exact ih0 _ _ _
   | exact LeO.none _
   | refine LeO.ite ?_ ?_
   | refine LeO.bind ?_ (fun _ => ?_)
def laws_szPattern.f (k : Nat) (a0_0 : Bool) (a0_1 : ByteArray) (l0_2 : List (S174)) (a1 : Int) : Option (Int) := if (wrap64 (a1 - (a0_1.size : Int))) < 0 then (some (-1)) else ((laws_szTermS.f k l0_2 (wrap64 (a1 - (a0_1.size : Int)))).bind fun t302 => (if t302 < 0 then (some (-1)) else (some t302)))
theorem laws_szPattern.mono : ∀ a0 a1 a2 a3 k, LeO (laws_szPattern.f k a0 a1 a2 a3) (laws_szPattern.f (k + 1) a0 a1 a2 a3) := by
 intro a0 a1 a2 a3 k
 unfold laws_szPattern.f
 repeat' first
   | (with_reducible exact laws_szTermS.mono _ _ _)
   | (with_reducible exact LeO.refl _)
   | (with_reducible exact LeO.none _)
   | (with_reducible refine LeO.ite ?_ ?_)
   | (with_reducible refine LeO.bind ?_ (fun _ => ?_))
   | exact laws_szTermS.mono _ _ _
   | exact LeO.none _
   | refine LeO.ite ?_ ?_
   | refine LeO.bind ?_ (fun _ => ?_)
def spec_l2GoodCls.f (k : Nat) (a0 : ByteArray) : Option (Bool) := (spec_l1GoodSym.f k a0).bind fun t303 => (if t303 = true then (some (a0.toList != ([110, 111, 116] : List UInt8))) else (some false))
theorem spec_l2GoodCls.mono : ∀ a0 k, LeO (spec_l2GoodCls.f k a0) (spec_l2GoodCls.f (k + 1) a0) := by
 intro a0 k
 unfold spec_l2GoodCls.f
 repeat' first
   | (with_reducible exact spec_l1GoodSym.mono _ _)
   | (with_reducible exact LeO.refl _)
   | (with_reducible exact LeO.none _)
   | (with_reducible refine LeO.ite ?_ ?_)
   | (with_reducible refine LeO.bind ?_ (fun _ => ?_))
   | exact spec_l1GoodSym.mono _ _
   | exact LeO.none _
   | refine LeO.ite ?_ ?_
   | refine LeO.bind ?_ (fun _ => ?_)
def spec_l2Zero.f (a0_0 : Int) (a0_1 : Int) (a0_2 : ByteArray) : Option (Bool) := some (a0_0 == 0 && (a0_1 == 0 && (a0_2.toList == ([] : List UInt8))))
def spec_l2GoodTerm.f (k : Nat) (a0_0 : Int) (a0_1 : Int) (a0_2 : ByteArray) (a0_3 : Int) (a0_4 : Int) (a0_5 : ByteArray) : Option (Bool) := if a0_0 = 0 then (if a0_1 = 0 then (if a0_2.toList = ([] : List UInt8) then ((spec_l2Zero.f a0_3 a0_4 a0_5).bind fun t306 => (some t306)) else (some false)) else (some false)) else (if a0_0 = 1 then (if a0_1 = 0 then (if a0_2.toList = ([] : List UInt8) then ((spec_l1GoodVal.f k a0_3 a0_4 a0_5).bind fun t307 => (some t307)) else (some false)) else (some false)) else (if a0_0 = 2 then (if a0_1 = 0 then ((spec_l1GoodSym.f k a0_2).bind fun t308 => (if t308 = true then ((spec_l2Zero.f a0_3 a0_4 a0_5).bind fun t309 => (some t309)) else (some false))) else (some false)) else (if a0_0 = 3 then (if a0_1 ≥ 1 then (if a0_1 ≤ 6 then (if a0_2.toList = ([] : List UInt8) then ((spec_l1GoodVal.f k a0_3 a0_4 a0_5).bind fun t310 => (if t310 = true then (some true) else ((spec_l1GoodSym.f k a0_2).bind fun t311 => (if t311 = true then ((spec_l2Zero.f a0_3 a0_4 a0_5).bind fun t312 => (some t312)) else (some false))))) else ((spec_l1GoodSym.f k a0_2).bind fun t313 => (if t313 = true then ((spec_l2Zero.f a0_3 a0_4 a0_5).bind fun t314 => (some t314)) else (some false)))) else (some false)) else (some false)) else (some false))))
theorem spec_l2GoodTerm.mono : ∀ a0 a1 a2 a3 a4 a5 k, LeO (spec_l2GoodTerm.f k a0 a1 a2 a3 a4 a5) (spec_l2GoodTerm.f (k + 1) a0 a1 a2 a3 a4 a5) := by
 intro a0 a1 a2 a3 a4 a5 k
 unfold spec_l2GoodTerm.f
 repeat' first
   | (with_reducible exact spec_l1GoodSym.mono _ _)
   | (with_reducible exact spec_l1GoodVal.mono _ _ _ _)
   | (with_reducible exact LeO.refl _)
   | (with_reducible exact LeO.none _)
   | (with_reducible refine LeO.ite ?_ ?_)
   | (with_reducible refine LeO.bind ?_ (fun _ => ?_))
   | exact spec_l1GoodSym.mono _ _
   | exact spec_l1GoodVal.mono _ _ _ _
   | exact LeO.none _
   | refine LeO.ite ?_ ?_
   | refine LeO.bind ?_ (fun _ => ?_)
end Go.Proofs.Ytoncacdehhmpaaa.P
namespace Go.Proofs.Ytoncacdehhmpaaa.P
open Go.RowKit Go.Proofs.YtoncacdehhmpaaaW.PrintWords Go.Proofs.YtoncacdehhmpaaaW.PrintLast Go.Proofs.YtoncacdehhmpaaaW.PrintMore
attribute [local go_sem] max2_int min2_int max_two min_two max_three min_three max_four min_four
set_option linter.unusedVariables false
set_option linter.unusedSimpArgs false
mutual
def spec_l2GoodPat.j0 : Nat → Bool → Bool → ByteArray → List (S120) → Option (Bool)
 | 0, _, _, _, _ => none
 | k + 1, x14, x316000, x316001, x316002 => if x14 = true then (some false) else (spec_l2GoodPat.l0 k x316002 (x316002.length : Int) 0)
def spec_l2GoodPat.l0 : Nat → List (S120) → Int → Int → Option (Bool)
 | 0, _, _, _ => none
 | k + 1, x16, x17, x18 => if x18 < x17 then (if 0 ≤ x18 then (if x18 < (x16.length : Int) then ((spec_l2GoodTerm.f k ((rd_T120 x16 x18).f0) ((rd_T120 x16 x18).f1) ((rd_T120 x16 x18).f2) ((rd_T120 x16 x18).f3.f0) ((rd_T120 x16 x18).f3.f1) ((rd_T120 x16 x18).f3.f2)).bind fun t319 => (if t319 = true then (spec_l2GoodPat.l0 k x16 x17 (wrap64 (x18 + 1))) else (some false))) else (none)) else (none)) else (some true)
end
def spec_l2GoodPat.f (k : Nat) (a0_0 : Bool) (a0_1 : ByteArray) (l0_2 : List (S120)) : Option (Bool) := (spec_l2GoodCls.f k a0_1).bind fun t316 => (if t316 = true then (spec_l2GoodPat.j0 k (decide ((l0_2.length : Int) > 6)) a0_0 a0_1 l0_2) else (spec_l2GoodPat.j0 k true a0_0 a0_1 l0_2))
theorem spec_l2GoodPat.mono_l : ∀ k, (∀ y0 y1 y2 y3, LeO (spec_l2GoodPat.j0 k y0 y1 y2 y3) (spec_l2GoodPat.j0 (k + 1) y0 y1 y2 y3)) ∧ (∀ y0 y1 y2, LeO (spec_l2GoodPat.l0 k y0 y1 y2) (spec_l2GoodPat.l0 (k + 1) y0 y1 y2))
 | 0 => ⟨fun _ _ _ _ r h => by simp [spec_l2GoodPat.j0] at h, fun _ _ _ r h => by simp [spec_l2GoodPat.l0] at h⟩
 | k + 1 => by
  obtain ⟨ih0, ih1⟩ := spec_l2GoodPat.mono_l k
  refine ⟨?_, ?_⟩
  ·intro y0 y1 y2 y3
   unfold spec_l2GoodPat.j0
   repeat' first
   | (with_reducible exact ih0 _ _ _ _)
   | (with_reducible exact ih1 _ _ _)
   | (with_reducible exact spec_l2GoodCls.mono _ _)
   | (with_reducible exact spec_l2GoodTerm.mono _ _ _ _ _ _ _)
   | (with_reducible exact LeO.refl _)
   | (with_reducible exact LeO.none _)
   | (with_reducible refine LeO.ite ?_ ?_)
   | (with_reducible refine LeO.bind ?_ (fun _ => ?_))
   | exact ih0 _ _ _ _
   | exact ih1 _ _ _
   | exact spec_l2GoodCls.mono _ _
   | exact spec_l2GoodTerm.mono _ _ _ _ _ _ _
   | exact LeO.none _
   | refine LeO.ite ?_ ?_
   | refine LeO.bind ?_ (fun _ => ?_)
  ·intro y0 y1 y2
   unfold spec_l2GoodPat.l0
   repeat' first
   | (with_reducible exact ih0 _ _ _ _)
   | (with_reducible exact ih1 _ _ _)
   | (with_reducible exact spec_l2GoodCls.mono _ _)
   | (with_reducible exact spec_l2GoodTerm.mono _ _ _ _ _ _ _)
   | (with_reducible exact LeO.refl _)
   | (with_reducible exact LeO.none _)
   | (with_reducible refine LeO.ite ?_ ?_)
   | (with_reducible refine LeO.bind ?_ (fun _ => ?_))
   | exact ih0 _ _ _ _
   | exact ih1 _ _ _
   | exact spec_l2GoodCls.mono _ _
   | exact spec_l2GoodTerm.mono _ _ _ _ _ _ _
   | exact LeO.none _
   | refine LeO.ite ?_ ?_
   | refine LeO.bind ?_ (fun _ => ?_)
theorem spec_l2GoodPat.mono : ∀ a0 a1 a2 k, LeO (spec_l2GoodPat.f k a0 a1 a2) (spec_l2GoodPat.f (k + 1) a0 a1 a2) := by
 intro a0 a1 a2 k
 obtain ⟨ih0, ih1⟩ := spec_l2GoodPat.mono_l k
 unfold spec_l2GoodPat.f
 repeat' first
   | (with_reducible exact ih0 _ _ _ _)
   | (with_reducible exact ih1 _ _ _)
   | (with_reducible exact spec_l2GoodCls.mono _ _)
   | (with_reducible exact spec_l2GoodTerm.mono _ _ _ _ _ _ _)
   | (with_reducible exact LeO.refl _)
   | (with_reducible exact LeO.none _)
   | (with_reducible refine LeO.ite ?_ ?_)
   | (with_reducible refine LeO.bind ?_ (fun _ => ?_))
   | exact ih0 _ _ _ _
   | exact ih1 _ _ _
   | exact spec_l2GoodCls.mono _ _
   | exact spec_l2GoodTerm.mono _ _ _ _ _ _ _
   | exact LeO.none _
   | refine LeO.ite ?_ ?_
   | refine LeO.bind ?_ (fun _ => ?_)
def spec_l3Earlier.l0 : Nat → Int → ByteArray → Int → Bool → ByteArray → List (S120) → Option (Int)
 | 0, _, _, _, _, _, _ => none
 | k + 1, x1, x2, x7, x321000, x321001, x321002 => if x7 < x1 then (if 0 ≤ x7 then (if x7 < (x321002.length : Int) then (if ((rd_T120 x321002 x7).f0) = 2 then (if ((rd_T120 x321002 x7).f2).toList = x2.toList then (some x7) else (spec_l3Earlier.l0 k x1 x2 (wrap64 (x7 + 1)) x321000 x321001 x321002)) else (spec_l3Earlier.l0 k x1 x2 (wrap64 (x7 + 1)) x321000 x321001 x321002)) else (none)) else (none)) else (some (-1))
def spec_l3Earlier.f (k : Nat) (a0_0 : Bool) (a0_1 : ByteArray) (l0_2 : List (S120)) (a1 : Int) (a2 : ByteArray) : Option (Int) := spec_l3Earlier.l0 k a1 a2 0 a0_0 a0_1 l0_2
theorem spec_l3Earlier.mono_l : ∀ k, (∀ y0 y1 y2 y3 y4 y5, LeO (spec_l3Earlier.l0 k y0 y1 y2 y3 y4 y5) (spec_l3Earlier.l0 (k + 1) y0 y1 y2 y3 y4 y5))
 | 0 => fun _ _ _ _ _ _ r h => by simp [spec_l3Earlier.l0] at h
 | k + 1 => by
  have ih0 := spec_l3Earlier.mono_l k
  ·intro y0 y1 y2 y3 y4 y5
   unfold spec_l3Earlier.l0
   repeat' first
   | (with_reducible exact ih0 _ _ _ _ _ _)
   | (with_reducible exact LeO.refl _)
   | (with_reducible exact LeO.none _)
   | (with_reducible refine LeO.ite ?_ ?_)
   | (with_reducible refine LeO.bind ?_ (fun _ => ?_))
   | exact ih0 _ _ _ _ _ _
   | exact LeO.none _
   | refine LeO.ite ?_ ?_
   | refine LeO.bind ?_ (fun _ => ?_)
theorem spec_l3Earlier.mono : ∀ a0 a1 a2 a3 a4 k, LeO (spec_l3Earlier.f k a0 a1 a2 a3 a4) (spec_l3Earlier.f (k + 1) a0 a1 a2 a3 a4) := by
 intro a0 a1 a2 a3 a4 k
 have ih0 := spec_l3Earlier.mono_l k
 unfold spec_l3Earlier.f
 repeat' first
   | (with_reducible exact ih0 _ _ _ _ _ _)
   | (with_reducible exact LeO.refl _)
   | (with_reducible exact LeO.none _)
   | (with_reducible refine LeO.ite ?_ ?_)
   | (with_reducible refine LeO.bind ?_ (fun _ => ?_))
   | exact ih0 _ _ _ _ _ _
   | exact LeO.none _
   | refine LeO.ite ?_ ?_
   | refine LeO.bind ?_ (fun _ => ?_)
end Go.Proofs.Ytoncacdehhmpaaa.P
namespace Go.Proofs.Ytoncacdehhmpaaa.P
open Go.RowKit Go.Proofs.YtoncacdehhmpaaaW.PrintWords Go.Proofs.YtoncacdehhmpaaaW.PrintLast Go.Proofs.YtoncacdehhmpaaaW.PrintMore
attribute [local go_sem] max2_int min2_int max_two min_two max_three min_three max_four min_four
set_option linter.unusedVariables false
set_option linter.unusedSimpArgs false
open Go.Proofs.YtoncacdehhmpaaaX
def zeroValB (v : S104) : Bool := v.f0 == 0 && (v.f1 == 0 && v.f2.toList.isEmpty)
def goodTermB (t : S120) : Bool :=
 if t.f0 = 0 then t.f1 == 0 && (t.f2.toList.isEmpty && zeroValB t.f3)
 else if t.f0 = 1 then (t.f1 == 0 && t.f2.toList.isEmpty) && goodValueB t.f3
 else if t.f0 = 2 then (t.f1 == 0 && zeroValB t.f3) && goodSymB t.f2
 else if t.f0 = 3 then if t.f1 < 1 then false else if 6 < t.f1 then false else if t.f2.toList.isEmpty then goodValueB t.f3 else goodSymB t.f2 && zeroValB t.f3
 else false
def impl_Term_good.f (a0_0 a0_1 : Int) (a0_2 : ByteArray) (a0_3 a0_4 : Int) (a0_5 : ByteArray) : Option Bool := some (goodTermB ⟨a0_0, a0_1, a0_2, ⟨a0_3, a0_4, a0_5⟩⟩)
end Go.Proofs.Ytoncacdehhmpaaa.P
namespace Go.Proofs.Ytoncacdehhmpaaa.P
open Go.RowKit Go.Proofs.YtoncacdehhmpaaaW.PrintWords Go.Proofs.YtoncacdehhmpaaaW.PrintLast Go.Proofs.YtoncacdehhmpaaaW.PrintMore
attribute [local go_sem] max2_int min2_int max_two min_two max_three min_three max_four min_four
set_option linter.unusedVariables false
set_option linter.unusedSimpArgs false
mutual
def spec_AlphaOf.l0 : Nat → List (S120) → Int → Int → Bool → ByteArray → List (S120) → ByteArray → Int → List (S106) → Option (ByteArray × Int × (List (S106)))
 | 0, _, _, _, _, _, _, _, _, _ => none
 | k + 1, x18, x19, x20, x324000, x324001, x324002, x327000, x327001, x327002 => if x20 < x19 then (if 0 ≤ x20 then (if x20 < (x18.length : Int) then (if ((rd_T120 x18 x20).f0) = 3 then (spec_AlphaOf.j1 k x20 x18 x19 x20 x324000 x324001 x324002 x327000 x327001 x327002 ((rd_T120 x18 x20).f0) ((rd_T120 x18 x20).f1) ((rd_T120 x18 x20).f2) ((rd_T120 x18 x20).f3.f0) ((rd_T120 x18 x20).f3.f1) ((rd_T120 x18 x20).f3.f2) x20 ((rd_T120 x18 x20).f1) (-1) ((rd_T120 x18 x20).f3.f0) ((rd_T120 x18 x20).f3.f1) ((rd_T120 x18 x20).f3.f2)) else (spec_AlphaOf.j1 k x20 x18 x19 x20 x324000 x324001 x324002 x327000 x327001 x327002 ((rd_T120 x18 x20).f0) ((rd_T120 x18 x20).f1) ((rd_T120 x18 x20).f2) ((rd_T120 x18 x20).f3.f0) ((rd_T120 x18 x20).f3.f1) ((rd_T120 x18 x20).f3.f2) x20 1 (-1) ((rd_T120 x18 x20).f3.f0) ((rd_T120 x18 x20).f3.f1) ((rd_T120 x18 x20).f3.f2))) else (none)) else (none)) else (some (x327000, x327001, x327002))
def spec_AlphaOf.j1 : Nat → Int → List (S120) → Int → Int → Bool → ByteArray → List (S120) → ByteArray → Int → List (S106) → Int → Int → ByteArray → Int → Int → ByteArray → Int → Int → Int → Int → Int → ByteArray → Option (ByteArray × Int × (List (S106)))
 | 0, _, _, _, _, _, _, _, _, _, _, _, _, _, _, _, _, _, _, _, _, _, _ => none
 | k + 1, x4, x18, x19, x20, x324000, x324001, x324002, x327000, x327001, x327002, x329000, x329001, x329002, x329003, x329004, x329005, x330000, x330001, x330002, x330003, x330004, x330005 => if x329000 = 0 then (spec_AlphaOf.l0 k x18 x19 (wrap64 (x20 + 1)) x324000 x324001 x324002 x327000 x327001 x327002) else (if x329002.toList = ([] : List UInt8) then (if x327002.length < 2513169434916 then (spec_AlphaOf.l0 k x18 x19 (wrap64 (x20 + 1)) x324000 x324001 x324002 x327000 x327001 (x327002 ++ [(⟨x330000, x330001, x330002, (⟨x330003, x330004, x330005⟩ : S104)⟩ : S106)])) else (none)) else ((spec_l3Earlier.f k x324000 x324001 x324002 x4 x329002).bind fun t333 => (if t333 < 0 then (spec_AlphaOf.l0 k x18 x19 (wrap64 (x20 + 1)) x324000 x324001 x324002 x327000 x327001 x327002) else (if x327002.length < 2513169434916 then (spec_AlphaOf.l0 k x18 x19 (wrap64 (x20 + 1)) x324000 x324001 x324002 x327000 x327001 (x327002 ++ [(⟨x330000, x330001, t333, (⟨x330003, x330004, x330005⟩ : S104)⟩ : S106)])) else (none)))))
end
def spec_AlphaOf.f (k : Nat) (a0_0 : Bool) (a0_1 : ByteArray) (l0_2 : List (S120)) : Option (ByteArray × Int × (List (S106))) := (spec_l2GoodPat.f k a0_0 a0_1 l0_2).bind fun t325 => (if t325 = true then (spec_AlphaOf.l0 k l0_2 (l0_2.length : Int) 0 a0_0 a0_1 l0_2 a0_1 (l0_2.length : Int) ([] : List (S106))) else (some ((⟨#[]⟩ : ByteArray), 0, ([] : List (S106)))))
theorem spec_AlphaOf.mono_l : ∀ k, (∀ y0 y1 y2 y3 y4 y5 y6 y7 y8, LeO (spec_AlphaOf.l0 k y0 y1 y2 y3 y4 y5 y6 y7 y8) (spec_AlphaOf.l0 (k + 1) y0 y1 y2 y3 y4 y5 y6 y7 y8)) ∧ (∀ y0 y1 y2 y3 y4 y5 y6 y7 y8 y9 y10 y11 y12 y13 y14 y15 y16 y17 y18 y19 y20 y21, LeO (spec_AlphaOf.j1 k y0 y1 y2 y3 y4 y5 y6 y7 y8 y9 y10 y11 y12 y13 y14 y15 y16 y17 y18 y19 y20 y21) (spec_AlphaOf.j1 (k + 1) y0 y1 y2 y3 y4 y5 y6 y7 y8 y9 y10 y11 y12 y13 y14 y15 y16 y17 y18 y19 y20 y21))
 | 0 => ⟨fun _ _ _ _ _ _ _ _ _ r h => by simp [spec_AlphaOf.l0] at h, fun _ _ _ _ _ _ _ _ _ _ _ _ _ _ _ _ _ _ _ _ _ _ r h => by simp [spec_AlphaOf.j1] at h⟩
 | k + 1 => by
  obtain ⟨ih0, ih1⟩ := spec_AlphaOf.mono_l k
  refine ⟨?_, ?_⟩
  ·intro y0 y1 y2 y3 y4 y5 y6 y7 y8
   unfold spec_AlphaOf.l0
   repeat' first
   | (with_reducible exact ih0 _ _ _ _ _ _ _ _ _)
   | (with_reducible exact ih1 _ _ _ _ _ _ _ _ _ _ _ _ _ _ _ _ _ _ _ _ _ _)
   | (with_reducible exact spec_l2GoodPat.mono _ _ _ _)
   | (with_reducible exact spec_l3Earlier.mono _ _ _ _ _ _)
   | (with_reducible exact LeO.refl _)
   | (with_reducible exact LeO.none _)
   | (with_reducible refine LeO.ite ?_ ?_)
   | (with_reducible refine LeO.bind ?_ (fun _ => ?_))
   | exact ih0 _ _ _ _ _ _ _ _ _
   | exact ih1 _ _ _ _ _ _ _ _ _ _ _ _ _ _ _ _ _ _ _ _ _ _
   | exact spec_l2GoodPat.mono _ _ _ _
   | exact spec_l3Earlier.mono _ _ _ _ _ _
   | exact LeO.none _
   | refine LeO.ite ?_ ?_
   | refine LeO.bind ?_ (fun _ => ?_)
  ·intro y0 y1 y2 y3 y4 y5 y6 y7 y8 y9 y10 y11 y12 y13 y14 y15 y16 y17 y18 y19 y20 y21
   unfold spec_AlphaOf.j1
   repeat' first
   | (with_reducible exact ih0 _ _ _ _ _ _ _ _ _)
   | (with_reducible exact ih1 _ _ _ _ _ _ _ _ _ _ _ _ _ _ _ _ _ _ _ _ _ _)
   | (with_reducible exact spec_l2GoodPat.mono _ _ _ _)
   | (with_reducible exact spec_l3Earlier.mono _ _ _ _ _ _)
   | (with_reducible exact LeO.refl _)
   | (with_reducible exact LeO.none _)
   | (with_reducible refine LeO.ite ?_ ?_)
   | (with_reducible refine LeO.bind ?_ (fun _ => ?_))
   | exact ih0 _ _ _ _ _ _ _ _ _
   | exact ih1 _ _ _ _ _ _ _ _ _ _ _ _ _ _ _ _ _ _ _ _ _ _
   | exact spec_l2GoodPat.mono _ _ _ _
   | exact spec_l3Earlier.mono _ _ _ _ _ _
   | exact LeO.none _
   | refine LeO.ite ?_ ?_
   | refine LeO.bind ?_ (fun _ => ?_)
theorem spec_AlphaOf.mono : ∀ a0 a1 a2 k, LeO (spec_AlphaOf.f k a0 a1 a2) (spec_AlphaOf.f (k + 1) a0 a1 a2) := by
 intro a0 a1 a2 k
 obtain ⟨ih0, ih1⟩ := spec_AlphaOf.mono_l k
 unfold spec_AlphaOf.f
 repeat' first
   | (with_reducible exact ih0 _ _ _ _ _ _ _ _ _)
   | (with_reducible exact ih1 _ _ _ _ _ _ _ _ _ _ _ _ _ _ _ _ _ _ _ _ _ _)
   | (with_reducible exact spec_l2GoodPat.mono _ _ _ _)
   | (with_reducible exact spec_l3Earlier.mono _ _ _ _ _ _)
   | (with_reducible exact LeO.refl _)
   | (with_reducible exact LeO.none _)
   | (with_reducible refine LeO.ite ?_ ?_)
   | (with_reducible refine LeO.bind ?_ (fun _ => ?_))
   | exact ih0 _ _ _ _ _ _ _ _ _
   | exact ih1 _ _ _ _ _ _ _ _ _ _ _ _ _ _ _ _ _ _ _ _ _ _
   | exact spec_l2GoodPat.mono _ _ _ _
   | exact spec_l3Earlier.mono _ _ _ _ _ _
   | exact LeO.none _
   | refine LeO.ite ?_ ?_
   | refine LeO.bind ?_ (fun _ => ?_)
def laws_toTerm.f (a0_0 : Int) (a0_1 : Int) (a0_2 : ByteArray) (a0_3 : Int) (a0_4 : Int) (a0_5 : ByteArray) : Option (Int × Int × ByteArray × Int × Int × ByteArray) := (laws_toValue.f a0_3 a0_4 a0_5).bind fun bt340 => (some (a0_0, a0_1, a0_2, bt340.1, bt340.2.1, bt340.2.2))
end Go.Proofs.Ytoncacdehhmpaaa.P
namespace Go.Proofs.Ytoncacdehhmpaaa.P
open Go.RowKit Go.Proofs.YtoncacdehhmpaaaW.PrintWords Go.Proofs.YtoncacdehhmpaaaW.PrintLast Go.Proofs.YtoncacdehhmpaaaW.PrintMore
attribute [local go_sem] max2_int min2_int max_two min_two max_three min_three max_four min_four
set_option linter.unusedVariables false
set_option linter.unusedSimpArgs false
def laws_toTermS.l0 : Nat → List (S174) → List (S120) → Int → Option ((List (S120)))
 | 0, _, _, _ => none
 | k + 1, x0, x3, x4 => if x4 < (x0.length : Int) then (if 0 ≤ x4 then ((laws_toTerm.f ((rd_T174 x0 x4).f0) ((rd_T174 x0 x4).f1) ((rd_T174 x0 x4).f2) ((rd_T174 x0 x4).f3.f0) ((rd_T174 x0 x4).f3.f1) ((rd_T174 x0 x4).f3.f2)).bind fun bt347 => (if x4 < (x3.length : Int) then (laws_toTermS.l0 k x0 (x3.set (x4 : Int).toNat (⟨bt347.1, bt347.2.1, bt347.2.2.1, (⟨bt347.2.2.2.1, bt347.2.2.2.2.1, bt347.2.2.2.2.2⟩ : S104)⟩ : S120)) (wrap64 (x4 + 1))) else (none))) else (none)) else (some x3)
def laws_toTermS.f (k : Nat) (l0 : List (S174)) : Option ((List (S120))) := if 0 ≤ (l0.length : Int) then (if ((l0.length : Int) : Int).toNat ≤ 4398046511104 then (laws_toTermS.l0 k l0 (List.replicate ((l0.length : Int) : Int).toNat z120) 0) else (none)) else (none)
theorem laws_toTermS.mono_l : ∀ k, (∀ y0 y1 y2, LeO (laws_toTermS.l0 k y0 y1 y2) (laws_toTermS.l0 (k + 1) y0 y1 y2))
 | 0 => fun _ _ _ r h => by simp [laws_toTermS.l0] at h
 | k + 1 => by
  have ih0 := laws_toTermS.mono_l k
  ·intro y0 y1 y2
   unfold laws_toTermS.l0
   repeat' first
   | (with_reducible exact ih0 _ _ _)
   | (with_reducible exact LeO.refl _)
   | (with_reducible exact LeO.none _)
   | (with_reducible refine LeO.ite ?_ ?_)
   | (with_reducible refine LeO.bind ?_ (fun _ => ?_))
   | exact ih0 _ _ _
   | exact LeO.none _
   | refine LeO.ite ?_ ?_
   | refine LeO.bind ?_ (fun _ => ?_)
theorem laws_toTermS.mono : ∀ a0 k, LeO (laws_toTermS.f k a0) (laws_toTermS.f (k + 1) a0) := by
 intro a0 k
 have ih0 := laws_toTermS.mono_l k
 unfold laws_toTermS.f
 repeat' first
   | (with_reducible exact ih0 _ _ _)
   | (with_reducible exact LeO.refl _)
   | (with_reducible exact LeO.none _)
   | (with_reducible refine LeO.ite ?_ ?_)
   | (with_reducible refine LeO.bind ?_ (fun _ => ?_))
   | exact ih0 _ _ _
   | exact LeO.none _
   | refine LeO.ite ?_ ?_
   | refine LeO.bind ?_ (fun _ => ?_)
def laws_toPattern.f (k : Nat) (a0_0 : Bool) (a0_1 : ByteArray) (l0_2 : List (S174)) : Option (Bool × ByteArray × (List (S120))) := (laws_toTermS.f k l0_2).bind fun t357 => (some (a0_0, a0_1, t357))
theorem laws_toPattern.mono : ∀ a0 a1 a2 k, LeO (laws_toPattern.f k a0 a1 a2) (laws_toPattern.f (k + 1) a0 a1 a2) := by
 intro a0 a1 a2 k
 unfold laws_toPattern.f
 repeat' first
   | (with_reducible exact laws_toTermS.mono _ _)
   | (with_reducible exact LeO.refl _)
   | (with_reducible exact LeO.none _)
   | (with_reducible refine LeO.ite ?_ ?_)
   | (with_reducible refine LeO.bind ?_ (fun _ => ?_))
   | exact laws_toTermS.mono _ _
   | exact LeO.none _
   | refine LeO.ite ?_ ?_
   | refine LeO.bind ?_ (fun _ => ?_)
def impl_goodCls.f (a0 : ByteArray) : Option (Bool) := (impl_goodSym.f a0).bind fun t360 => (if t360 = true then (some (a0.toList != ([110, 111, 116] : List UInt8))) else (some false))
end Go.Proofs.Ytoncacdehhmpaaa.P
namespace Go.Proofs.Ytoncacdehhmpaaa.P
open Go.RowKit Go.Proofs.YtoncacdehhmpaaaW.PrintWords Go.Proofs.YtoncacdehhmpaaaW.PrintLast Go.Proofs.YtoncacdehhmpaaaW.PrintMore
attribute [local go_sem] max2_int min2_int max_two min_two max_three min_three max_four min_four
set_option linter.unusedVariables false
set_option linter.unusedSimpArgs false
open Go.Proofs.YtoncacdehhmpaaaX in
def goodClsB (s : ByteArray) : Bool := goodSymB s && (s.toList != ([110, 111, 116] : List UInt8))
def goodPatB (cls : ByteArray) (ts : List S120) : Bool := goodClsB cls && (decide (ts.length ≤ 6) && ts.all goodTermB)
def impl_Pattern_good.f (a0_0 : Bool) (a0_1 : ByteArray) (l0_2 : List S120) : Option Bool := some (goodPatB a0_1 l0_2)
end Go.Proofs.Ytoncacdehhmpaaa.P
namespace Go.Proofs.Ytoncacdehhmpaaa.Pure
open Go.RowKit Go.Proofs.Ytoncacdehhmpaaa.P Go.Proofs.YtoncacdehhmpaaaW.PrintWords Go.Proofs.YtoncacdehhmpaaaW.PrintLast Go.Proofs.YtoncacdehhmpaaaX
set_option linter.unusedVariables false
set_option linter.unusedSimpArgs false
theorem goodSym_loop (s : ByteArray) (hs : s.size ≤ 9223372036854775807) : ∀ i, i ≤ s.size → Ev (fun k => spec_l1GoodSym.l0 k s (i : Int)) (symFrom s i) := by
  refine up_ind ?_ ?_
  · rw [symFrom_end]
    refine Ev.step (fun k => by simp only [spec_l1GoodSym.l0]; exact rfl) ?_
    exact Ev.ifF (by omega) (Ev.now _)
  · intro i hi ih
    rw [symFrom_step s i hi]
    refine Ev.step (fun k => by simp only [spec_l1GoodSym.l0, wrap_succ hi hs]; exact rfl) ?_
    refine Ev.ifT (by omega) ?_
    refine Ev.ifT (by omega) ?_
    generalize bt s (i : Int) = c
    have good : symOk c = true → Ev (fun k => spec_l1GoodSym.l0 k s ((i + 1 : Nat) : Int)) (symOk c && symFrom s (i + 1)) := by
      intro h
      rw [h, Bool.true_and]
      exact ih
    have bad : symOk c = false → Ev (fun _ => some false) (symOk c && symFrom s (i + 1)) := by
      intro h
      rw [h, Bool.false_and]
      exact Ev.now _
    repeat (first
      | exact good (by simp [symOk]; omega)
      | exact bad (by simp [symOk]; omega)
      | refine Ev.ite (fun _ => ?_) (fun _ => ?_))
theorem l1GoodSym_some (s : ByteArray) : Ev (fun k => spec_l1GoodSym.f k s) (goodSymB s) := by
  have hj : ∀ (b : Bool), s.size ≤ 20 → Ev (fun k => spec_l1GoodSym.j0 k s b) (if b = true then false else symFrom s 0) := by
    intro b hs
    refine Ev.step (fun k => by simp only [spec_l1GoodSym.j0]; exact rfl) ?_
    cases b with
    | true => exact Ev.ifT (by trivial) (Ev.now _)
    | false => exact Ev.ifF (by simp) (goodSym_loop s (by omega) 0 (by omega))
  have hj1 : Ev (fun k => spec_l1GoodSym.j0 k s true) false := by
    refine Ev.step (fun k => by simp only [spec_l1GoodSym.j0]; exact rfl) ?_
    exact Ev.ifT (by trivial) (Ev.now _)
  unfold goodSymB
  refine Ev.congr (fun k => by unfold spec_l1GoodSym.f; exact rfl) ?_
  by_cases c1 : s.size = 0
  · rw [if_pos c1]
    exact Ev.ifT (by omega) hj1
  rw [if_neg c1]
  refine Ev.ifF (by omega) ?_
  by_cases c2 : 20 < s.size
  · rw [if_pos c2]
    exact Ev.ifT (by omega) hj1
  rw [if_neg c2]
  refine Ev.ifF (by omega) ?_
  refine Ev.ifT (by omega) ?_
  by_cases c3 : bt s 0 < 97
  · rw [if_pos c3]
    exact Ev.ifT (by omega) hj1
  rw [if_neg c3]
  refine Ev.ifF (by omega) ?_
  refine Ev.as (hj _ (by omega)) ?_
  by_cases c4 : 122 < bt s 0
  · rw [if_pos c4, if_pos (by simpa using c4)]
  · rw [if_neg c4, if_neg (by simpa using c4)]
theorem toList_nil_iff (s : ByteArray) : s.toList = [] ↔ s.toList.isEmpty = true := by rw [List.isEmpty_iff]
theorem goodValueB_def (v : S104) : goodValueB v = if v.f0 = 0 then v.f2.toList.isEmpty else if v.f0 = 1 then (if v.f1 = 0 then goodSymB v.f2 else false) else false := by
  unfold goodValueB impl_Value_good.f impl_goodSym.f
  simp only [Option.bind_some]
  by_cases h : v.f0 = 0
  · rw [if_pos h, if_pos h]
    simp only [Option.getD_some]
    rw [Bool.eq_iff_iff, beq_iff_eq]
    exact toList_nil_iff _
  · rw [if_neg h, if_neg h]
    split
    · split <;> rfl
    · rfl
theorem l1GoodVal_some (v : S104) : Ev (fun k => spec_l1GoodVal.f k v.f0 v.f1 v.f2) (goodValueB v) := by
  rw [goodValueB_def]
  refine Ev.congr (fun k => by unfold spec_l1GoodVal.f; exact rfl) ?_
  refine Ev.ite (fun c0 => ?_) (fun c0 => ?_)
  · rw [if_pos c0]
    refine Ev.ite (fun c1 => ?_) (fun c1 => ?_)
    · exact Ev.as (Ev.now _) ((toList_nil_iff _).1 c1).symm
    · rw [toList_nil_iff, Bool.not_eq_true] at c1
      rw [c1]
      exact Ev.ifF (by omega) (Ev.now _)
  · rw [if_neg c0]
    refine Ev.ite (fun c1 => ?_) (fun c1 => ?_)
    · rw [if_pos c1]
      refine Ev.ite (fun c2 => ?_) (fun c2 => ?_)
      · rw [if_pos c2]
        exact Ev.bind (l1GoodSym_some _) (Ev.now _)
      · rw [if_neg c2]
        exact Ev.now _
    · rw [if_neg c1]
      exact Ev.now _
end Go.Proofs.Ytoncacdehhmpaaa.Pure
namespace Go.Proofs.Ytoncacdehhmpaaa.Pure
open Go.RowKit Go.Proofs.Ytoncacdehhmpaaa.P Go.Proofs.YtoncacdehhmpaaaW.PrintWords Go.Proofs.YtoncacdehhmpaaaW.PrintLast Go.Proofs.YtoncacdehhmpaaaX
set_option linter.unusedVariables false
set_option linter.unusedSimpArgs false
theorem strOfNums_one (c : Int) : (strOfNums [c]).size = 1 := rfl
theorem markText_loop : ∀ (n : Nat) (x : Int) (s : ByteArray), 0 ≤ x → x ≤ 9223372036854775807 → x < 10 ^ n → s.size + n < 1000 → ∃ r, laws_markText.l0 (n + 1) x s = some r
  | 0, x, s, h0, _, h1, hs => by
    simp only [laws_markText.l0]
    rw [if_neg (by omega), if_pos (by omega)]
    exact ⟨_, rfl⟩
  | n + 1, x, s, h0, h2, h1, hs => by
    rw [Int.pow_succ] at h1
    unfold laws_markText.l0
    by_cases c : x > 0
    · rw [if_pos c]
      have hd : wrap64 (Int.tdiv x 10) = x / 10 := by
        rw [Int.tdiv_eq_ediv_of_nonneg h0]
        unfold wrap64
        omega
      rw [hd]
      simp only [Option.bind_some]
      rw [if_pos (by rw [strOfNums_one]; omega)]
      refine markText_loop n (x / 10) _ (by omega) (by omega) ?_ ?_
      · exact Int.ediv_lt_of_lt_mul (by omega) h1
      · rw [ByteArray.size_append, strOfNums_one]
        omega
    · rw [if_neg c, if_pos (by omega)]
      exact ⟨_, rfl⟩
def mtxt (a : Int) : ByteArray := (laws_markText.f 20 a).getD ⟨#[]⟩
theorem mark_text (a : Int) (h0 : 0 ≤ a) (h1 : a ≤ 9223372036854775807) : Ev (fun k => laws_markText.f k a) (mtxt a) := by
  have : ∃ r, laws_markText.f 20 a = some r := by
    unfold laws_markText.f
    split
    · exact ⟨_, rfl⟩
    · exact markText_loop 19 a _ h0 h1 (by omega) (by decide)
  obtain ⟨r, hr⟩ := this
  have e : mtxt a = r := by unfold mtxt; rw [hr]; rfl
  rw [e]
  exact Ev.of (fun k => laws_markText.mono a k) hr
end Go.Proofs.Ytoncacdehhmpaaa.Pure
namespace Go.Proofs.Ytoncacdehhmpaaa.Pure
open Go.RowKit Go.Proofs.Ytoncacdehhmpaaa.P Go.Proofs.YtoncacdehhmpaaaW.PrintWords Go.Proofs.YtoncacdehhmpaaaW.PrintLast Go.Proofs.YtoncacdehhmpaaaX
set_option linter.unusedVariables false
set_option linter.unusedSimpArgs false
theorem l3Holds_some (op : Int) (a b : S104) : Ev (fun k => spec_l3Holds.f k op a.f0 a.f1 a.f2 b.f0 b.f1 b.f2) (cmpB op a b) := by
  refine ⟨2, fun k hk => ?_⟩
  obtain ⟨m, rfl⟩ : ∃ m, k = m + 2 := ⟨k - 2, by omega⟩
  rw [← cmpB_some]
  unfold spec_l3Holds.f impl_compare.f
  simp only [spec_l3Holds.j0, impl_compare.j0]
theorem specAlphaPass_loop (tests : List S106) (tag : Int) (fcls : ByteArray) (slots : List S104) (hm : tests.length ≤ 1048576) :
    ∀ i, i ≤ tests.length → Ev (fun k => spec_AlphaPass.l0 k tests (tests.length : Int) (i : Int) tag fcls slots) (!((tests.drop i).any (alphaBad slots))) := by
  refine up_ind ?_ ?_
  · rw [List.drop_length]
    refine ⟨1, fun k hk => ?_⟩
    obtain ⟨m, rfl⟩ : ∃ m, k = m + 1 := ⟨k - 1, by omega⟩
    simp only [spec_AlphaPass.l0]
    rw [if_neg (by omega)]
    rfl
  · intro i hi ih
    have hrd : rd_T106 tests (i : Int) = tests.getD i z106 := by simp [rd_T106]
    rw [drop_getD z106 hi, List.any_cons]
    generalize tests.getD i z106 = t at hrd
    obtain ⟨K, hK⟩ := ih
    by_cases b1 : t.f0 < 0
    · rw [show alphaBad slots t = true by unfold alphaBad; rw [if_pos b1]]
      refine ⟨2, fun k hk => ?_⟩
      obtain ⟨m, rfl⟩ : ∃ m, k = m + 2 := ⟨k - 2, by omega⟩
      simp only [spec_AlphaPass.l0, hrd, spec_AlphaPass.j2]
      rw [if_pos (by omega), if_pos (by omega), if_pos (by omega), if_pos b1]
      rfl
    by_cases b2 : t.f0 ≥ (slots.length : Int)
    · rw [show alphaBad slots t = true by unfold alphaBad; rw [if_neg b1, if_pos b2]]
      refine ⟨2, fun k hk => ?_⟩
      obtain ⟨m, rfl⟩ : ∃ m, k = m + 2 := ⟨k - 2, by omega⟩
      simp only [spec_AlphaPass.l0, hrd, spec_AlphaPass.j2]
      rw [if_pos (by omega), if_pos (by omega), if_pos (by omega), if_neg b1, if_pos b2]
      rfl
    by_cases b3 : t.f2 < -1
    · rw [show alphaBad slots t = true by unfold alphaBad; rw [if_neg b1, if_neg b2, if_pos b3]]
      refine ⟨2, fun k hk => ?_⟩
      obtain ⟨m, rfl⟩ : ∃ m, k = m + 2 := ⟨k - 2, by omega⟩
      simp only [spec_AlphaPass.l0, hrd, spec_AlphaPass.j2]
      rw [if_pos (by omega), if_pos (by omega), if_pos (by omega), if_neg b1, if_neg b2, if_pos b3]
      rfl
    by_cases b4 : t.f2 ≥ (slots.length : Int)
    · rw [show alphaBad slots t = true by unfold alphaBad; rw [if_neg b1, if_neg b2, if_neg b3, if_pos b4]]
      refine ⟨2, fun k hk => ?_⟩
      obtain ⟨m, rfl⟩ : ∃ m, k = m + 2 := ⟨k - 2, by omega⟩
      simp only [spec_AlphaPass.l0, hrd, spec_AlphaPass.j2]
      rw [if_pos (by omega), if_pos (by omega), if_pos (by omega), if_neg b1, if_neg b2, if_neg b3, if_pos (decide_eq_true b4)]
      rfl
    have hb : alphaBad slots t = !(cmpB t.f1 (rd_T104 slots t.f0) (if t.f2 ≥ 0 then rd_T104 slots t.f2 else t.f3)) := by
      unfold alphaBad; rw [if_neg b1, if_neg b2, if_neg b3, if_neg b4]
    obtain ⟨K2, h2⟩ := l3Holds_some t.f1 (rd_T104 slots t.f0) (if t.f2 ≥ 0 then rd_T104 slots t.f2 else t.f3)
    refine ⟨K + K2 + 2, fun k hk => ?_⟩
    obtain ⟨m, rfl⟩ : ∃ m, k = m + 2 := ⟨k - 2, by omega⟩
    have h2 := h2 m (by omega)
    have hK := hK m (by omega)
    dsimp only at h2 hK
    have b4' : ¬ (decide (t.f2 ≥ (slots.length : Int)) = true) := by simpa using b4
    simp only [spec_AlphaPass.l0, hrd, spec_AlphaPass.j2]
    rw [if_pos (by omega), if_pos (by omega), if_pos (by omega), if_neg b1, if_neg b2, if_neg b3, if_neg b4', hb]
    by_cases b5 : t.f2 ≥ 0
    · rw [if_pos b5] at h2
      rw [if_pos b5, if_pos (by omega), if_pos (by omega), if_pos (by omega), if_pos (by omega), h2, if_pos b5, wrap_succ hi (by omega)]
      simp only [Option.bind_some]
      cases hc : cmpB t.f1 (rd_T104 slots t.f0) (rd_T104 slots t.f2) with
      | true => rw [if_pos rfl, hK]; rfl
      | false => rfl
    · rw [if_neg b5] at h2
      rw [if_neg b5, if_pos (by omega), if_pos (by omega), h2, if_neg b5, wrap_succ hi (by omega)]
      simp only [Option.bind_some]
      cases hc : cmpB t.f1 (rd_T104 slots t.f0) t.f3 with
      | true => rw [if_pos rfl, hK]; rfl
      | false => rfl
theorem specAlphaPass_some (cls : ByteArray) (ar : Int) (tests : List S106) (tag : Int) (fcls : ByteArray) (slots : List S104) (hm : tests.length ≤ 1048576) :
    Ev (fun k => spec_AlphaPass.f k cls ar tests tag fcls slots) (alphaPassB cls ar tests fcls slots) := by
  obtain ⟨K, hK⟩ := specAlphaPass_loop tests tag fcls slots hm 0 (Nat.zero_le _)
  refine ⟨K + 1, fun k hk => ?_⟩
  obtain ⟨m, rfl⟩ : ∃ m, k = m + 1 := ⟨k - 1, by omega⟩
  have hK := hK m (by omega)
  dsimp only at hK
  rw [List.drop_zero] at hK
  dsimp only
  unfold spec_AlphaPass.f alphaPassB
  by_cases h1 : fcls.toList = cls.toList
  · rw [if_pos h1, if_pos h1]
    simp only [spec_AlphaPass.j0]
    by_cases h2 : (slots.length : Int) = ar
    · rw [if_pos h2, if_neg (by simp [h2])]
      exact hK
    · rw [if_neg h2, if_pos (by simpa using h2)]
  · rw [if_neg h1, if_neg h1]
    simp only [spec_AlphaPass.j0]
    rfl
end Go.Proofs.Ytoncacdehhmpaaa.Pure
namespace Go.Proofs.Ytoncacdehhmpaaa.Pure
open Go.RowKit Go.Proofs.Ytoncacdehhmpaaa.P Go.Proofs.YtoncacdehhmpaaaW.PrintWords Go.Proofs.YtoncacdehhmpaaaW.PrintLast Go.Proofs.YtoncacdehhmpaaaX
set_option linter.unusedVariables false
set_option linter.unusedSimpArgs false
theorem l1GoodSlots_some (vs : List S104) : Ev (fun k => spec_l1GoodSlots.f k vs) (goodSlotsB vs) := by
  refine Ev.congr (fun k => by unfold spec_l1GoodSlots.f; exact rfl) ?_
  unfold goodSlotsB
  by_cases h : vs.length ≤ 6
  · rw [decide_eq_true h, Bool.true_and]
    refine Ev.ifF (by omega) ?_
    have key : ∀ i, i ≤ vs.length → Ev (fun k => spec_l1GoodSlots.l0 k vs (vs.length : Int) (i : Int)) ((vs.drop i).all goodValueB) := by
      refine up_ind ?_ ?_
      · rw [List.drop_length]
        refine Ev.step (fun k => by simp only [spec_l1GoodSlots.l0]; exact rfl) ?_
        exact Ev.ifF (by omega) (Ev.now _)
      · intro i hi ih
        rw [drop_getD z104 hi, List.all_cons]
        have hrd : rd_T104 vs (i : Int) = vs.getD i z104 := by simp [rd_T104]
        refine Ev.step (fun k => by simp only [spec_l1GoodSlots.l0, wrap_succ hi (show vs.length ≤ 9223372036854775807 by omega), hrd]; exact rfl) ?_
        refine Ev.ifT (by omega) (Ev.ifT (by omega) (Ev.ifT (by omega) (Ev.bind (l1GoodVal_some (vs.getD i z104)) ?_)))
        refine Ev.ite (fun c => ?_) (fun c => ?_)
        · rw [c, Bool.true_and]; exact ih
        · rw [Bool.not_eq_true] at c
          rw [c]; exact Ev.now _
    have := key 0 (Nat.zero_le _)
    rw [List.drop_zero] at this
    exact this
  · rw [decide_eq_false h]
    exact Ev.ifT (by omega) (Ev.now _)
def factsFrom : Int → List S38 → Bool
  | _, [] => true
  | last, f :: fs => if f.f0 ≤ last then false else if f.f0 > 1000000 then false else goodSymB f.f1 && (goodSlotsB f.f2 && factsFrom f.f0 fs)
def goodFactsB (l : List S38) : Bool := decide (l.length ≤ 40) && factsFrom 0 l
theorem implFacts_loop (l : List S38) (hl : l.length ≤ 9223372036854775807) : ∀ i, i ≤ l.length → ∀ last : Int, Ev (fun k => impl_goodFacts.l0 k l last l (l.length : Int) (i : Int)) (factsFrom last (l.drop i) && decide (l.length ≤ 40)) := by
  refine up_ind ?_ ?_
  · intro last
    rw [List.drop_length]
    refine Ev.step (fun k => by simp only [impl_goodFacts.l0]; exact rfl) ?_
    refine Ev.ifF (by omega) (Ev.as (Ev.now _) ?_)
    rw [factsFrom, Bool.true_and]
    congr 1
    rw [eq_iff_iff]
    omega
  · intro i hi ih last
    rw [drop_getD z38 hi, factsFrom]
    have hrd : rd_T38 l (i : Int) = l.getD i z38 := by simp [rd_T38]
    generalize l.getD i z38 = f at hrd
    refine Ev.step (fun k => by simp only [impl_goodFacts.l0, wrap_succ hi hl, hrd]; exact rfl) ?_
    refine Ev.ifT (by omega) (Ev.ifT (by omega) (Ev.ifT (by omega) ?_))
    refine Ev.ite (fun c => ?_) (fun c => ?_)
    · rw [if_pos c]; exact Ev.now _
    rw [if_neg c]
    refine Ev.ite (fun c => ?_) (fun c => ?_)
    · rw [if_pos c]; exact Ev.now _
    rw [if_neg c]
    refine Ev.bindE (show impl_goodSym.f f.f1 = some (goodSymB f.f1) from rfl) ?_
    refine Ev.ite (fun c => ?_) (fun c => ?_)
    · rw [c, Bool.true_and]
      refine Ev.bindE (show impl_goodSlots.f f.f2 = some (goodSlotsB f.f2) from rfl) ?_
      refine Ev.ite (fun c => ?_) (fun c => ?_)
      · rw [c, Bool.true_and]; exact ih _
      · rw [Bool.not_eq_true] at c
        rw [c]; exact Ev.now _
    · rw [Bool.not_eq_true] at c
      rw [c]; exact Ev.now _
theorem implGoodFacts_some (l : List S38) (hl : l.length ≤ 9223372036854775807) : Ev (fun k => impl_goodFacts.f k l) (goodFactsB l) := by
  refine Ev.congr (fun k => by unfold impl_goodFacts.f; exact rfl) ?_
  have := implFacts_loop l hl 0 (Nat.zero_le _) 0
  rw [List.drop_zero, Bool.and_comm] at this
  exact this
theorem specGoodFacts_some (l : List S38) : Ev (fun k => spec_l1GoodFacts.f k l) (goodFactsB l) := by
  refine Ev.congr (fun k => by unfold spec_l1GoodFacts.f; exact rfl) ?_
  unfold goodFactsB
  by_cases h : l.length ≤ 40
  · rw [decide_eq_true h, Bool.true_and]
    refine Ev.ifF (by omega) ?_
    have hl : l.length ≤ 9223372036854775807 := by omega
    have key : ∀ i, i ≤ l.length → ∀ last : Int, Ev (fun k => spec_l1GoodFacts.l0 k last l (l.length : Int) (i : Int)) (factsFrom last (l.drop i)) := by
      refine up_ind ?_ ?_
      · intro last
        rw [List.drop_length]
        refine Ev.step (fun k => by simp only [spec_l1GoodFacts.l0]; exact rfl) ?_
        exact Ev.ifF (by omega) (Ev.now _)
      · intro i hi ih last
        rw [drop_getD z38 hi, factsFrom]
        have hrd : rd_T38 l (i : Int) = l.getD i z38 := by simp [rd_T38]
        generalize l.getD i z38 = f at hrd
        refine Ev.step (fun k => by simp only [spec_l1GoodFacts.l0, wrap_succ hi hl, hrd]; exact rfl) ?_
        refine Ev.ifT (by omega) (Ev.ifT (by omega) (Ev.ifT (by omega) ?_))
        refine Ev.ite (fun c => ?_) (fun c => ?_)
        · rw [if_pos c]; exact Ev.now _
        rw [if_neg c]
        refine Ev.ite (fun c => ?_) (fun c => ?_)
        · rw [if_pos c]; exact Ev.now _
        rw [if_neg c]
        refine Ev.bind (l1GoodSym_some f.f1) ?_
        refine Ev.ite (fun c => ?_) (fun c => ?_)
        · rw [c, Bool.true_and]
          refine Ev.bind (l1GoodSlots_some f.f2) ?_
          refine Ev.ite (fun c => ?_) (fun c => ?_)
          · rw [c, Bool.true_and]; exact ih _
          · rw [Bool.not_eq_true] at c
            rw [c]; exact Ev.now _
        · rw [Bool.not_eq_true] at c
          rw [c]; exact Ev.now _
    have := key 0 (Nat.zero_le _) 0
    rw [List.drop_zero] at this
    exact this
  · rw [decide_eq_false h]
    exact Ev.ifT (by omega) (Ev.now _)
end Go.Proofs.Ytoncacdehhmpaaa.Pure
namespace Go.Proofs.Ytoncacdehhmpaaa.Pure
open Go.RowKit Go.Proofs.Ytoncacdehhmpaaa.P Go.Proofs.YtoncacdehhmpaaaW.PrintWords Go.Proofs.YtoncacdehhmpaaaW.PrintLast Go.Proofs.YtoncacdehhmpaaaX
set_option linter.unusedVariables false
set_option linter.unusedSimpArgs false
def mkI : Int → Int → Int := fun a _ => a
def mnI : Int → Nat := fun _ => 1
theorem cntI (xs : List Int) : cntL mnI xs = xs.length := by
  have := cntL_const 1 xs
  rw [Nat.one_mul] at this
  exact this
theorem markInts (xs : List Int) (a : Int) (hl : xs.length ≤ 9223372036854775807) (h0 : 0 ≤ a) (h1 : a + cntL mnI xs ≤ 4611686018427387904) : Ev (fun k => laws_markIntS.f k xs a) (a + cntL mnI xs, mkL mkI mnI a xs) := by
  refine mark_loop mkI mnI (fun k ys a i => laws_markIntS.l0 k ys a i) ?_ ?_ xs a hl h0 h1
  · intro d x t a r hl h0 h1 ih
    unfold mnI at h1 ih
    have w0 : wrap64 (a + 1) = a + ((1 : Nat) : Int) := by unfold wrap64; omega
    have wi : wrap64 ((d.length : Int) + 1) = ((d.length + 1 : Nat) : Int) := by unfold wrap64; rw [len_mid] at hl; omega
    refine Ev.step (fun k => by simp only [laws_markIntS.l0, w0, wi, Int.toNat_natCast, set_mid]; exact rfl) ?_
    exact Ev.ifT (by rw [len_mid]; omega) (Ev.ifT (by omega) ih)
  · intro d a
    refine Ev.step (fun k => by simp only [laws_markIntS.l0]; exact rfl) ?_
    exact Ev.ifF (by omega) (Ev.now _)
theorem heldInts (xs : List Int) (a : Int) (hl : xs.length ≤ 9223372036854775807) (h0 : 0 ≤ a) (h1 : a + cntL mnI xs ≤ 4611686018427387904) : Ev (fun k => laws_heldIntS.f k (mkL mkI mnI a xs) a) (a + cntL mnI xs) := by
  refine held_loop mkI mnI (fun k ys a i => laws_heldIntS.l0 k ys a i) ?_ ?_ xs a hl h0 h1
  · intro d x t a r hl h0 h1 ih
    unfold mnI at h1 ih
    have w0 : wrap64 (a + 1) = a + ((1 : Nat) : Int) := by unfold wrap64; omega
    have wi : wrap64 ((d.length : Int) + 1) = ((d.length + 1 : Nat) : Int) := by unfold wrap64; rw [len_mid] at hl; omega
    refine Ev.step (fun k => by simp only [laws_heldIntS.l0, w0, wi, rd, Int.toNat_natCast, rd_mid]; exact rfl) ?_
    refine Ev.ifT (by rw [len_mid]; omega) (Ev.ifT (by omega) (Ev.ifT (by rfl) ih))
  · intro d a
    refine Ev.step (fun k => by simp only [laws_heldIntS.l0]; exact rfl) ?_
    exact Ev.ifF (by omega) (Ev.now _)
def mkII : Int → List Int → List Int := mkL mkI mnI
def mnII : List Int → Nat := cntL mnI
theorem markIntss : ∀ (xs : List (List Int)) (a : Int), (∀ x, x ∈ xs → x.length ≤ 9223372036854775807) → 0 ≤ a → a + cntL mnII xs ≤ 4611686018427387904 → Ev (fun k => laws_markIntSS.f k xs a) (a + cntL mnII xs, mkL mkII mnII a xs)
  | [], a, _, h0, h1 => by
    refine Ev.as (Ev.now (a, [])) ?_
    simp [cntL, mkL]
  | x :: xs, a, hl, h0, h1 => by
    rw [cntL_cons] at h1 ⊢
    have hx := markInts x a (hl x List.mem_cons_self) h0 (by unfold mnII at h1; omega)
    have ih := markIntss xs (a + cntL mnI x) (fun y hy => hl y (List.mem_cons_of_mem _ hy)) (by omega) (by unfold mnII at h1 ⊢; omega)
    refine Ev.bind (g := fun k => laws_markIntS.f k x a) hx ?_
    refine Ev.bind (g := fun k => laws_markIntSS.r k xs (a + cntL mnI x)) ih ?_
    refine Ev.as (Ev.now _) ?_
    rw [mkL]
    unfold mnII mkII
    dsimp only
    rw [show a + (cntL mnI x : Int) + (cntL (cntL mnI) xs : Int) = a + ((cntL mnI x + cntL (cntL mnI) xs : Nat) : Int) by omega]
theorem heldIntss (xs : List (List Int)) (a : Int) (hl : xs.length ≤ 9223372036854775807) (he : ∀ x, x ∈ xs → x.length ≤ 9223372036854775807) (h0 : 0 ≤ a) (h1 : a + cntL mnII xs ≤ 4611686018427387904) : Ev (fun k => laws_heldIntSS.f k (mkL mkII mnII a xs) a) (a + cntL mnII xs) := by
  refine held_loop mkII mnII (fun k ys a i => laws_heldIntSS.l0 k ys a i) ?_ ?_ xs a hl h0 h1
  · intro d x t a r hl h0 h1 ih
    have wi : wrap64 ((d.length : Int) + 1) = ((d.length + 1 : Nat) : Int) := by unfold wrap64; rw [len_mid] at hl; omega
    have hx : Ev (fun k => laws_heldIntS.f k (mkII a x) a) (a + mnII x) := heldInts x a (by unfold mnII at h1; rw [cntI] at h1; omega) h0 h1
    refine Ev.step (fun k => by simp only [laws_heldIntSS.l0, wi, rd_L18, Int.toNat_natCast, rd_mid]; exact rfl) ?_
    refine Ev.ifT (by rw [len_mid]; omega) (Ev.ifT (by omega) (Ev.bind hx (Ev.ifF (by omega) ih)))
  · intro d a
    refine Ev.step (fun k => by simp only [laws_heldIntSS.l0]; exact rfl) ?_
    exact Ev.ifF (by omega) (Ev.now _)
end Go.Proofs.Ytoncacdehhmpaaa.Pure
