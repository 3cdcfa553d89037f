/- The row of the law FnExactCheckRules: for every input the call returns true, and each argument reads behind it as it read before; no condition of ours. -/
import Derived.Laws.RangeString
import Derived.Lib.OthersKept
import Derived.Lib.DecodeN
import Derived.Lib.TrimU
import Derived.Shelf.Small.Strs
import Derived.Shelf.Strings.Search1
import Derived.Test.YtejjlkbbnhpbdaaProg
import Derived.IntWalk
import Derived.OneCell
import Derived.RangeFuncBox
import Derived.BigQuiet
import Derived.Deep.QuietTactic
import Derived.Maps.OwnSet
import Derived.Maps.Views
import Derived.WalkKit
import Derived.Maps.RangeWalk
import Derived.Carry
import Derived.Test.YtejjlkbbnhpbdaaQCk8
namespace Go.Proofs.Ytejjlkbbnhpbdaa.P
open Go.Proofs.YtejjlkbbnhpbdaaX
open Go.RowKit Go.Proofs.YtejjlkbbnhpbdaaW.PrintWords Go.Proofs.YtejjlkbbnhpbdaaW.PrintLast Go.Proofs.YtejjlkbbnhpbdaaW.PrintMore
attribute [local go_sem] max2_int min2_int max_two min_two max_three min_three max_four min_four
set_option linter.unusedVariables false
set_option linter.unusedSimpArgs false
def laws_toActionS.l0 : Nat → List (S95) → List (S46) → Int → Option ((List (S46)))
 | 0, _, _, _ => none
 | k + 1, x0, x3, x4 => if x4 < (x0.length : Int) then (if 0 ≤ x4 then ((laws_toAction.f k ((rd_T95 x0 x4).f0) ((rd_T95 x0 x4).f1) ((rd_T95 x0 x4).f2) ((rd_T95 x0 x4).f3)).bind fun bt277 => (if x4 < (x3.length : Int) then (laws_toActionS.l0 k x0 (x3.set (x4 : Int).toNat (⟨bt277.1, bt277.2.1, bt277.2.2.1, bt277.2.2.2⟩ : S46)) (wrap64 (x4 + 1))) else (none))) else (none)) else (some x3)
def laws_toActionS.f (k : Nat) (l0 : List (S95)) : Option ((List (S46))) := if 0 ≤ (l0.length : Int) then (if ((l0.length : Int) : Int).toNat ≤ 5026338869833 then (laws_toActionS.l0 k l0 (List.replicate ((l0.length : Int) : Int).toNat z46) 0) else (none)) else (none)
theorem laws_toActionS.mono_l : ∀ k, (∀ y0 y1 y2, LeO (laws_toActionS.l0 k y0 y1 y2) (laws_toActionS.l0 (k + 1) y0 y1 y2))
 | 0 => fun _ _ _ r h => by simp [laws_toActionS.l0] at h
 | k + 1 => by
  have ih0 := laws_toActionS.mono_l k
  ·intro y0 y1 y2; unfold laws_toActionS.l0
   repeat' with_reducible first | apply ih0 | apply laws_toAction.mono | apply LeO.refl | apply LeO.none | refine LeO.ite ?_ ?_ | refine LeO.bind ?_ (fun _ => ?_)
theorem laws_toActionS.mono : ∀ a0 k, LeO (laws_toActionS.f k a0) (laws_toActionS.f (k + 1) a0) := by
 intro a0 k; have ih0 := laws_toActionS.mono_l k; unfold laws_toActionS.f
 repeat' with_reducible first | apply ih0 | apply laws_toAction.mono | apply LeO.refl | apply LeO.none | refine LeO.ite ?_ ?_ | refine LeO.bind ?_ (fun _ => ?_)
set_option maxHeartbeats 8000000 in
set_option maxRecDepth 100000 in
theorem laws_toActionS.calls (k : Nat) (A0 : Option Addr) (c0 : Nat) (l0 : List (S95)) (r : List (S46)) (w : World) (hr0 : Kd.C k95 w A0 l0.length l0) (hc0 : l0.length ≤ c0) (h : laws_toActionS.f k l0 = some r) :
  Calls Try.prog 31 #[.slice A0 l0.length c0] w fun e w' => ∃ v0_ : Value, e = .returned (v0_) ∧ Kd.S k46 46 w' w.heap.size (fun _ => True) v0_ r ∧ Below w.heap.size w w' := by
 have hu95 := Try.underlying95; have hu46 := Try.underlying46; have HR0 := a_ hr0; have HC0 := a_ hc0; clear hr0 hc0; have HB := a_ (Below.refl w.heap.size w); have H : (if 0 ≤ (l0.length : Int) then (if ((l0.length : Int) : Int).toNat ≤ 5026338869833 then (laws_toActionS.l0 k l0 (List.replicate ((l0.length : Int) : Int).toNat z46) 0) else (none)) else (none)) = some r := h
 clear h; by_cases c2 : 0 ≤ (l0.length : Int)
 case neg => rw [if_neg c2] at H; cases H
 rw [if_pos c2] at H; have c2b0 := eq_true c2; have c2b1 := decide_eq_true c2; clear c2; by_cases c3 : ((l0.length : Int) : Int).toNat ≤ 5026338869833
 case neg => rw [if_neg c3] at H; cases H
 rw [if_pos c3] at H; have c3b0 := eq_true c3; have c3b1 := decide_eq_true c3; clear c3; obtain ⟨y273, hy273⟩ : ∃ y_ : List (S46), y_ = (List.replicate ((l0.length : Int) : Int).toNat z46) := ⟨_, rfl⟩; rw [← hy273] at H; have Ny273 := a_ hy273; clear hy273; have H' := a_ H; clear H; go_enter Try.func31, Try.ntmps31; go_wp2_with (first | ((with_reducible refine gate_dst (N := 7) rfl ?_); refine Kd.S_make k46 _ 46 rfl (N := 7) rfl 40 _ _ rfl (l0.length : Int) rfl rfl Try.underlying40 (.agg #[(.int .i64 0), (.int .i64 0), (.string ⟨#[]⟩), (.slice none 0 0)]) 56 info46 rfl (by decide) (by omega) z46 (ok := fun _ => True) (okp := fun _ => True) (k46_mkM _ _ _ z46 (Kd.R_nil _ _ _ _ _)) (fun _ hk => hk) trivial (md_) (Nat.le_trans (Nat.mul_le_mul_right _ (md_ : (l0.length : Int).toNat ≤ 5026338869833)) (by omega)) (Below.refl _ _) (Nat.le_refl _) ?_; intro v274 w4 ho5 hb hg_ hnew_; clear hg_ hnew_; (first | rw [← Ny273.out] at ho5 | (simp only [Int.reduceToNat] at ho5; rw [← Ny273.out] at ho5)); have HO275 := a_ (Kd.S_lower ho5 (below_size (mb_ HB))); replace HB := ms_ HB hb; clear hb ho5)); go_loopg [4] k (fun kq v4 w' => ∃ (x3_1 : List (S46)) (x4_1 : Int), v4 = .int .i64 x4_1 ∧ Aside0 (laws_toActionS.l0 kq l0 x3_1 x4_1 = some r) ∧ Aside0 (kq ≤ k) ∧ Aside0 (Kd.S k46 46 w' w.heap.size (fun _ => True) v274 x3_1) ∧ Aside0 (Below w.heap.size w w'))
 case atStart => exact ⟨(y273), (0), mq_, H', ⟨Nat.le_refl _⟩, ⟨by (with_reducible repeat (first | apply Kd.S_alloc | apply Kd.S_drewN | apply Kd.S_drew)); exact HO275.out⟩, ⟨mb_ HB⟩⟩
 clear H'; (try clear c2b0); (try clear c2b1); (try clear c3b0); (try clear c3b1); obtain ⟨x3_1, x4_1, rfl, HA, HK1, HO_3, HB⟩ := hrel; obtain _ | k1 := gk
 ·exact absurd HA.out (by simp [laws_toActionS.l0])
 have H := HA.out; clear HA; simp only [laws_toActionS.l0] at H; by_cases c6 : x4_1 < (l0.length : Int)
 ·rw [if_pos c6] at H; have c6b0 := decide_eq_true c6; clear c6; by_cases c7 : 0 ≤ x4_1
  case neg => rw [if_neg c7] at H; cases H
  rw [if_pos c7] at H; have c7b0 := decide_eq_true c7; clear c7; replace H := Option.bind_eq_some_iff.mp H; obtain ⟨⟨t277, t278, t279, t280⟩, A80, H⟩ := H; have A8 := a_ A80; clear A80; by_cases c9 : x4_1 < (x3_1.length : Int)
  case neg => rw [if_neg c9] at H; cases H
  rw [if_pos c9] at H; have c9b0 := decide_eq_true c9; clear c9; obtain ⟨y283, hy283⟩ : ∃ y_ : List (S46), y_ = (x3_1.set (x4_1 : Int).toNat (⟨t277, t278, t279, t280⟩ : S46)) := ⟨_, rfl⟩; rw [← hy283] at H; have Ny283 := a_ hy283; clear hy283; have H' := a_ H; clear H; have p276 : 0 ≤ (x4_1 : Int) := md_
  have q276 : x4_1 < (l0.length : Int) := md_
  obtain ⟨ad276, A276_3, c276_3, e276, hx276_0, hx276_1, hx276_2, hx276_3, hl276_3, hi276_3⟩ := at_T95 HR0.out x4_1 p276 q276; cases e276; replace hx276_0 := mx_ HB hx276_0; replace hx276_1 := mx_ HB hx276_1; replace hx276_2 := mx_ HB hx276_2; replace hx276_3 := mx_ HB hx276_3; have HR276_3 := a_ hi276_3; have HC276_3 := a_ hl276_3; clear hi276_3 hl276_3; replace p276 := eq_true p276; replace q276 := eq_true q276; go_wp2_with (first | ((with_reducible refine gate_callee (f := 50) rfl ?_); refine goesL_ (some 20) rfl rfl Try.func50 (by kernel_rfl) rfl #[.agg #[.int .i64 ((rd_T95 l0 x4_1).f0), .int .i64 ((rd_T95 l0 x4_1).f1), .string ((rd_T95 l0 x4_1).f2), .slice A276_3 ((rd_T95 l0 x4_1).f3).length c276_3]] rfl mw_ ?_; (with_reducible refine (laws_toAction.calls k1 ((rd_T95 l0 x4_1).f0) ((rd_T95 l0 x4_1).f1) ((rd_T95 l0 x4_1).f2) _ _ ((rd_T95 l0 x4_1).f3) t277 t278 t279 t280 _ ?side1 ?side2 A8.out).mono ?_); (case side1 => repeat (first | exact (Kd.C_below HR276_3.out HB.out) | (with_reducible refine Kd.C_alloc ?_ _) | (with_reducible refine Kd.C_drewN ?_ _) | (with_reducible refine Kd.C_drew ?_))); (case side2 => exact HC276_3.out); rintro e w11 ⟨v281, rfl, ho0, hb⟩; refine ⟨_, rfl, ?_⟩; have HO282 := a_ (Kd.R_lower ho0 (below_size (mb_ HB))); replace HO_3 := a_ (Kd.S_elder' (by (with_reducible repeat (first | apply Kd.S_alloc | apply Kd.S_drewN | apply Kd.S_drew)); exact HO_3.out) (Kd.R_base ho0) hb); replace HB := ms_ HB hb; (try clear hb); (try clear hb2); (try clear hk); (try clear hi); (try clear ho0); have p10 : 0 ≤ (x4_1 : Int) := md_; have q10 : (x4_1 : Int) < ((x3_1.length : Int) : Int) := md_; obtain ⟨go10, co10, eo10, gb10, gl10, cl10, HG10⟩ := Kd.S_form HO_3.out (by omega); (first | cases eo10 | (injection eo10 with ea_ en_ ec_; (first | subst ea_ | (injection ea_ with ea_; subst ea_)); subst ec_; clear en_)); have GB10 := a_ gb10; have GG10 := a_ HG10; clear gb10 gl10 HG10; obtain ⟨_, ce10, hcl10, hM10, hcc10, hfr10, _, _⟩ := Kd.S_elem HO_3.out z46 (x4_1 : Int) p10 q10; obtain ⟨ve10_3, rfl, ge10_3⟩ := k46_openM hM10; have hx10_0 : w11.cell? ⟨go10, (x4_1 : Int).toNat * 4, none⟩ = some (.int .i64 ((rd_T46 x3_1 x4_1).f0)) := hcc10 0 _ rfl; have hx10_1 : w11.cell? ⟨go10, (x4_1 : Int).toNat * 4 + 1, none⟩ = some (.int .i64 ((rd_T46 x3_1 x4_1).f1)) := hcc10 1 _ rfl; have hx10_2 : w11.cell? ⟨go10, (x4_1 : Int).toNat * 4 + 2, none⟩ = some (.string ((rd_T46 x3_1 x4_1).f2)) := hcc10 2 _ rfl; have hx10_3 : w11.cell? ⟨go10, (x4_1 : Int).toNat * 4 + 3, none⟩ = some (ve10_3) := hcc10 3 _ rfl; have hf10_0 : w11.frozen? ⟨go10, (x4_1 : Int).toNat * 4, none⟩ = false := hfr10 0; have hf10_1 : w11.frozen? ⟨go10, (x4_1 : Int).toNat * 4 + 1, none⟩ = false := hfr10 1; have hf10_2 : w11.frozen? ⟨go10, (x4_1 : Int).toNat * 4 + 2, none⟩ = false := hfr10 2; have hf10_3 : w11.frozen? ⟨go10, (x4_1 : Int).toNat * 4 + 3, none⟩ = false := hfr10 3; clear hcl10 hcc10 hfr10; (try clear hM10); replace p10 := eq_true p10; replace q10 := eq_true q10; have n_ := a_ (Kd.S_mono (ok' := (fun k_ => some k_ ≠ (v281 : Value).ownBlock)) HO_3.out (fun k_ hk => hk.2)); clear HO_3; have HO_3 := n_; clear n_; have HX12 := a_ (show Kd.S k46 46 w11 w.heap.size (fun k_ => ((fun _ => True)) k_ ∧ ¬ ((fun k_ => some k_ = (v281 : Value).ownBlock)) k_) (.slice (some ⟨go10, 0, none⟩) x3_1.length co10) x3_1 from (by (with_reducible repeat (first | apply Kd.S_alloc | apply Kd.S_drewN | apply Kd.S_drew)); exact Kd.S_mono HO_3.out (fun k_ hk => ⟨trivial, fun e_ => hk e_⟩))); obtain ⟨oki12, ce12, hcl12, hM12, hcc12, hfr12, hoki12, hH12⟩ := Kd.S_elem HX12.out z46 (x4_1 : Int) (md_) (by have h_ : (x4_1 : Int) < ((x3_1.length : Int) : Int) := md_; first | exact h_ | (have e_ := (Kd.S_reads' HO_3.out).1; omega) | simpa using h_); obtain ⟨ve12_3, rfl, ge12_3⟩ := k46_openM hM12; have HP12 := Kd.S_seg hH12 (md_) (by have h_ : (x4_1 : Int) < ((x3_1.length : Int) : Int) := md_; first | exact h_ | (have e_ := (Kd.S_reads' HO_3.out).1; omega) | simpa using h_) (seg := [.int .i64 t277, .int .i64 t278, .string t279, v281]) (j := 0) (show 4 ≤ 4 from by decide) (x' := (⟨t277, t278, t279, t280⟩ : S46)) (k46_mkM _ _ _ (⟨t277, t278, t279, t280⟩ : S46) (Kd.R_mono (Kd.R_tight rfl (Kd.R_mono (ok' := fun k_ => ((fun _ => True)) k_ ∧ k_ ≠ go10) (Kd.R_apart' (HO282.out) (Kd.S_typed HO_3.out) (by decide)) (fun k_ hk => ⟨trivial, fun e_ => (hk.2) (by rw [e_]; rfl)⟩))) (fun _ h_ => Or.inr (h_)))) (fun _ hk => hk) (fun k_ hk_ => ((Kd.R_mono (ok' := fun k_ => ((fun _ => True)) k_ ∧ k_ ≠ go10) (Kd.R_apart' (HO282.out) (Kd.S_typed HO_3.out) (by decide)) (fun k_ hk => ⟨trivial, fun e_ => (hk.2) (by rw [e_]; rfl)⟩))).1 k_ hk_.symm); have hx12_0 := hcc12 0 _ rfl; (try simp only [show (k46).sz = 4 from rfl, Nat.mul_one, Nat.add_zero] at hx12_0); have hf12_0 := hfr12 0; (try simp only [show (k46).sz = 4 from rfl, Nat.mul_one, Nat.add_zero] at hf12_0); have hx12_1 := hcc12 1 _ rfl; (try simp only [show (k46).sz = 4 from rfl, Nat.mul_one, Nat.add_zero] at hx12_1); have hf12_1 := hfr12 1; (try simp only [show (k46).sz = 4 from rfl, Nat.mul_one, Nat.add_zero] at hf12_1); have hx12_2 := hcc12 2 _ rfl; (try simp only [show (k46).sz = 4 from rfl, Nat.mul_one, Nat.add_zero] at hx12_2); have hf12_2 := hfr12 2; (try simp only [show (k46).sz = 4 from rfl, Nat.mul_one, Nat.add_zero] at hf12_2); have hx12_3 := hcc12 3 _ rfl; (try simp only [show (k46).sz = 4 from rfl, Nat.mul_one, Nat.add_zero] at hx12_3); have hf12_3 := hfr12 3; (try simp only [show (k46).sz = 4 from rfl, Nat.mul_one, Nat.add_zero] at hf12_3); clear hcl12 hcc12 hfr12 hoki12 hH12; (try clear hM12)) | ((with_reducible refine gate_store (t := 46) (p := 21) rfl ?_); refine store_event (t := 46) (p := 21) (v := ?vo_w13) (w1 := ((((w11.setCell ⟨go10, (x4_1 : Int).toNat * 4, none⟩ (.int .i64 t277)).setCell ⟨go10, (x4_1 : Int).toNat * 4 + 1, none⟩ (.int .i64 t278)).setCell ⟨go10, (x4_1 : Int).toNat * 4 + 2, none⟩ (.string t279)).setCell ⟨go10, (x4_1 : Int).toNat * 4 + 3, none⟩ (v281))) ?hg ?ho ?hn ?hr ?_; (case ho => rfl); (case hg => rfl); (case hn => rfl); (case hr => first | (go_simp; done) | (go_simp; rfl) | ((obtain ⟨As0_, cs0_, es0_⟩ := (by first | exact Kd.R_slice (Kd.S_R (Aside0.out (by with_reducible assumption : Aside0 (Kd.S _ _ _ _ _ v281 _)))) | exact Kd.R_slice (Aside0.out (by with_reducible assumption : Aside0 (Kd.R _ _ _ _ _ v281 _))) | exact Kd.R_slice (Aside0.out ‹Aside0 (Kd.R _ _ _ _ _ v281 _)›) : ∃ A_ c_, v281 = Value.slice A_ _ c_)); subst es0_; go_simp; done) | ((obtain ⟨As0_, cs0_, es0_⟩ := (by first | exact Kd.R_slice (Kd.S_R (Aside0.out (by with_reducible assumption : Aside0 (Kd.S _ _ _ _ _ v281 _)))) | exact Kd.R_slice (Aside0.out (by with_reducible assumption : Aside0 (Kd.R _ _ _ _ _ v281 _))) | exact Kd.R_slice (Aside0.out ‹Aside0 (Kd.R _ _ _ _ _ v281 _)›) : ∃ A_ c_, v281 = Value.slice A_ _ c_)); subst es0_; go_simp; rfl)); intro w13 hw; have hg : w11.grownBy w13 (some go10) := (by rw [hw]; exact HP12.2); have hp_ : Kd.S k46 46 w13 w.heap.size (fun _ => True) (.slice (some ⟨go10, 0, none⟩) x3_1.length co10) y283 := (by rw [hw, Ny283.out]; exact HP12.1); clear HP12; replace HO_3 := a_ (hp_); replace HB := a_ ((by rw [hw]; exact below_set (below_set (below_set (below_set (HB.out) GB10.out) GB10.out) GB10.out) GB10.out : Below w.heap.size w w13)); clear HO282; clear hg hw hp_))
  go_roundg k1
  case measure => have := HK1.out; omega
  case rel => exact ⟨(y283), (wrap64 (x4_1 + 1)), mq_, H', ⟨by have := HK1.out; omega⟩, ⟨by (with_reducible repeat (first | apply Kd.S_alloc | apply Kd.S_drewN | apply Kd.S_drew)); exact HO_3.out⟩, ⟨mb_ HB⟩⟩
 ·rw [if_neg c6] at H; have c6b0 := decide_eq_false c6; clear c6; obtain rfl := Option.some.inj H; go_wp2; go_ret; exact ⟨_, me_, by (with_reducible repeat (first | apply Kd.S_alloc | apply Kd.S_drewN | apply Kd.S_drew)); exact HO_3.out, mb_ HB⟩
def laws_toRule.f (k : Nat) (a0_0 : ByteArray) (a0_1 : Int) (l0_2 : List (S89)) (l0_3 : List (S93)) (l0_4 : List (S95)) : Option (ByteArray × Int × (List (S59)) × (List (S72)) × (List (S46))) := (laws_toPatternS.f k l0_2).bind fun t287 => ((laws_toExprS.f k l0_3).bind fun t290 => ((laws_toActionS.f k l0_4).bind fun t293 => (some (a0_0, a0_1, t287, t290, t293))))
theorem laws_toRule.mono : ∀ a0 a1 a2 a3 a4 k, LeO (laws_toRule.f k a0 a1 a2 a3 a4) (laws_toRule.f (k + 1) a0 a1 a2 a3 a4) := by
 intro a0 a1 a2 a3 a4 k; unfold laws_toRule.f
 repeat' with_reducible first | apply laws_toActionS.mono | apply laws_toExprS.mono | apply laws_toPatternS.mono | apply LeO.refl | apply LeO.none | refine LeO.ite ?_ ?_ | refine LeO.bind ?_ (fun _ => ?_)
set_option maxHeartbeats 8000000 in
set_option maxRecDepth 100000 in
theorem laws_toRule.calls (k : Nat) (a0_0 : ByteArray) (a0_1 : Int) (A0_2 : Option Addr) (c0_2 : Nat) (l0_2 : List (S89)) (A0_3 : Option Addr) (c0_3 : Nat) (l0_3 : List (S93)) (A0_4 : Option Addr) (c0_4 : Nat) (l0_4 : List (S95)) (r1 : ByteArray) (r2 : Int) (r3 : List (S59)) (r4 : List (S72)) (r5 : List (S46)) (w : World) (hr0_2 : Kd.C k89 w A0_2 l0_2.length l0_2) (hc0_2 : l0_2.length ≤ c0_2) (hr0_3 : Kd.C k93 w A0_3 l0_3.length l0_3) (hc0_3 : l0_3.length ≤ c0_3) (hr0_4 : Kd.C k95 w A0_4 l0_4.length l0_4) (hc0_4 : l0_4.length ≤ c0_4) (h : laws_toRule.f k a0_0 a0_1 l0_2 l0_3 l0_4 = some (r1, r2, r3, r4, r5)) :
  Calls Try.prog 14 #[.agg #[.string a0_0, .int .i64 a0_1, .slice A0_2 l0_2.length c0_2, .slice A0_3 l0_3.length c0_3, .slice A0_4 l0_4.length c0_4]] w fun e w' => ∃ v2_ v3_ v4_ : Value, e = .returned (.agg #[.string r1, .int .i64 r2, v2_, v3_, v4_]) ∧ Kd.S k59 59 w' w.heap.size (fun _ => True) v2_ r3 ∧ Kd.R k72 72 w' w.heap.size (fun _ => True) v3_ r4 ∧ Kd.S k46 46 w' w.heap.size (fun _ => True) v4_ r5 ∧ Below w.heap.size w w' := by
 have hu37 := Try.underlying37; have hu42 := Try.underlying42; have HR0_2 := a_ hr0_2; have HC0_2 := a_ hc0_2; clear hr0_2 hc0_2; have HR0_3 := a_ hr0_3; have HC0_3 := a_ hc0_3; clear hr0_3 hc0_3; have HR0_4 := a_ hr0_4; have HC0_4 := a_ hc0_4; clear hr0_4 hc0_4; have HB := a_ (Below.refl w.heap.size w); have H : ((laws_toPatternS.f k l0_2).bind fun t287 => ((laws_toExprS.f k l0_3).bind fun t290 => ((laws_toActionS.f k l0_4).bind fun t293 => (some (a0_0, a0_1, t287, t290, t293))))) = some (r1, r2, r3, r4, r5) := h
 clear h; replace H := Option.bind_eq_some_iff.mp H; obtain ⟨t287, A20, H⟩ := H; have A2 := a_ A20; clear A20; replace H := Option.bind_eq_some_iff.mp H; obtain ⟨t290, A30, H⟩ := H; have A3 := a_ A30; clear A30; replace H := Option.bind_eq_some_iff.mp H; obtain ⟨t293, A40, H⟩ := H; have A4 := a_ A40; clear A40; simp only [Option.some.injEq, Prod.mk.injEq] at H; obtain ⟨rfl, rfl, rfl, rfl, rfl⟩ := H; go_enter Try.func14, Try.ntmps14; go_wp2_with (first | ((with_reducible refine gate_dst (N := 1) rfl ?_); refine bx_ 1 #[.string a0_0, .int .i64 a0_1, .slice A0_2 l0_2.length c0_2, .slice A0_3 l0_3.length c0_3, .slice A0_4 l0_4.length c0_4] 37 ?_; intro gb284 hg w5 hbox hb; have BK284 := a_ (hbox); have GE284 := mg_ HB hg; replace HB := ms_ HB hb; clear hb hbox hg) | ((with_reducible refine gate_dst (N := 2) rfl ?_); refine bx_ 2 #[.string (⟨#[]⟩ : ByteArray), .int .i64 0, .slice none 0 0, .slice none 0 0, .slice none 0 0] 42 ?_; intro gb285 hg w6 hbox hb; have BK285 := a_ (hbox); have GE285 := mg_ HB hg; have NB284_285 := ml_ BK284 hg; have NB285_284 := mr_ BK284 hg; replace BK284 := mk_ BK284 hb; replace HB := ms_ HB hb; clear hb hbox hg) | ((with_reducible refine gate_dst (N := 3) rfl ?_); refine bx_ 3 #[.string (⟨#[]⟩ : ByteArray), .int .i64 0, .slice none 0 0, .slice none 0 0, .slice none 0 0] 42 ?_; intro gb286 hg w7 hbox hb; have BK286 := a_ (hbox); have GE286 := mg_ HB hg; have NB284_286 := ml_ BK284 hg; have NB286_284 := mr_ BK284 hg; have NB285_286 := ml_ BK285 hg; have NB286_285 := mr_ BK285 hg; replace BK284 := mk_ BK284 hb; replace BK285 := mk_ BK285 hb; replace HB := ms_ HB hb; clear hb hbox hg; have hnb8 := NB284_285.out; have hnc8 := NB285_284.out; have hnb9 := NB284_286.out; have hnc9 := NB286_284.out; obtain ⟨z10_0, z10_1, z10_2, z10_3, z10_4, zf10_0, zf10_1, zf10_2, zf10_3, zf10_4⟩ := cz5 BK284; have hnb11 := NB286_285.out; have hnc11 := NB285_286.out; obtain ⟨z12_0, z12_1, z12_2, z12_3, z12_4, zf12_0, zf12_1, zf12_2, zf12_3, zf12_4⟩ := cz5 BK286) | ((with_reducible refine gate_callee (f := 29) rfl ?_); refine goesL_ (some 12) rfl rfl Try.func29 (by kernel_rfl) rfl #[.slice A0_2 l0_2.length c0_2] rfl mw_ ?_; (with_reducible refine (laws_toPatternS.calls k _ _ l0_2 t287 _ ?side1 ?side2 A2.out).mono ?_); (case side1 => exact Kd.C_below HR0_2.out (mb_ HB)); (case side2 => exact HC0_2.out); rintro e w13 ⟨v288, rfl, ho0, hb⟩; refine ⟨_, rfl, ?_⟩; have HO289 := a_ (Kd.S_lower ho0 (below_size (mb_ HB))); replace BK284 := mk_ BK284 hb; replace BK285 := mk_ BK285 hb; replace BK286 := a_ (blk_below (g := gb286) (o := .cells #[.string a0_0, .int .i64 a0_1, .slice none 0 0, .slice none 0 0, .slice none 0 0] 42 (0, 0)) (by (with_reducible repeat (first | refine blk_drewN ?_ _ | refine blk_drew ?_ | refine blk_alloc ?_ _)); refine blk_put (cs := #[.string a0_0, .int .i64 0, .slice none 0 0, .slice none 0 0, .slice none 0 0]) ?_ 1 _ rfl; (with_reducible repeat (first | refine blk_drewN ?_ _ | refine blk_drew ?_ | refine blk_alloc ?_ _)); refine blk_put (cs := #[.string (⟨#[]⟩ : ByteArray), .int .i64 0, .slice none 0 0, .slice none 0 0, .slice none 0 0]) ?_ 0 _ rfl; (with_reducible repeat (first | refine blk_drewN ?_ _ | refine blk_drew ?_ | refine blk_alloc ?_ _)); exact BK286.out) hb); replace HB := ms_ HB hb; (try clear hb); (try clear hb2); (try clear hk); (try clear hi); (try clear ho0); obtain ⟨Ao14, co14, eo14⟩ := Kd.S_slice HO289.out; subst eo14; obtain ⟨z15_0, z15_1, z15_2, z15_3, z15_4, zf15_0, zf15_1, zf15_2, zf15_3, zf15_4⟩ := cz5 BK286; obtain ⟨z16_0, z16_1, z16_2, z16_3, z16_4, zf16_0, zf16_1, zf16_2, zf16_3, zf16_4⟩ := cz5 BK284) | ((with_reducible refine gate_callee (f := 30) rfl ?_); refine goesL_ (some 16) rfl rfl Try.func30 (by kernel_rfl) rfl #[.slice A0_3 l0_3.length c0_3] rfl mw_ ?_; (with_reducible refine (laws_toExprS.calls k _ _ l0_3 t290 _ ?side1 ?side2 A3.out).mono ?_); (case side1 => exact Kd.C_below HR0_3.out (mb_ HB)); (case side2 => exact HC0_3.out); rintro e w17 ⟨v291, rfl, ho0, hb⟩; refine ⟨_, rfl, ?_⟩; have HO292 := a_ (Kd.R_lower ho0 (below_size (mb_ HB))); replace HO289 := a_ (Kd.S_below (by (with_reducible repeat (first | apply Kd.S_alloc | apply Kd.S_drewN | apply Kd.S_drew)); exact (Kd.S_mono (Kd.S_far (p := ⟨gb286, 2, none⟩) (Kd.S_types HO289.out BK286.out (by decide)) (fun _ hk => hk.2) (.slice Ao14 t287.length co14)) (fun _ h_ => h_.1))) hb); replace BK284 := mk_ BK284 hb; replace BK285 := mk_ BK285 hb; replace BK286 := a_ (blk_below (g := gb286) (o := .cells #[.string a0_0, .int .i64 a0_1, .slice Ao14 t287.length co14, .slice none 0 0, .slice none 0 0] 42 (0, 0)) (by (with_reducible repeat (first | refine blk_drewN ?_ _ | refine blk_drew ?_ | refine blk_alloc ?_ _)); refine blk_put (cs := #[.string a0_0, .int .i64 a0_1, .slice none 0 0, .slice none 0 0, .slice none 0 0]) ?_ 2 _ rfl; (with_reducible repeat (first | refine blk_drewN ?_ _ | refine blk_drew ?_ | refine blk_alloc ?_ _)); exact BK286.out) hb); replace HB := ms_ HB hb; (try clear hb); (try clear hb2); (try clear hk); (try clear hi); (try clear ho0); obtain ⟨Ao18, co18, eo18⟩ := Kd.R_slice HO292.out; subst eo18; obtain ⟨z19_0, z19_1, z19_2, z19_3, z19_4, zf19_0, zf19_1, zf19_2, zf19_3, zf19_4⟩ := cz5 BK286; obtain ⟨z20_0, z20_1, z20_2, z20_3, z20_4, zf20_0, zf20_1, zf20_2, zf20_3, zf20_4⟩ := cz5 BK284) | ((with_reducible refine gate_callee (f := 31) rfl ?_); refine goesL_ (some 20) rfl rfl Try.func31 (by kernel_rfl) rfl #[.slice A0_4 l0_4.length c0_4] rfl mw_ ?_; (with_reducible refine (laws_toActionS.calls k _ _ l0_4 t293 _ ?side1 ?side2 A4.out).mono ?_); (case side1 => exact Kd.C_below HR0_4.out (mb_ HB)); (case side2 => exact HC0_4.out); rintro e w21 ⟨v294, rfl, ho0, hb⟩; refine ⟨_, rfl, ?_⟩; have HO295 := a_ (Kd.S_lower ho0 (below_size (mb_ HB))); replace HO289 := a_ (Kd.S_below (by (with_reducible repeat (first | apply Kd.S_alloc | apply Kd.S_drewN | apply Kd.S_drew)); exact (Kd.S_mono (Kd.S_far (p := ⟨gb286, 3, none⟩) (Kd.S_types HO289.out BK286.out (by decide)) (fun _ hk => hk.2) (.slice Ao18 t290.length co18)) (fun _ h_ => h_.1))) hb); replace HO292 := a_ (Kd.R_below (mo_ (Kd.R_mono (Kd.R_far (p := ⟨gb286, 3, none⟩) (Kd.R_types HO292.out BK286.out (by decide)) (fun _ hk => hk.2) (.slice Ao18 t290.length co18)) (fun _ h_ => h_.1))) hb); replace BK284 := mk_ BK284 hb; replace BK285 := mk_ BK285 hb; replace BK286 := a_ (blk_below (g := gb286) (o := .cells #[.string a0_0, .int .i64 a0_1, .slice Ao14 t287.length co14, .slice Ao18 t290.length co18, .slice none 0 0] 42 (0, 0)) (by (with_reducible repeat (first | refine blk_drewN ?_ _ | refine blk_drew ?_ | refine blk_alloc ?_ _)); refine blk_put (cs := #[.string a0_0, .int .i64 a0_1, .slice Ao14 t287.length co14, .slice none 0 0, .slice none 0 0]) ?_ 3 _ rfl; (with_reducible repeat (first | refine blk_drewN ?_ _ | refine blk_drew ?_ | refine blk_alloc ?_ _)); exact BK286.out) hb); replace HB := ms_ HB hb; (try clear hb); (try clear hb2); (try clear hk); (try clear hi); (try clear ho0); obtain ⟨Ao22, co22, eo22⟩ := Kd.S_slice HO295.out; subst eo22; obtain ⟨z23_0, z23_1, z23_2, z23_3, z23_4, zf23_0, zf23_1, zf23_2, zf23_3, zf23_4⟩ := cz5 BK286; obtain ⟨z24_0, z24_1, z24_2, z24_3, z24_4, zf24_0, zf24_1, zf24_2, zf24_3, zf24_4⟩ := cz5 BK285))
 refine bodyPost_ret (results_cell_row rfl _ _ gb285 42 #[.string a0_0, .int .i64 a0_1, .slice Ao14 t287.length co14, .slice Ao18 t290.length co18, .slice Ao22 t293.length co22] (0, 0) _ rfl (by (with_reducible repeat (first | refine blk_drewN ?_ _ | refine blk_drew ?_ | refine blk_alloc ?_ _)); refine blk_put (cs := #[.string a0_0, .int .i64 a0_1, .slice Ao14 t287.length co14, .slice Ao18 t290.length co18, .slice none 0 0]) ?_ 4 _ rfl; (with_reducible repeat (first | refine blk_drewN ?_ _ | refine blk_drew ?_ | refine blk_alloc ?_ _)); refine blk_put (cs := #[.string a0_0, .int .i64 a0_1, .slice Ao14 t287.length co14, .slice none 0 0, .slice none 0 0]) ?_ 3 _ rfl; (with_reducible repeat (first | refine blk_drewN ?_ _ | refine blk_drew ?_ | refine blk_alloc ?_ _)); refine blk_put (cs := #[.string a0_0, .int .i64 a0_1, .slice none 0 0, .slice none 0 0, .slice none 0 0]) ?_ 2 _ rfl; (with_reducible repeat (first | refine blk_drewN ?_ _ | refine blk_drew ?_ | refine blk_alloc ?_ _)); refine blk_put (cs := #[.string a0_0, .int .i64 0, .slice none 0 0, .slice none 0 0, .slice none 0 0]) ?_ 1 _ rfl; (with_reducible repeat (first | refine blk_drewN ?_ _ | refine blk_drew ?_ | refine blk_alloc ?_ _)); refine blk_put (cs := #[.string (⟨#[]⟩ : ByteArray), .int .i64 0, .slice none 0 0, .slice none 0 0, .slice none 0 0]) ?_ 0 _ rfl; (with_reducible repeat (first | refine blk_drewN ?_ _ | refine blk_drew ?_ | refine blk_alloc ?_ _)); refine blk_far ?_ NB285_286.out _; (with_reducible repeat (first | refine blk_drewN ?_ _ | refine blk_drew ?_ | refine blk_alloc ?_ _)); exact BK285.out) Try.underlying42 rfl (by kernel_rfl)) rfl ?_; exact ⟨_, _, _, me_, by (with_reducible repeat (first | apply Kd.S_alloc | apply Kd.S_drewN | apply Kd.S_drew)); exact Kd.S_mono (Kd.S_far (p := ⟨gb285, 4, none⟩) (Kd.S_far (p := ⟨gb285, 3, none⟩) (Kd.S_far (p := ⟨gb285, 2, none⟩) (Kd.S_far (p := ⟨gb285, 1, none⟩) (Kd.S_far (p := ⟨gb285, 0, none⟩) (Kd.S_far (p := ⟨gb286, 4, none⟩) (Kd.S_types (Kd.S_types HO289.out BK286.out (by decide)) BK285.out (by decide)) (fun _ hk => hk.1.2) (.slice Ao22 t293.length co22)) (fun _ hk => hk.2) (.string a0_0)) (fun _ hk => hk.2) (.int .i64 a0_1)) (fun _ hk => hk.2) (.slice Ao14 t287.length co14)) (fun _ hk => hk.2) (.slice Ao18 t290.length co18)) (fun _ hk => hk.2) (.slice Ao22 t293.length co22)) (fun _ hk => trivial), mo_ (Kd.R_mono (Kd.R_far (p := ⟨gb285, 4, none⟩) (Kd.R_far (p := ⟨gb285, 3, none⟩) (Kd.R_far (p := ⟨gb285, 2, none⟩) (Kd.R_far (p := ⟨gb285, 1, none⟩) (Kd.R_far (p := ⟨gb285, 0, none⟩) (Kd.R_far (p := ⟨gb286, 4, none⟩) (Kd.R_types (Kd.R_types HO292.out BK286.out (by decide)) BK285.out (by decide)) (fun _ hk => hk.1.2) (.slice Ao22 t293.length co22)) (fun _ hk => hk.2) (.string a0_0)) (fun _ hk => hk.2) (.int .i64 a0_1)) (fun _ hk => hk.2) (.slice Ao14 t287.length co14)) (fun _ hk => hk.2) (.slice Ao18 t290.length co18)) (fun _ hk => hk.2) (.slice Ao22 t293.length co22)) (fun _ hk => trivial)), by (with_reducible repeat (first | apply Kd.S_alloc | apply Kd.S_drewN | apply Kd.S_drew)); exact Kd.S_mono (Kd.S_far (p := ⟨gb285, 4, none⟩) (Kd.S_far (p := ⟨gb285, 3, none⟩) (Kd.S_far (p := ⟨gb285, 2, none⟩) (Kd.S_far (p := ⟨gb285, 1, none⟩) (Kd.S_far (p := ⟨gb285, 0, none⟩) (Kd.S_far (p := ⟨gb286, 4, none⟩) (Kd.S_types (Kd.S_types HO295.out BK286.out (by decide)) BK285.out (by decide)) (fun _ hk => hk.1.2) (.slice Ao22 t293.length co22)) (fun _ hk => hk.2) (.string a0_0)) (fun _ hk => hk.2) (.int .i64 a0_1)) (fun _ hk => hk.2) (.slice Ao14 t287.length co14)) (fun _ hk => hk.2) (.slice Ao18 t290.length co18)) (fun _ hk => hk.2) (.slice Ao22 t293.length co22)) (fun _ hk => trivial), mb_ HB⟩
def laws_toRuleS.l0 : Nat → List (S37) → List (S42) → Int → Option ((List (S42)))
 | 0, _, _, _ => none
 | k + 1, x0, x3, x4 => if x4 < (x0.length : Int) then (if 0 ≤ x4 then ((laws_toRule.f k ((rd_T37 x0 x4).f0) ((rd_T37 x0 x4).f1) ((rd_T37 x0 x4).f2) ((rd_T37 x0 x4).f3) ((rd_T37 x0 x4).f4)).bind fun bt300 => (if x4 < (x3.length : Int) then (laws_toRuleS.l0 k x0 (x3.set (x4 : Int).toNat (⟨bt300.1, bt300.2.1, bt300.2.2.1, bt300.2.2.2.1, bt300.2.2.2.2⟩ : S42)) (wrap64 (x4 + 1))) else (none))) else (none)) else (some x3)
def laws_toRuleS.f (k : Nat) (l0 : List (S37)) : Option ((List (S42))) := if 0 ≤ (l0.length : Int) then (if ((l0.length : Int) : Int).toNat ≤ 2932031007402 then (laws_toRuleS.l0 k l0 (List.replicate ((l0.length : Int) : Int).toNat z42) 0) else (none)) else (none)
theorem laws_toRuleS.mono_l : ∀ k, (∀ y0 y1 y2, LeO (laws_toRuleS.l0 k y0 y1 y2) (laws_toRuleS.l0 (k + 1) y0 y1 y2))
 | 0 => fun _ _ _ r h => by simp [laws_toRuleS.l0] at h
 | k + 1 => by
  have ih0 := laws_toRuleS.mono_l k
  ·intro y0 y1 y2; unfold laws_toRuleS.l0
   repeat' with_reducible first | apply ih0 | apply laws_toRule.mono | apply LeO.refl | apply LeO.none | refine LeO.ite ?_ ?_ | refine LeO.bind ?_ (fun _ => ?_)
theorem laws_toRuleS.mono : ∀ a0 k, LeO (laws_toRuleS.f k a0) (laws_toRuleS.f (k + 1) a0) := by
 intro a0 k; have ih0 := laws_toRuleS.mono_l k; unfold laws_toRuleS.f
 repeat' with_reducible first | apply ih0 | apply laws_toRule.mono | apply LeO.refl | apply LeO.none | refine LeO.ite ?_ ?_ | refine LeO.bind ?_ (fun _ => ?_)
set_option maxHeartbeats 8000000 in
set_option maxRecDepth 100000 in
theorem laws_toRuleS.calls (k : Nat) (A0 : Option Addr) (c0 : Nat) (l0 : List (S37)) (r : List (S42)) (w : World) (hr0 : Kd.C k37 w A0 l0.length l0) (hc0 : l0.length ≤ c0) (h : laws_toRuleS.f k l0 = some r) :
  Calls Try.prog 6 #[.slice A0 l0.length c0] w fun e w' => ∃ v0_ : Value, e = .returned (v0_) ∧ Kd.R k42 42 w' w.heap.size (fun _ => True) v0_ r ∧ Below w.heap.size w w' := by
 have hu37 := Try.underlying37; have hu42 := Try.underlying42; have HR0 := a_ hr0; have HC0 := a_ hc0; clear hr0 hc0; have HB := a_ (Below.refl w.heap.size w); have H : (if 0 ≤ (l0.length : Int) then (if ((l0.length : Int) : Int).toNat ≤ 2932031007402 then (laws_toRuleS.l0 k l0 (List.replicate ((l0.length : Int) : Int).toNat z42) 0) else (none)) else (none)) = some r := h
 clear h; by_cases c2 : 0 ≤ (l0.length : Int)
 case neg => rw [if_neg c2] at H; cases H
 rw [if_pos c2] at H; have c2b0 := eq_true c2; have c2b1 := decide_eq_true c2; clear c2; by_cases c3 : ((l0.length : Int) : Int).toNat ≤ 2932031007402
 case neg => rw [if_neg c3] at H; cases H
 rw [if_pos c3] at H; have c3b0 := eq_true c3; have c3b1 := decide_eq_true c3; clear c3; obtain ⟨y296, hy296⟩ : ∃ y_ : List (S42), y_ = (List.replicate ((l0.length : Int) : Int).toNat z42) := ⟨_, rfl⟩; rw [← hy296] at H; have Ny296 := a_ hy296; clear hy296; have H' := a_ H; clear H; go_enter Try.func6, Try.ntmps6; go_wp2_with (first | ((with_reducible refine gate_dst (N := 7) rfl ?_); refine Kd.R_make k42 _ 42 rfl (N := 7) rfl 27 _ _ rfl (l0.length : Int) rfl rfl Try.underlying27 (.agg #[(.string ⟨#[]⟩), (.int .i64 0), (.slice none 0 0), (.slice none 0 0), (.slice none 0 0)]) 96 info42 rfl (by decide) (by omega) z42 (ok := fun _ => True) (okp := fun _ => True) (k42_mkM _ _ _ z42 (Kd.R_nil _ _ _ _ _) (Kd.R_nil _ _ _ _ _) (Kd.R_nil _ _ _ _ _)) (fun _ hk => hk) trivial (md_) (Nat.le_trans (Nat.mul_le_mul_right _ (md_ : (l0.length : Int).toNat ≤ 2932031007402)) (by omega)) (Below.refl _ _) (Nat.le_refl _) ?_; intro v297 w4 ho5 hb hg_ hnew_; clear hg_ hnew_; (first | rw [← Ny296.out] at ho5 | (simp only [Int.reduceToNat] at ho5; rw [← Ny296.out] at ho5)); have HO298 := a_ (Kd.R_lower ho5 (below_size (mb_ HB))); replace HB := ms_ HB hb; clear hb ho5)); go_loopg [4] k (fun kq v4 w' => ∃ (x3_1 : List (S42)) (x4_1 : Int), v4 = .int .i64 x4_1 ∧ Aside0 (laws_toRuleS.l0 kq l0 x3_1 x4_1 = some r) ∧ Aside0 (kq ≤ k) ∧ Aside0 (Kd.R k42 42 w' w.heap.size (fun _ => True) v297 x3_1) ∧ Aside0 (Below w.heap.size w w'))
 case atStart => exact ⟨(y296), (0), mq_, H', ⟨Nat.le_refl _⟩, ⟨mo_ HO298.out⟩, ⟨mb_ HB⟩⟩
 clear H'; (try clear c2b0); (try clear c2b1); (try clear c3b0); (try clear c3b1); obtain ⟨x3_1, x4_1, rfl, HA, HK1, HO_3, HB⟩ := hrel; obtain _ | k1 := gk
 ·exact absurd HA.out (by simp [laws_toRuleS.l0])
 have H := HA.out; clear HA; simp only [laws_toRuleS.l0] at H; by_cases c6 : x4_1 < (l0.length : Int)
 ·rw [if_pos c6] at H; have c6b0 := decide_eq_true c6; clear c6; by_cases c7 : 0 ≤ x4_1
  case neg => rw [if_neg c7] at H; cases H
  rw [if_pos c7] at H; have c7b0 := decide_eq_true c7; clear c7; replace H := Option.bind_eq_some_iff.mp H; obtain ⟨⟨t300, t301, t302, t305, t308⟩, A80, H⟩ := H; have A8 := a_ A80; clear A80; by_cases c9 : x4_1 < (x3_1.length : Int)
  case neg => rw [if_neg c9] at H; cases H
  rw [if_pos c9] at H; have c9b0 := decide_eq_true c9; clear c9; obtain ⟨y311, hy311⟩ : ∃ y_ : List (S42), y_ = (x3_1.set (x4_1 : Int).toNat (⟨t300, t301, t302, t305, t308⟩ : S42)) := ⟨_, rfl⟩; rw [← hy311] at H; have Ny311 := a_ hy311; clear hy311; have H' := a_ H; clear H; have p299 : 0 ≤ (x4_1 : Int) := md_
  have q299 : x4_1 < (l0.length : Int) := md_
  obtain ⟨ad299, A299_2, c299_2, A299_3, c299_3, A299_4, c299_4, e299, hx299_0, hx299_1, hx299_2, hx299_3, hx299_4, hl299_2, hi299_2, hl299_3, hi299_3, hl299_4, hi299_4⟩ := at_T37 HR0.out x4_1 p299 q299; cases e299; replace hx299_0 := mx_ HB hx299_0; replace hx299_1 := mx_ HB hx299_1; replace hx299_2 := mx_ HB hx299_2; replace hx299_3 := mx_ HB hx299_3; replace hx299_4 := mx_ HB hx299_4; have HR299_2 := a_ hi299_2; have HC299_2 := a_ hl299_2; clear hi299_2 hl299_2; have HR299_3 := a_ hi299_3; have HC299_3 := a_ hl299_3; clear hi299_3 hl299_3; have HR299_4 := a_ hi299_4; have HC299_4 := a_ hl299_4; clear hi299_4 hl299_4; replace p299 := eq_true p299; replace q299 := eq_true q299; go_wp2_with (first | ((with_reducible refine gate_callee (f := 14) rfl ?_); refine goesL_ (some 20) rfl rfl Try.func14 (by kernel_rfl) rfl #[.agg #[.string ((rd_T37 l0 x4_1).f0), .int .i64 ((rd_T37 l0 x4_1).f1), .slice A299_2 ((rd_T37 l0 x4_1).f2).length c299_2, .slice A299_3 ((rd_T37 l0 x4_1).f3).length c299_3, .slice A299_4 ((rd_T37 l0 x4_1).f4).length c299_4]] rfl mw_ ?_; (with_reducible refine (laws_toRule.calls k1 ((rd_T37 l0 x4_1).f0) ((rd_T37 l0 x4_1).f1) _ _ ((rd_T37 l0 x4_1).f2) _ _ ((rd_T37 l0 x4_1).f3) _ _ ((rd_T37 l0 x4_1).f4) t300 t301 t302 t305 t308 _ ?side1 ?side2 ?side3 ?side4 ?side5 ?side6 A8.out).mono ?_); (case side1 => repeat (first | exact (Kd.C_below HR299_2.out HB.out) | (with_reducible refine Kd.C_alloc ?_ _) | (with_reducible refine Kd.C_drewN ?_ _) | (with_reducible refine Kd.C_drew ?_))); (case side2 => exact HC299_2.out); (case side3 => repeat (first | exact (Kd.C_below HR299_3.out HB.out) | (with_reducible refine Kd.C_alloc ?_ _) | (with_reducible refine Kd.C_drewN ?_ _) | (with_reducible refine Kd.C_drew ?_))); (case side4 => exact HC299_3.out); (case side5 => repeat (first | exact (Kd.C_below HR299_4.out HB.out) | (with_reducible refine Kd.C_alloc ?_ _) | (with_reducible refine Kd.C_drewN ?_ _) | (with_reducible refine Kd.C_drew ?_))); (case side6 => exact HC299_4.out); rintro e w11 ⟨v303, v306, v309, rfl, ho0, ho1, ho2, hb⟩; refine ⟨_, rfl, ?_⟩; have HO304 := a_ (Kd.S_lower ho0 (below_size (mb_ HB))); have HO307 := a_ (Kd.R_lower ho1 (below_size (mb_ HB))); have HO310 := a_ (Kd.S_lower ho2 (below_size (mb_ HB))); replace HO_3 := a_ (Kd.R_mono (Kd.R_told (Kd.R_told (Kd.R_told (Kd.R_old (mo_ HO_3.out) hb) (Kd.S_base ho0)) (Kd.R_base ho1)) (Kd.S_base ho2)) (fun _ h_ => h_.1)); replace HB := ms_ HB hb; (try clear hb); (try clear hb2); (try clear hk); (try clear hi); (try clear ho0); (try clear ho1); (try clear ho2); have p10 : 0 ≤ (x4_1 : Int) := md_; have q10 : (x4_1 : Int) < ((x3_1.length : Int) : Int) := md_; obtain ⟨go10, co10, eo10, gb10, gl10, cl10, HG10⟩ := Kd.R_form HO_3.out (by omega); (first | cases eo10 | (injection eo10 with ea_ en_ ec_; (first | subst ea_ | (injection ea_ with ea_; subst ea_)); subst ec_; clear en_)); have GB10 := a_ gb10; have GG10 := a_ HG10; clear gb10 gl10 HG10; obtain ⟨ce10, hcl10, hM10, hcc10, hfr10⟩ := Kd.R_elem HO_3.out z42 (x4_1 : Int) p10 q10; obtain ⟨ve10_2, ve10_3, ve10_4, rfl, ge10_2, ge10_3, ge10_4⟩ := k42_openM hM10; have hx10_0 : w11.cell? ⟨go10, (x4_1 : Int).toNat * 5, none⟩ = some (.string ((rd_T42 x3_1 x4_1).f0)) := hcc10 0 _ rfl; have hx10_1 : w11.cell? ⟨go10, (x4_1 : Int).toNat * 5 + 1, none⟩ = some (.int .i64 ((rd_T42 x3_1 x4_1).f1)) := hcc10 1 _ rfl; have hx10_2 : w11.cell? ⟨go10, (x4_1 : Int).toNat * 5 + 2, none⟩ = some (ve10_2) := hcc10 2 _ rfl; have hx10_3 : w11.cell? ⟨go10, (x4_1 : Int).toNat * 5 + 3, none⟩ = some (ve10_3) := hcc10 3 _ rfl; have hx10_4 : w11.cell? ⟨go10, (x4_1 : Int).toNat * 5 + 4, none⟩ = some (ve10_4) := hcc10 4 _ rfl; have hf10_0 : w11.frozen? ⟨go10, (x4_1 : Int).toNat * 5, none⟩ = false := hfr10 0; have hf10_1 : w11.frozen? ⟨go10, (x4_1 : Int).toNat * 5 + 1, none⟩ = false := hfr10 1; have hf10_2 : w11.frozen? ⟨go10, (x4_1 : Int).toNat * 5 + 2, none⟩ = false := hfr10 2; have hf10_3 : w11.frozen? ⟨go10, (x4_1 : Int).toNat * 5 + 3, none⟩ = false := hfr10 3; have hf10_4 : w11.frozen? ⟨go10, (x4_1 : Int).toNat * 5 + 4, none⟩ = false := hfr10 4; clear hcl10 hcc10 hfr10; (try clear hM10); replace p10 := eq_true p10; replace q10 := eq_true q10; have n_ := a_ (Kd.R_mono (ok' := (fun k_ => some k_ ≠ (v303 : Value).ownBlock ∧ some k_ ≠ (v306 : Value).ownBlock ∧ some k_ ≠ (v309 : Value).ownBlock)) HO_3.out (fun k_ hk => ⟨hk.1.1.2, ⟨hk.1.2, hk.2⟩⟩)); clear HO_3; have HO_3 := n_; clear n_; have HX12 := a_ (show Kd.R k42 42 w11 w.heap.size (fun _ => True) (.slice (some ⟨go10, 0, none⟩) x3_1.length co10) x3_1 from (mo_ (Kd.R_mono HO_3.out (fun _ hk => trivial)))); obtain ⟨ce12, hcl12, hM12, hcc12, hfr12⟩ := Kd.R_elem HX12.out z42 (x4_1 : Int) (md_) (by have h_ : (x4_1 : Int) < ((x3_1.length : Int) : Int) := md_; first | exact h_ | (have e_ := (Kd.R_reads' HO_3.out).1; omega) | simpa using h_); obtain ⟨ve12_2, ve12_3, ve12_4, rfl, ge12_2, ge12_3, ge12_4⟩ := k42_openM hM12; have HP12 := Kd.R_seg HX12.out (x4_1 : Int) (md_) (by have h_ : (x4_1 : Int) < ((x3_1.length : Int) : Int) := md_; first | exact h_ | (have e_ := (Kd.R_reads' HO_3.out).1; omega) | simpa using h_) (seg := [.string t300, .int .i64 t301, v303, v306, v309]) (j := 0) hcl12 hcc12 (show 5 ≤ 5 from by decide) (x' := (⟨t300, t301, t302, t305, t308⟩ : S42)) (k42_mkM _ _ _ (⟨t300, t301, t302, t305, t308⟩ : S42) (Kd.R_mono (Kd.R_apart' ((Kd.S_R HO304.out)) (Kd.R_typed HO_3.out) (by decide)) (fun k_ hk => ⟨trivial, fun e_ => (hk.2) (by rw [e_]; rfl)⟩)) (Kd.R_mono (Kd.R_apart' (HO307.out) (Kd.R_typed HO_3.out) (by decide)) (fun k_ hk => ⟨trivial, fun e_ => (hk.2) (by rw [e_]; rfl)⟩)) (Kd.R_mono (Kd.R_apart' ((Kd.S_R HO310.out)) (Kd.R_typed HO_3.out) (by decide)) (fun k_ hk => ⟨trivial, fun e_ => (hk.2) (by rw [e_]; rfl)⟩))) (fun _ hk => hk); have hx12_0 := hcc12 0 _ rfl; (try simp only [show (k42).sz = 5 from rfl, Nat.mul_one, Nat.add_zero] at hx12_0); have hf12_0 := hfr12 0; (try simp only [show (k42).sz = 5 from rfl, Nat.mul_one, Nat.add_zero] at hf12_0); have hx12_1 := hcc12 1 _ rfl; (try simp only [show (k42).sz = 5 from rfl, Nat.mul_one, Nat.add_zero] at hx12_1); have hf12_1 := hfr12 1; (try simp only [show (k42).sz = 5 from rfl, Nat.mul_one, Nat.add_zero] at hf12_1); have hx12_2 := hcc12 2 _ rfl; (try simp only [show (k42).sz = 5 from rfl, Nat.mul_one, Nat.add_zero] at hx12_2); have hf12_2 := hfr12 2; (try simp only [show (k42).sz = 5 from rfl, Nat.mul_one, Nat.add_zero] at hf12_2); have hx12_3 := hcc12 3 _ rfl; (try simp only [show (k42).sz = 5 from rfl, Nat.mul_one, Nat.add_zero] at hx12_3); have hf12_3 := hfr12 3; (try simp only [show (k42).sz = 5 from rfl, Nat.mul_one, Nat.add_zero] at hf12_3); have hx12_4 := hcc12 4 _ rfl; (try simp only [show (k42).sz = 5 from rfl, Nat.mul_one, Nat.add_zero] at hx12_4); have hf12_4 := hfr12 4; (try simp only [show (k42).sz = 5 from rfl, Nat.mul_one, Nat.add_zero] at hf12_4); clear hcl12 hcc12 hfr12; (try clear hM12)) | ((with_reducible refine gate_store (t := 42) (p := 21) rfl ?_); refine store_event (t := 42) (p := 21) (v := ?vo_w13) (w1 := (((((w11.setCell ⟨go10, (x4_1 : Int).toNat * 5, none⟩ (.string t300)).setCell ⟨go10, (x4_1 : Int).toNat * 5 + 1, none⟩ (.int .i64 t301)).setCell ⟨go10, (x4_1 : Int).toNat * 5 + 2, none⟩ (v303)).setCell ⟨go10, (x4_1 : Int).toNat * 5 + 3, none⟩ (v306)).setCell ⟨go10, (x4_1 : Int).toNat * 5 + 4, none⟩ (v309))) ?hg ?ho ?hn ?hr ?_; (case ho => rfl); (case hg => rfl); (case hn => rfl); (case hr => first | (go_simp; done) | (go_simp; rfl) | ((obtain ⟨As0_, cs0_, es0_⟩ := (by first | exact Kd.R_slice (Kd.S_R (Aside0.out (by with_reducible assumption : Aside0 (Kd.S _ _ _ _ _ v303 _)))) | exact Kd.R_slice (Aside0.out (by with_reducible assumption : Aside0 (Kd.R _ _ _ _ _ v303 _))) | exact Kd.R_slice (Aside0.out ‹Aside0 (Kd.R _ _ _ _ _ v303 _)›) : ∃ A_ c_, v303 = Value.slice A_ _ c_)); subst es0_; (obtain ⟨As1_, cs1_, es1_⟩ := (by first | exact Kd.R_slice (Kd.S_R (Aside0.out (by with_reducible assumption : Aside0 (Kd.S _ _ _ _ _ v306 _)))) | exact Kd.R_slice (Aside0.out (by with_reducible assumption : Aside0 (Kd.R _ _ _ _ _ v306 _))) | exact Kd.R_slice (Aside0.out ‹Aside0 (Kd.R _ _ _ _ _ v306 _)›) : ∃ A_ c_, v306 = Value.slice A_ _ c_)); subst es1_; (obtain ⟨As2_, cs2_, es2_⟩ := (by first | exact Kd.R_slice (Kd.S_R (Aside0.out (by with_reducible assumption : Aside0 (Kd.S _ _ _ _ _ v309 _)))) | exact Kd.R_slice (Aside0.out (by with_reducible assumption : Aside0 (Kd.R _ _ _ _ _ v309 _))) | exact Kd.R_slice (Aside0.out ‹Aside0 (Kd.R _ _ _ _ _ v309 _)›) : ∃ A_ c_, v309 = Value.slice A_ _ c_)); subst es2_; go_simp; done) | ((obtain ⟨As0_, cs0_, es0_⟩ := (by first | exact Kd.R_slice (Kd.S_R (Aside0.out (by with_reducible assumption : Aside0 (Kd.S _ _ _ _ _ v303 _)))) | exact Kd.R_slice (Aside0.out (by with_reducible assumption : Aside0 (Kd.R _ _ _ _ _ v303 _))) | exact Kd.R_slice (Aside0.out ‹Aside0 (Kd.R _ _ _ _ _ v303 _)›) : ∃ A_ c_, v303 = Value.slice A_ _ c_)); subst es0_; (obtain ⟨As1_, cs1_, es1_⟩ := (by first | exact Kd.R_slice (Kd.S_R (Aside0.out (by with_reducible assumption : Aside0 (Kd.S _ _ _ _ _ v306 _)))) | exact Kd.R_slice (Aside0.out (by with_reducible assumption : Aside0 (Kd.R _ _ _ _ _ v306 _))) | exact Kd.R_slice (Aside0.out ‹Aside0 (Kd.R _ _ _ _ _ v306 _)›) : ∃ A_ c_, v306 = Value.slice A_ _ c_)); subst es1_; (obtain ⟨As2_, cs2_, es2_⟩ := (by first | exact Kd.R_slice (Kd.S_R (Aside0.out (by with_reducible assumption : Aside0 (Kd.S _ _ _ _ _ v309 _)))) | exact Kd.R_slice (Aside0.out (by with_reducible assumption : Aside0 (Kd.R _ _ _ _ _ v309 _))) | exact Kd.R_slice (Aside0.out ‹Aside0 (Kd.R _ _ _ _ _ v309 _)›) : ∃ A_ c_, v309 = Value.slice A_ _ c_)); subst es2_; go_simp; rfl)); intro w13 hw; have hg : w11.grownBy w13 (some go10) := (by rw [hw]; exact HP12.2); have hp_ : Kd.R k42 42 w13 w.heap.size (fun _ => True) (.slice (some ⟨go10, 0, none⟩) x3_1.length co10) y311 := (by rw [hw, Ny311.out]; exact HP12.1); clear HP12; replace HO_3 := a_ (hp_); replace HB := a_ ((by rw [hw]; exact below_set (below_set (below_set (below_set (below_set (HB.out) GB10.out) GB10.out) GB10.out) GB10.out) GB10.out : Below w.heap.size w w13)); clear HO304 HO307 HO310; clear hg hw hp_))
  go_roundg k1
  case measure => have := HK1.out; omega
  case rel => exact ⟨(y311), (wrap64 (x4_1 + 1)), mq_, H', ⟨by have := HK1.out; omega⟩, ⟨mo_ HO_3.out⟩, ⟨mb_ HB⟩⟩
 ·rw [if_neg c6] at H; have c6b0 := decide_eq_false c6; clear c6; obtain rfl := Option.some.inj H; go_wp2; go_ret; exact ⟨_, me_, mo_ HO_3.out, mb_ HB⟩
end Go.Proofs.Ytejjlkbbnhpbdaa.P
namespace Go.Proofs.YtejjlkbbnhpbdaaX
open Go.RowKit Go.Proofs.YtejjlkbbnhpbdaaW.PrintWords
set_option linter.unusedVariables false
set_option linter.unusedSimpArgs false
def okInt (x : Int) : Prop := -9223372036854775808 ≤ x ∧ x ≤ 9223372036854775807
def okByte (x : Int) : Prop := 0 ≤ x ∧ x ≤ 255
def okIntS (xs : List Int) : Prop := xs.length ≤ 9223372036854775807 ∧ ∀ x, x ∈ xs → okInt x
theorem wrap_succ {i n : Nat} (h : i < n) (hn : n ≤ 9223372036854775807) : wrap64 ((i : Int) + 1) = ((i + 1 : Nat) : Int) := by
  unfold wrap64
  omega
theorem up_ind {n : Nat} {P : Nat → Prop} (he : P n) (hs : ∀ i, i < n → P (i + 1) → P i) : ∀ i, i ≤ n → P i := by
  intro i hi
  obtain ⟨d, hd⟩ : ∃ d, n = i + d := ⟨n - i, by omega⟩
  induction d generalizing i with
  | zero => rw [show i = n by omega]; exact he
  | succ d ih => exact hs i (by omega) (ih (i + 1) (by omega) (by omega))
theorem getD_lt {α : Type} {xs : List α} {i : Nat} (z : α) (h : i < xs.length) : xs.getD i z = xs[i] := by
  rw [List.getD_eq_getElem?_getD, List.getElem?_eq_getElem h]
  rfl
theorem drop_getD {α : Type} {xs : List α} {i : Nat} (z : α) (h : i < xs.length) : xs.drop i = xs.getD i z :: xs.drop (i + 1) := by
  rw [getD_lt z h]
  exact List.drop_eq_getElem_cons h
theorem getD_in {α : Type} {xs : List α} {k : Nat} (z : α) (h : k < xs.length) : xs.getD k z ∈ xs := by
  rw [getD_lt z h]
  exact List.getElem_mem h
def szv (t : Nat) (left : Int) : Int := if (t : Int) ≤ left then left - t else -1
theorem szv_pos {t : Nat} {left : Int} (h : (t : Int) ≤ left) : szv t left = left - t := if_pos h
theorem szv_neg {t : Nat} {left : Int} (h : left < t) : szv t left = -1 := if_neg (by omega)
theorem wrap_left {left : Int} {a : Nat} (h0 : 0 ≤ left) (h1 : left ≤ 1048576) (ha : a ≤ 9223372036854775807) : wrap64 (left - (a : Int)) = left - a := by
  unfold wrap64
  omega
theorem sz_loop {α : Type} (xs : List α) (z : α) (tz : α → Nat) (L : Nat → Int → Int → Option Int)
    (hstep : ∀ (i : Nat) (left r : Int), i < xs.length → 0 ≤ left → left ≤ 1048576 → (left < tz (xs.getD i z) → r = -1) →
      ((tz (xs.getD i z) : Int) ≤ left → Ev (fun k => L k (left - tz (xs.getD i z)) ((i + 1 : Nat) : Int)) r) → Ev (fun k => L k left (i : Int)) r)
    (hend : ∀ left, Ev (fun k => L k left (xs.length : Int)) left) :
    ∀ left, 0 ≤ left → left ≤ 1048576 → Ev (fun k => L k left 0) (szv (xs.map tz).sum left) := by
  have key : ∀ i, i ≤ xs.length → ∀ left, 0 ≤ left → left ≤ 1048576 → Ev (fun k => L k left (i : Int)) (szv ((xs.drop i).map tz).sum left) := by
    refine up_ind ?_ ?_
    · intro left h0 h1
      rw [List.drop_length, List.map_nil, List.sum_nil, szv_pos (by omega)]
      rw [show left - ((0 : Nat) : Int) = left by omega]
      exact hend left
    · intro i hi ih left h0 h1
      rw [drop_getD z hi, List.map_cons, List.sum_cons]
      refine hstep i left _ hi h0 h1 (fun h => szv_neg (by omega)) (fun h => ?_)
      have e : szv (tz (xs.getD i z) + ((xs.drop (i + 1)).map tz).sum) left = szv ((xs.drop (i + 1)).map tz).sum (left - tz (xs.getD i z)) := by
        unfold szv
        split <;> split <;> omega
      rw [e]
      exact ih _ (by omega) (by omega)
  intro left h0 h1
  have := key 0 (Nat.zero_le _) left h0 h1
  rw [List.drop_zero] at this
  exact this
theorem to_loop {α β : Type} (xs : List α) (z : α) (f : α → β) (L : Nat → List β → Int → Option (List β))
    (hstep : ∀ (i : Nat) (out r : List β), i < xs.length → out.length = xs.length → Ev (fun k => L k (out.set i (f (xs.getD i z))) ((i + 1 : Nat) : Int)) r → Ev (fun k => L k out (i : Int)) r)
    (hend : ∀ out, out.length = xs.length → Ev (fun k => L k out (xs.length : Int)) out) : ∀ out, out.length = xs.length → Ev (fun k => L k out 0) (xs.map f) := by
  have key : ∀ i, i ≤ xs.length → ∀ out : List β, out.length = xs.length → Ev (fun k => L k out (i : Int)) (out.take i ++ (xs.drop i).map f) := by
    refine up_ind ?_ ?_
    · intro out ho
      rw [List.drop_length, List.map_nil, List.append_nil, ← ho, List.take_length, ho]
      exact hend out ho
    · intro i hi ih out ho
      refine hstep i out _ hi ho ?_
      have := ih (out.set i (f (xs.getD i z))) (by simpa using ho)
      have e : (out.set i (f (xs.getD i z))).take (i + 1) ++ (xs.drop (i + 1)).map f = out.take i ++ (xs.drop i).map f := by
        rw [drop_getD z hi, List.map_cons, List.take_succ_eq_append_getElem (by simpa [ho] using hi), List.take_set_of_le (Nat.le_refl i)]
        simp
      rw [e] at this
      exact this
  intro out ho
  have := key 0 (Nat.zero_le _) out ho
  simpa using this
theorem eq_loop (n : Nat) (L : Nat → Int → Option Bool) (hstep : ∀ i : Nat, i < n → Ev (fun k => L k ((i + 1 : Nat) : Int)) true → Ev (fun k => L k (i : Int)) true)
    (hend : Ev (fun k => L k (n : Int)) true) : Ev (fun k => L k 0) true := by
  have := up_ind (P := fun i => Ev (fun k => L k (i : Int)) true) hend (fun i hi h => hstep i hi h) 0 (Nat.zero_le _)
  exact this
theorem sum_le_of_mem {α : Type} (f : α → Nat) : ∀ (xs : List α) (x : α), x ∈ xs → f x ≤ (xs.map f).sum
  | [], x, h => absurd h (by simp)
  | y :: ys, x, h => by
    rw [List.map_cons, List.sum_cons]
    rcases List.mem_cons.1 h with h | h
    · rw [h]; omega
    · have := sum_le_of_mem f ys x h; omega
end Go.Proofs.YtejjlkbbnhpbdaaX
namespace Go.Proofs.YtejjlkbbnhpbdaaX
open Go.RowKit Go.Proofs.YtejjlkbbnhpbdaaW.PrintWords
set_option linter.unusedVariables false
set_option linter.unusedSimpArgs false
def symOk (c : Int) : Bool := (decide (97 ≤ c) && decide (c ≤ 122)) || (decide (48 ≤ c) && decide (c ≤ 57)) || c == 45
def symFrom (s : ByteArray) (i : Nat) : Bool := ((List.range s.size).drop i).all fun j => symOk (bt s j)
def goodSymB (s : ByteArray) : Bool := if s.size = 0 then false else if 20 < s.size then false else if bt s 0 < 97 then false else if 122 < bt s 0 then false else symFrom s 0
theorem symFrom_end (s : ByteArray) : symFrom s s.size = true := by
  unfold symFrom
  rw [List.drop_of_length_le (by simp)]
  rfl
theorem symFrom_step (s : ByteArray) (i : Nat) (h : i < s.size) : symFrom s i = (symOk (bt s i) && symFrom s (i + 1)) := by
  unfold symFrom
  rw [List.drop_eq_getElem_cons (by simpa using h), List.all_cons]
  simp
theorem high_rune (s : ByteArray) (pos : Nat) (h : pos < s.size) (hb : 128 ≤ (s[pos]'h).toNat) : 128 ≤ (Utf8.decode s pos).1 := by
  have hg : (s.get! (pos + 0)).toNat = (s[pos]'h).toNat := by
    rw [Nat.add_zero]
    show (s.data[pos]!).toNat = _
    rw [getElem!_pos s.data pos h]
    rfl
  unfold Utf8.decode
  simp only [hg]
  generalize (s[pos]'h).toNat = b at hb
  generalize (s.get! (pos + 1)).toNat = b1
  generalize (s.get! (pos + 2)).toNat = b2
  generalize (s.get! (pos + 3)).toNat = b3
  rw [if_neg (by omega)]
  repeat' split
  all_goals first | (simp only [Utf8.runeError]; omega) | (rename_i h1; simp only [Bool.and_eq_true, decide_eq_true_eq] at h1; simp only []; omega) | (simp only []; omega)
theorem sym_decode (s : ByteArray) (pos : Nat) (h : pos < s.size) : symOk ((Utf8.decode s pos).1 : Int) = symOk (bt s pos) ∧ (symOk (bt s pos) = true → (Utf8.decode s pos).2 = 1) := by
  have hb : bt s (pos : Int) = ((s[pos]'h).toNat : Int) := (bt_at s pos (by simpa using h)).symm
  by_cases c : (s[pos]'h).toNat < 128
  · rw [decode_ascii s pos h c, hb]
    exact ⟨rfl, fun _ => rfl⟩
  · have h1 := high_rune s pos h (by omega)
    have f1 : symOk ((Utf8.decode s pos).1 : Int) = false := by
      simp [symOk]; omega
    have f2 : symOk (bt s (pos : Int)) = false := by
      rw [hb]; simp [symOk]; omega
    rw [f1, f2]
    exact ⟨rfl, fun h => by cases h⟩
end Go.Proofs.YtejjlkbbnhpbdaaX
namespace Go.Proofs.Ytejjlkbbnhpbdaa.P
open Go.Proofs.YtejjlkbbnhpbdaaX
open Go.RowKit Go.Proofs.YtejjlkbbnhpbdaaW.PrintWords Go.Proofs.YtejjlkbbnhpbdaaW.PrintLast Go.Proofs.YtejjlkbbnhpbdaaW.PrintMore
attribute [local go_sem] max2_int min2_int max_two min_two max_three min_three max_four min_four
set_option linter.unusedVariables false
set_option linter.unusedSimpArgs false
open Go.Proofs.YtejjlkbbnhpbdaaX in
def impl_goodSym.f (a0 : ByteArray) : Option Bool := some (goodSymB a0)
open Go.Proofs.YtejjlkbbnhpbdaaX in
set_option maxHeartbeats 4000000 in
set_option maxRecDepth 100000 in
theorem impl_goodSym.calls (a0 : ByteArray) (r : Bool) (w : World) (h : impl_goodSym.f a0 = some r) :
  Calls Try.prog 32 #[.string a0] w fun e w' => e = .returned (.bool r) ∧ Below w.heap.size w w' := by
 have h := Option.some.inj h; subst h; have HB := a_ (Below.refl w.heap.size w); by_cases h1 : a0.size = 0
 ·have hv : goodSymB a0 = false := by unfold goodSymB; rw [if_pos h1]
  rw [hv]; have q1 : a0.toList = [] := by rw [ByteArray.toList_eq]; exact List.eq_nil_of_length_eq_zero (by rw [Array.length_toList]; exact h1)
  clear h1 hv; go_enter Try.func32, Try.ntmps32; go_wp2; go_ret; exact ⟨rfl, HB.out⟩
 have hz : 0 < a0.size := by omega
 have hzz : ¬ (a0.toList = []) := by
  intro e; rw [ByteArray.toList_eq] at e; have := congrArg List.length e
  rw [Array.length_toList] at this; exact h1 this
 have q1 : (a0.toList.isEmpty) = false := by simpa using hzz
 have hbt : ∀ h : 0 < a0.size, ((a0[0]'h).toNat : Int) = bt a0 0 := bt_at a0 0
 by_cases h2 : 20 < a0.size
 ·have hv : goodSymB a0 = false := by unfold goodSymB; rw [if_neg h1, if_pos h2]
  rw [hv]; have q2 : decide (20 < (a0.size : Int)) = true := decide_eq_true (by omega)
  clear h1 h2 hv; go_enter Try.func32, Try.ntmps32; go_wp2; go_ret; exact ⟨rfl, HB.out⟩
 have q2 : decide (20 < (a0.size : Int)) = false := decide_eq_false (by omega)
 by_cases h3 : bt a0 0 < 97
 ·have hv : goodSymB a0 = false := by unfold goodSymB; rw [if_neg h1, if_neg h2, if_pos h3]
  rw [hv]; have q3 : decide (bt a0 0 < 97) = true := decide_eq_true h3
  clear h1 h2 h3 hv; go_enter Try.func32, Try.ntmps32; go_wp2; go_ret; exact ⟨rfl, HB.out⟩
 have q3 : decide (bt a0 0 < 97) = false := decide_eq_false h3
 by_cases h4 : 122 < bt a0 0
 ·have hv : goodSymB a0 = false := by unfold goodSymB; rw [if_neg h1, if_neg h2, if_neg h3, if_pos h4]
  rw [hv]; have q4 : decide (122 < bt a0 0) = true := decide_eq_true h4
  clear h1 h2 h3 h4 hv; go_enter Try.func32, Try.ntmps32; go_wp2; go_ret; exact ⟨rfl, HB.out⟩
 have q4 : decide (122 < bt a0 0) = false := decide_eq_false h4
 have hv : goodSymB a0 = symFrom a0 0 := by unfold goodSymB; rw [if_neg h1, if_neg h2, if_neg h3, if_neg h4]
 rw [hv]; have HS := a_ (show a0.size ≤ 20 by omega); clear h1 h2 h3 h4 hv; go_enter Try.func32, Try.ntmps32; go_wp2; clear q1 q2 q3 q4 hzz hbt; go_loopw [4] (fun _ wr => ∃ pos : Nat, wr.heap[w.heap.size]? = some (.stringIter a0 pos) ∧ Aside0 (pos ≤ a0.size) ∧ Aside0 (Below w.heap.size w wr) ∧ Aside0 (symFrom a0 0 = symFrom a0 pos)) (fun _ wr => a0.size - wr.iterPos w.heap.size)
 case atStart => exact ⟨0, World.iter_heap w a0 0, ⟨Nat.zero_le _⟩, ⟨(Below.refl _ _).alloc (Nat.le_refl _) _⟩, ⟨rfl⟩⟩
 obtain ⟨pos, hit, hle, BW, MI⟩ := hrel; have hpos0 : wr.iterPos w.heap.size = pos := by simp [World.iterPos, hit]
 by_cases hp : pos < a0.size
 ·have hnx : ∀ ty, (Instr.next (.pointer (some ⟨w.heap.size, 0, none⟩)) true ty).run Try.prog wr = _ := fun ty => Lib.run_next_any_at wr w.heap.size a0 pos ty hit hp
  have hit2 := Lib.iterAt_heap wr w.heap.size a0 pos (pos + (Utf8.decode a0 pos).2) hit; have hbw2 := a_ (Lib.below_iterAt BW.out (k := w.heap.size) (Nat.le_refl _) a0 (pos + (Utf8.decode a0 pos).2)); obtain ⟨W1, hW1⟩ : ∃ W1, W1 = wr.iterAt w.heap.size a0 (pos + (Utf8.decode a0 pos).2) := ⟨_, rfl⟩; rw [← hW1] at hnx hit2 hbw2; have hsy := a_ (sym_decode a0 pos hp); have hst := a_ (symFrom_step a0 pos hp); have hlo : (0 : Int) ≤ ((Utf8.decode a0 pos).1 : Int) := by omega
  have hhi : ((Utf8.decode a0 pos).1 : Int) ≤ 1114111 := by have := Lib.rune_le a0 pos; omega
  have hp' := a_ hp; have hpos := a_ hpos0; clear hW1 hit hp hpos0; generalize hc : ((Utf8.decode a0 pos).1 : Int) = c at hnx hlo hhi hsy; clear hc; by_cases g1 : 97 ≤ c ∧ c ≤ 122
  ·obtain ⟨g1, g2⟩ := g1; have k0 : decide (97 ≤ c) = true := decide_eq_true (by omega)
   have k1 : decide (c ≤ 122) = true := decide_eq_true (by omega)
   have ok : symOk c = true := by simp [symOk]; omega
   have HO := a_ ok; clear ok; go_wp2; go_roundw
   case rel =>
    have e1 := hsy.out; rw [HO.out] at e1; have e2 := e1.2 e1.1.symm; refine ⟨pos + 1, by rw [← e2]; exact hit2, ⟨by have := hp'.out; omega⟩, hbw2, ⟨?_⟩⟩; rw [MI.out, hst.out, ← e1.1]; rfl
   case measure =>
    have e1 := hsy.out; rw [HO.out] at e1; have e2 := e1.2 e1.1.symm; have e3 : W1.iterPos w.heap.size = pos + (Utf8.decode a0 pos).2 := by simp [World.iterPos, hit2]
    have := hp'.out
    have := hpos.out
    omega
  have a1 : (decide (97 ≤ c) = true ∧ decide (c ≤ 122) = false) ∨ decide (97 ≤ c) = false := by
   by_cases e1 : 97 ≤ c
   ·exact .inl ⟨decide_eq_true e1, decide_eq_false (by omega)⟩
   ·exact .inr (decide_eq_false e1)
  by_cases g3 : 48 ≤ c ∧ c ≤ 57
  ·obtain ⟨g3, g4⟩ := g3; clear a1; have k0 : decide (97 ≤ c) = false := decide_eq_false (by omega)
   have k1 : decide (48 ≤ c) = true := decide_eq_true (by omega)
   have k2 : decide (c ≤ 57) = true := decide_eq_true (by omega)
   have ok : symOk c = true := by simp [symOk]; omega
   have HO := a_ ok; clear ok; go_wp2; go_roundw
   case rel =>
    have e1 := hsy.out; rw [HO.out] at e1; have e2 := e1.2 e1.1.symm; refine ⟨pos + 1, by rw [← e2]; exact hit2, ⟨by have := hp'.out; omega⟩, hbw2, ⟨?_⟩⟩; rw [MI.out, hst.out, ← e1.1]; rfl
   case measure =>
    have e1 := hsy.out; rw [HO.out] at e1; have e2 := e1.2 e1.1.symm; have e3 : W1.iterPos w.heap.size = pos + (Utf8.decode a0 pos).2 := by simp [World.iterPos, hit2]
    have := hp'.out
    have := hpos.out
    omega
  by_cases g5 : c = 45
  ·subst g5; clear a1; have k0 : decide ((97 : Int) ≤ 45) = false := decide_eq_false (by omega)
   have k1 : decide ((48 : Int) ≤ 45) = false := decide_eq_false (by omega)
   have ok : symOk 45 = true := by rfl
   have HO := a_ ok; clear ok; go_wp2; go_roundw
   case rel =>
    have e1 := hsy.out; rw [HO.out] at e1; have e2 := e1.2 e1.1.symm; refine ⟨pos + 1, by rw [← e2]; exact hit2, ⟨by have := hp'.out; omega⟩, hbw2, ⟨?_⟩⟩; rw [MI.out, hst.out, ← e1.1]; rfl
   case measure =>
    have e1 := hsy.out; rw [HO.out] at e1; have e2 := e1.2 e1.1.symm; have e3 : W1.iterPos w.heap.size = pos + (Utf8.decode a0 pos).2 := by simp [World.iterPos, hit2]
    have := hp'.out
    have := hpos.out
    omega
  have k5 : (c == 45) = false := beq_eq_false_iff_ne.mpr g5
  have a2 : (decide (48 ≤ c) = true ∧ decide (c ≤ 57) = false) ∨ decide (48 ≤ c) = false := by
   by_cases e1 : 48 ≤ c
   ·exact .inl ⟨decide_eq_true e1, decide_eq_false (by omega)⟩
   ·exact .inr (decide_eq_false e1)
  rcases a1 with ⟨k0, k1⟩ | k0 <;> rcases a2 with ⟨k2, k3⟩ | k2
  all_goals
   have ok : symOk c = false := by simp [symOk]; omega
   have HO := a_ ok; clear ok; go_wp2; go_ret; refine ⟨?_, hbw2.out⟩; have e1 := hsy.out.1; rw [HO.out] at e1; rw [MI.out, hst.out, ← e1]; rfl
 ·have e : pos = a0.size := by have := hle.out; omega
  have hnx : ∀ ty, (Instr.next (.pointer (some ⟨w.heap.size, 0, none⟩)) true ty).run Try.prog wr = _ := fun ty => Lib.run_next_end_at wr w.heap.size a0 pos ty hit hp
  have HE := a_ e; clear e hpos0 hp; go_wp2; go_ret; refine ⟨?_, BW.out⟩; rw [MI.out, HE.out, symFrom_end]; rfl
end Go.Proofs.Ytejjlkbbnhpbdaa.P
namespace Go.Proofs.Ytejjlkbbnhpbdaa.P
open Go.Proofs.YtejjlkbbnhpbdaaX
open Go.RowKit Go.Proofs.YtejjlkbbnhpbdaaW.PrintWords Go.Proofs.YtejjlkbbnhpbdaaW.PrintLast Go.Proofs.YtejjlkbbnhpbdaaW.PrintMore
attribute [local go_sem] max2_int min2_int max_two min_two max_three min_three max_four min_four
set_option linter.unusedVariables false
set_option linter.unusedSimpArgs false
def impl_goodCls.f (a0 : ByteArray) : Option (Bool) := (impl_goodSym.f a0).bind fun t312 => (if t312 = true then (some (a0.toList != ([110, 111, 116] : List UInt8))) else (some false))
set_option maxHeartbeats 8000000 in
set_option maxRecDepth 100000 in
theorem impl_goodCls.calls (a0 : ByteArray) (r : Bool) (w : World) (h : impl_goodCls.f a0 = some r) :
  Calls Try.prog 51 #[.string a0] w fun e w' => e = .returned (.bool r) ∧ Below w.heap.size w w' := by
 have HB := a_ (Below.refl w.heap.size w); have H : ((impl_goodSym.f a0).bind fun t312 => (if t312 = true then (some (a0.toList != ([110, 111, 116] : List UInt8))) else (some false))) = some r := h
 clear h; replace H := Option.bind_eq_some_iff.mp H; obtain ⟨t312, A20, H⟩ := H; have A2 := a_ A20; clear A20; by_cases c3 : t312 = true
 ·subst c3; rw [if_pos rfl] at H; obtain rfl := Option.some.inj H; go_enter Try.func51, Try.ntmps51; go_wp2_with (first | ((with_reducible refine gate_callee (f := 32) rfl ?_); refine goesL_ (some 4) rfl rfl Try.func32 (by kernel_rfl) rfl #[.string a0] rfl mw_ ?_; (with_reducible refine (impl_goodSym.calls a0 true _ A2.out).mono ?_); rintro e w4 ⟨rfl, hb⟩; refine ⟨_, rfl, ?_⟩; replace HB := ms_ HB hb; (try clear hb); (try clear hb2); (try clear hk); (try clear hi))); go_ret; exact ⟨me_, mb_ HB⟩
 ·replace c3 := Bool.eq_false_iff.mpr c3; subst c3; rw [if_neg (show ¬ (false = true) by decide)] at H; obtain rfl := Option.some.inj H; go_enter Try.func51, Try.ntmps51; go_wp2_with (first | ((with_reducible refine gate_callee (f := 32) rfl ?_); refine goesL_ (some 4) rfl rfl Try.func32 (by kernel_rfl) rfl #[.string a0] rfl mw_ ?_; (with_reducible refine (impl_goodSym.calls a0 false _ A2.out).mono ?_); rintro e w5 ⟨rfl, hb⟩; refine ⟨_, rfl, ?_⟩; replace HB := ms_ HB hb; (try clear hb); (try clear hb2); (try clear hk); (try clear hi))); go_ret; exact ⟨me_, mb_ HB⟩
end Go.Proofs.Ytejjlkbbnhpbdaa.P
namespace Go.Proofs.Ytejjlkbbnhpbdaa.P
open Go.Proofs.YtejjlkbbnhpbdaaX
open Go.RowKit Go.Proofs.YtejjlkbbnhpbdaaW.PrintWords Go.Proofs.YtejjlkbbnhpbdaaW.PrintLast Go.Proofs.YtejjlkbbnhpbdaaW.PrintMore
attribute [local go_sem] max2_int min2_int max_two min_two max_three min_three max_four min_four
set_option linter.unusedVariables false
set_option linter.unusedSimpArgs false
open Go.Proofs.YtejjlkbbnhpbdaaX in
def encTerm (x : S68) : Value := .agg #[.int .i64 (x).f0, .int .i64 (x).f1, .string (x).f2, .int .i64 (x).f3.f0, .int .i64 (x).f3.f1, .string (x).f3.f2]
open Go.Proofs.YtejjlkbbnhpbdaaX in
set_option maxHeartbeats 2000000 in
set_option maxRecDepth 100000 in
theorem idxTerm.calls (g : Nat) (lb : Array Value) (eg : ∀ args w, (callFunc g args).run Try.prog w = .ok (.enter g args) w) (p : S68 → Bool) (A : Option Addr) (c : Nat) (xs : List S68) (w : World)
  (hr : Kd.C k68 w A xs.length xs) (hc : xs.length ≤ c) (hm : xs.length ≤ bigN) (hp : PredB Try.prog g lb encTerm p xs w) :
  Calls Try.prog 66 #[.slice A xs.length c, .func (.func g) #[] lb] w fun e w' => e = .returned (.int .i64 (idxB p xs)) ∧ Below w.heap.size w w' := by
 have hm := le_of_bigN hm; have HR0 := a_ hr; have HC0 := a_ hc; have HP := a_ hp; clear hr hc hp; go_enter Try.func66, Try.ntmps66; go_wp2; go_loopg [5, 8] xs.length (fun gg _ s8 wr => ∃ kk : Nat, kk ≤ xs.length ∧ xs.length - kk ≤ gg ∧ s8 = .int .i64 kk ∧ Aside0 (Below w.heap.size w wr) ∧ Aside0 (∀ j, j < kk → p (xs.getD j z68) = false))
 case atStart => exact ⟨0, Nat.zero_le _, by omega, rfl, ⟨Below.refl _ w⟩, ⟨fun j hj => absurd hj (Nat.not_lt_zero _)⟩⟩
 obtain ⟨kk, hkk, hg, rfl, BW, MI⟩ := hrel; by_cases hlt : kk < xs.length
 ·have hltz : (kk : Int) < (xs.length : Int) := by omega
  obtain ⟨ad, e0, hx0, hx1, hx2, hx3, hx4, hx5⟩ := at_T68 HR0.out (kk : Int) (by omega) hltz; cases e0; replace hx0 := (BW.out.cell (World.block_lt_of_cell? w _ hx0)).trans hx0; replace hx1 := (BW.out.cell (World.block_lt_of_cell? w _ hx1)).trans hx1; replace hx2 := (BW.out.cell (World.block_lt_of_cell? w _ hx2)).trans hx2; replace hx3 := (BW.out.cell (World.block_lt_of_cell? w _ hx3)).trans hx3; replace hx4 := (BW.out.cell (World.block_lt_of_cell? w _ hx4)).trans hx4; replace hx5 := (BW.out.cell (World.block_lt_of_cell? w _ hx5)).trans hx5; have hrd : rd_T68 xs (kk : Int) = xs.getD kk z68 := by simp [rd_T68]
  have hcall := HP.out wr (xs.getD kk z68) (getD_mem hlt) BW.out; rw [hrd] at hx0 hx1 hx2 hx3 hx4 hx5; simp only [Int.toNat_natCast] at hx0 hx1 hx2 hx3 hx4 hx5; have HL := a_ hlt; clear hrd; generalize hy : xs.getD kk z68 = y at hx0 hx1 hx2 hx3 hx4 hx5 hcall; have HY := a_ hy; clear hy; simp only [encTerm] at hcall; cases hq : p y with
  | true =>
   rw [hq] at hcall; have HQ := a_ hq; have HH := a_ hcall; clear hq hcall; go_wp2_with (go_at_fn g; refine HH.out.mono ?_; rintro e w' ⟨rfl, hb'⟩); go_ret; refine ⟨?_, below_then BW.out BW.out.size hb'⟩; rw [idxB_hit p xs kk z68 HL.out (by rw [HY.out]; exact HQ.out) MI.out]; rfl
  | false =>
   rw [hq] at hcall; have HQ := a_ hq; have HH := a_ hcall; clear hq hcall; go_wp2_with (go_at_fn g; refine HH.out.mono ?_; rintro e w' ⟨rfl, hb'⟩); go_roundg (xs.length - (kk + 1))
   case measure => omega
   case rel =>
    refine ⟨kk + 1, by omega, by omega, by go_num, ⟨below_then BW.out BW.out.size hb'⟩, ⟨fun j hj => ?_⟩⟩; by_cases e : j = kk
    ·subst e; rw [HY.out]; exact HQ.out
    ·exact MI.out j (by omega)
 ·have hltz : ¬ (kk : Int) < (xs.length : Int) := by omega
  have hk : kk = xs.length := by omega
  have HK := a_ hk; clear hk; go_wp2; go_ret; refine ⟨?_, BW.out⟩
  have hmiss : ∀ x, x ∈ xs → p x = false := by
   intro x hx; obtain ⟨j, hj, e⟩ := List.getElem_of_mem hx; have := MI.out j (by have := HK.out; omega)
   rw [List.getD_eq_getElem?_getD, List.getElem?_eq_getElem hj] at this; rw [← e]; exact this
  rw [idxB_miss p xs hmiss]; rfl
end Go.Proofs.Ytejjlkbbnhpbdaa.P
namespace Go.Proofs.Ytejjlkbbnhpbdaa.P
open Go.Proofs.YtejjlkbbnhpbdaaX
open Go.RowKit Go.Proofs.YtejjlkbbnhpbdaaW.PrintWords Go.Proofs.YtejjlkbbnhpbdaaW.PrintLast Go.Proofs.YtejjlkbbnhpbdaaW.PrintMore
attribute [local go_sem] max2_int min2_int max_two min_two max_three min_three max_four min_four
set_option linter.unusedVariables false
set_option linter.unusedSimpArgs false
open Go.Proofs.YtejjlkbbnhpbdaaX in
set_option maxHeartbeats 2000000 in
set_option maxRecDepth 100000 in
theorem containsTerm.calls (g : Nat) (lb : Array Value) (eg : ∀ args w, (callFunc g args).run Try.prog w = .ok (.enter g args) w) (p : S68 → Bool) (A : Option Addr) (c : Nat) (xs : List S68) (w : World)
  (hr : Kd.C k68 w A xs.length xs) (hc : xs.length ≤ c) (hm : xs.length ≤ bigN) (hp : PredB Try.prog g lb encTerm p xs w) :
  Calls Try.prog 52 #[.slice A xs.length c, .func (.func g) #[] lb] w fun e w' => e = .returned (.bool (xs.any p)) ∧ Below w.heap.size w w' := by
 have hcall := idxTerm.calls g lb eg p A c xs w hr hc hm hp; rw [← idxB_any]; have HH := a_ hcall; clear hcall hr hc hm hp; go_enter Try.func52, Try.ntmps52; go_wp2_with (go_at_call 66; refine HH.out.mono ?_; rintro e w' ⟨rfl, hb'⟩); go_ret; exact ⟨rfl, hb'⟩
end Go.Proofs.Ytejjlkbbnhpbdaa.P
namespace Go.Proofs.Ytejjlkbbnhpbdaa.P
open Go.Proofs.YtejjlkbbnhpbdaaX
open Go.RowKit Go.Proofs.YtejjlkbbnhpbdaaW.PrintWords Go.Proofs.YtejjlkbbnhpbdaaW.PrintLast Go.Proofs.YtejjlkbbnhpbdaaW.PrintMore
attribute [local go_sem] max2_int min2_int max_two min_two max_three min_three max_four min_four
set_option linter.unusedVariables false
set_option linter.unusedSimpArgs false
def impl_Value_good.f (a0_0 : Int) (a0_1 : Int) (a0_2 : ByteArray) : Option (Bool) := if a0_0 = 0 then (some (a0_2.toList == ([] : List UInt8))) else (if a0_0 = 1 then (if a0_1 = 0 then ((impl_goodSym.f a0_2).bind fun t314 => (some t314)) else (some false)) else (some false))
set_option maxHeartbeats 8000000 in
set_option maxRecDepth 100000 in
theorem impl_Value_good.calls (a0_0 : Int) (a0_1 : Int) (a0_2 : ByteArray) (r : Bool) (w : World) (h : impl_Value_good.f a0_0 a0_1 a0_2 = some r) :
  Calls Try.prog 55 #[.agg #[.int .i64 a0_0, .int .i64 a0_1, .string a0_2]] w fun e w' => e = .returned (.bool r) ∧ Below w.heap.size w w' := by
 have hu66 := Try.underlying66; have HB := a_ (Below.refl w.heap.size w); have H : (if a0_0 = 0 then (some (a0_2.toList == ([] : List UInt8))) else (if a0_0 = 1 then (if a0_1 = 0 then ((impl_goodSym.f a0_2).bind fun t314 => (some t314)) else (some false)) else (some false))) = some r := h
 clear h; by_cases c2 : a0_0 = 0
 ·rw [if_pos c2] at H; have c2b0 := beq_iff_eq.mpr c2; have c2b1 := bne_eq_false_iff_eq.mpr c2; clear c2; obtain rfl := Option.some.inj H; go_enter Try.func55, Try.ntmps55; go_wp2_with (first | ((with_reducible refine gate_dst (N := 1) rfl ?_); refine bx_ 1 #[.int .i64 a0_0, .int .i64 a0_1, .string a0_2] 66 ?_; intro gb313 hg w3 hbox hb; have BK313 := a_ (hbox); have GE313 := mg_ HB hg; replace HB := ms_ HB hb; clear hb hbox hg; obtain ⟨z4_0, z4_1, z4_2, zf4_0, zf4_1, zf4_2⟩ := cz3 BK313)); go_ret; exact ⟨me_, mb_ HB⟩
 ·rw [if_neg c2] at H; have c2b0 := beq_eq_false_iff_ne.mpr c2; have c2b1 := bne_iff_ne.mpr c2; by_cases c5 : a0_0 = 1
  ·rw [if_pos c5] at H; have c5b0 := beq_iff_eq.mpr c5; have c5b1 := bne_eq_false_iff_eq.mpr c5; clear c5; by_cases c6 : a0_1 = 0
   ·rw [if_pos c6] at H; have c6b0 := beq_iff_eq.mpr c6; have c6b1 := bne_eq_false_iff_eq.mpr c6; clear c6; replace H := Option.bind_eq_some_iff.mp H; obtain ⟨t314, A70, H⟩ := H; have A7 := a_ A70; clear A70; obtain rfl := Option.some.inj H; go_enter Try.func55, Try.ntmps55; go_wp2_with (first | ((with_reducible refine gate_dst (N := 1) rfl ?_); refine bx_ 1 #[.int .i64 a0_0, .int .i64 a0_1, .string a0_2] 66 ?_; intro gb313 hg w8 hbox hb; have BK313 := a_ (hbox); have GE313 := mg_ HB hg; replace HB := ms_ HB hb; clear hb hbox hg; obtain ⟨z9_0, z9_1, z9_2, zf9_0, zf9_1, zf9_2⟩ := cz3 BK313) | (go_at_call 32; (with_reducible refine (impl_goodSym.calls a0_2 t314 _ A7.out).mono ?_); rintro e w10 ⟨rfl, hb⟩; replace BK313 := mk_ BK313 hb; replace HB := ms_ HB hb; (try clear hb); (try clear hb2); (try clear hk); (try clear hi))); go_ret; exact ⟨me_, mb_ HB⟩
   ·rw [if_neg c6] at H; have c6b0 := beq_eq_false_iff_ne.mpr c6; have c6b1 := bne_iff_ne.mpr c6; obtain rfl := Option.some.inj H; go_enter Try.func55, Try.ntmps55; go_wp2_with (first | ((with_reducible refine gate_dst (N := 1) rfl ?_); refine bx_ 1 #[.int .i64 a0_0, .int .i64 a0_1, .string a0_2] 66 ?_; intro gb313 hg w11 hbox hb; have BK313 := a_ (hbox); have GE313 := mg_ HB hg; replace HB := ms_ HB hb; clear hb hbox hg; obtain ⟨z12_0, z12_1, z12_2, zf12_0, zf12_1, zf12_2⟩ := cz3 BK313)); go_ret; exact ⟨me_, mb_ HB⟩
  ·rw [if_neg c5] at H; have c5b0 := beq_eq_false_iff_ne.mpr c5; have c5b1 := bne_iff_ne.mpr c5; obtain rfl := Option.some.inj H; go_enter Try.func55, Try.ntmps55; go_wp2_with (first | ((with_reducible refine gate_dst (N := 1) rfl ?_); refine bx_ 1 #[.int .i64 a0_0, .int .i64 a0_1, .string a0_2] 66 ?_; intro gb313 hg w13 hbox hb; have BK313 := a_ (hbox); have GE313 := mg_ HB hg; replace HB := ms_ HB hb; clear hb hbox hg; obtain ⟨z14_0, z14_1, z14_2, zf14_0, zf14_1, zf14_2⟩ := cz3 BK313)); go_ret; exact ⟨me_, mb_ HB⟩
end Go.Proofs.Ytejjlkbbnhpbdaa.P
namespace Go.Proofs.Ytejjlkbbnhpbdaa.P
open Go.Proofs.YtejjlkbbnhpbdaaX
open Go.RowKit Go.Proofs.YtejjlkbbnhpbdaaW.PrintWords Go.Proofs.YtejjlkbbnhpbdaaW.PrintLast Go.Proofs.YtejjlkbbnhpbdaaW.PrintMore
attribute [local go_sem] max2_int min2_int max_two min_two max_three min_three max_four min_four
set_option linter.unusedVariables false
set_option linter.unusedSimpArgs false
def goodValueB (v : S66) : Bool := (impl_Value_good.f v.f0 v.f1 v.f2).getD false
theorem goodValueB_some (v : S66) : impl_Value_good.f v.f0 v.f1 v.f2 = some (goodValueB v) := by
 unfold goodValueB
 have : ∃ r, impl_Value_good.f v.f0 v.f1 v.f2 = some r := by
  unfold impl_Value_good.f
  simp only [impl_goodSym.f, Option.bind_some]; repeat' split
  all_goals exact ⟨_, rfl⟩
 obtain ⟨r, hr⟩ := this; rw [hr]; rfl
open Go.Proofs.YtejjlkbbnhpbdaaX
def zeroValB (v : S66) : Bool := v.f0 == 0 && (v.f1 == 0 && v.f2.toList.isEmpty)
def goodTermB (t : S68) : Bool :=
 if t.f0 = 0 then t.f1 == 0 && (t.f2.toList.isEmpty && zeroValB t.f3)
 else if t.f0 = 1 then (t.f1 == 0 && t.f2.toList.isEmpty) && goodValueB t.f3
 else if t.f0 = 2 then (t.f1 == 0 && zeroValB t.f3) && goodSymB t.f2
 else if t.f0 = 3 then if t.f1 < 1 then false else if 6 < t.f1 then false else if t.f2.toList.isEmpty then goodValueB t.f3 else goodSymB t.f2 && zeroValB t.f3
 else false
def impl_Term_good.f (a0_0 a0_1 : Int) (a0_2 : ByteArray) (a0_3 a0_4 : Int) (a0_5 : ByteArray) : Option Bool := some (goodTermB ⟨a0_0, a0_1, a0_2, ⟨a0_3, a0_4, a0_5⟩⟩)
theorem ne_tf {x y : Int} (h : x ≠ y) : (x == y) = false := beq_eq_false_iff_ne.mpr h
set_option maxHeartbeats 8000000 in
set_option maxRecDepth 100000 in
theorem impl_Term_good.calls (a0_0 a0_1 : Int) (a0_2 : ByteArray) (a0_3 a0_4 : Int) (a0_5 : ByteArray) (r : Bool) (w : World) (h : impl_Term_good.f a0_0 a0_1 a0_2 a0_3 a0_4 a0_5 = some r) :
  Calls Try.prog 54 #[.agg #[.int .i64 a0_0, .int .i64 a0_1, .string a0_2, .int .i64 a0_3, .int .i64 a0_4, .string a0_5]] w fun e w' => e = .returned (.bool r) ∧ Below w.heap.size w w' := by
 have h := Option.some.inj h; subst h; have hu := Try.underlying68; have hu1 := Try.underlying66; have HB := a_ (Below.refl w.heap.size w); have HV := a_ (goodValueB_some ⟨a0_3, a0_4, a0_5⟩); have HS : Aside0 (impl_goodSym.f a0_2 = some (goodSymB a0_2)) := ⟨rfl⟩
 by_cases k0 : a0_0 = 0
 ·subst k0; rw [show goodTermB _ = (a0_1 == 0 && (a0_2.toList.isEmpty && (a0_3 == 0 && (a0_4 == 0 && a0_5.toList.isEmpty)))) by simp [goodTermB, zeroValB]]; go_enter Try.func54, Try.ntmps54; go_wp2; all_goals go_ret
  all_goals exact ⟨by first | rfl | (simp; done) | (simp [*]; done) | (simp_all; done), by repeat (first | exact HB.out | apply below_drew | apply below_alloc)⟩
 have q0 := ne_tf k0; by_cases k1 : a0_0 = 1
 ·subst k1; by_cases e1 : a0_1 = 0
  ·subst e1; cases e2 : a0_2.toList.isEmpty with
   | true =>
    rw [show goodTermB _ = goodValueB ⟨a0_3, a0_4, a0_5⟩ by simp [goodTermB, e2]]; go_enter Try.func54, Try.ntmps54; go_wp2_with (go_at_call 55; refine (impl_Value_good.calls _ _ _ _ _ HV.out).mono ?_; rintro e w' ⟨rfl, hd⟩); all_goals go_ret
    all_goals exact ⟨by first | rfl | (simp; done) | (simp [*]; done) | (simp_all; done), Below.trans (by repeat (first | exact HB.out | apply below_drew | apply below_alloc)) (hd.mono (by simp; omega))⟩
   | false =>
    rw [show goodTermB _ = false by simp [goodTermB, e2]]; go_enter Try.func54, Try.ntmps54; go_wp2; all_goals go_ret
    all_goals exact ⟨by first | rfl | (simp; done) | (simp [*]; done) | (simp_all; done), by repeat (first | exact HB.out | apply below_drew | apply below_alloc)⟩
  ·have p1 := ne_tf e1; rw [show goodTermB _ = false by simp [goodTermB, e1]]; go_enter Try.func54, Try.ntmps54; go_wp2; all_goals go_ret
   all_goals exact ⟨by first | rfl | (simp; done) | (simp [*]; done) | (simp_all; done), by repeat (first | exact HB.out | apply below_drew | apply below_alloc)⟩
 have q1 := ne_tf k1; by_cases k2 : a0_0 = 2
 ·subst k2; by_cases e1 : a0_1 = 0
  ·subst e1; by_cases e3 : a0_3 = 0
   ·subst e3; by_cases e4 : a0_4 = 0
    ·subst e4; cases e5 : a0_5.toList.isEmpty with
     | true =>
      rw [show goodTermB _ = goodSymB a0_2 by simp [goodTermB, zeroValB, e5]]; go_enter Try.func54, Try.ntmps54; go_wp2_with (go_at_call 32; refine (impl_goodSym.calls _ _ _ HS.out).mono ?_; rintro e w' ⟨rfl, hd⟩); all_goals go_ret
      all_goals exact ⟨by first | rfl | (simp; done) | (simp [*]; done) | (simp_all; done), Below.trans (by repeat (first | exact HB.out | apply below_drew | apply below_alloc)) (hd.mono (by simp; omega))⟩
     | false =>
      rw [show goodTermB _ = false by simp [goodTermB, zeroValB, e5]]; go_enter Try.func54, Try.ntmps54; go_wp2; all_goals go_ret
      all_goals exact ⟨by first | rfl | (simp; done) | (simp [*]; done) | (simp_all; done), by repeat (first | exact HB.out | apply below_drew | apply below_alloc)⟩
    ·have p4 := ne_tf e4; rw [show goodTermB _ = false by simp [goodTermB, zeroValB, e4]]; go_enter Try.func54, Try.ntmps54; go_wp2; all_goals go_ret
     all_goals exact ⟨by first | rfl | (simp; done) | (simp [*]; done) | (simp_all; done), by repeat (first | exact HB.out | apply below_drew | apply below_alloc)⟩
   ·have p3 := ne_tf e3; rw [show goodTermB _ = false by simp [goodTermB, zeroValB, e3]]; go_enter Try.func54, Try.ntmps54; go_wp2; all_goals go_ret
    all_goals exact ⟨by first | rfl | (simp; done) | (simp [*]; done) | (simp_all; done), by repeat (first | exact HB.out | apply below_drew | apply below_alloc)⟩
  ·have p1 := ne_tf e1; rw [show goodTermB _ = false by simp [goodTermB, zeroValB, e1]]; go_enter Try.func54, Try.ntmps54; go_wp2; all_goals go_ret
   all_goals exact ⟨by first | rfl | (simp; done) | (simp [*]; done) | (simp_all; done), by repeat (first | exact HB.out | apply below_drew | apply below_alloc)⟩
 have q2 := ne_tf k2; by_cases k3 : a0_0 = 3
 ·subst k3; by_cases e1 : a0_1 < 1
  ·have p1 : decide (a0_1 < 1) = true := decide_eq_true e1
   rw [show goodTermB _ = false by simp [goodTermB, e1]]; go_enter Try.func54, Try.ntmps54; go_wp2; all_goals go_ret
   all_goals exact ⟨by first | rfl | (simp; done) | (simp [*]; done) | (simp_all; done), by repeat (first | exact HB.out | apply below_drew | apply below_alloc)⟩
  have p1 : decide (a0_1 < 1) = false := decide_eq_false e1
  by_cases e2 : 6 < a0_1
  ·have p2 : decide (6 < a0_1) = true := decide_eq_true e2
   rw [show goodTermB _ = false by simp [goodTermB, e1, e2]]; go_enter Try.func54, Try.ntmps54; go_wp2; all_goals go_ret
   all_goals exact ⟨by first | rfl | (simp; done) | (simp [*]; done) | (simp_all; done), by repeat (first | exact HB.out | apply below_drew | apply below_alloc)⟩
  have p2 : decide (6 < a0_1) = false := decide_eq_false e2
  cases e3 : a0_2.toList.isEmpty with
  | true =>
   rw [show goodTermB _ = goodValueB ⟨a0_3, a0_4, a0_5⟩ by simp [goodTermB, e1, e2, e3]]; go_enter Try.func54, Try.ntmps54; go_wp2_with (go_at_call 55; refine (impl_Value_good.calls _ _ _ _ _ HV.out).mono ?_; rintro e w' ⟨rfl, hd⟩); all_goals go_ret
   all_goals exact ⟨by first | rfl | (simp; done) | (simp [*]; done) | (simp_all; done), Below.trans (by repeat (first | exact HB.out | apply below_drew | apply below_alloc)) (hd.mono (by simp; omega))⟩
  | false =>
   cases e4 : goodSymB a0_2 with
   | true =>
    rw [e4] at HS; rw [show goodTermB _ = (a0_3 == 0 && (a0_4 == 0 && a0_5.toList.isEmpty)) by simp [goodTermB, zeroValB, e1, e2, e3, e4]]; go_enter Try.func54, Try.ntmps54; go_wp2_with (go_at_call 32; refine (impl_goodSym.calls _ _ _ HS.out).mono ?_; rintro e w' ⟨rfl, hd⟩; obtain ⟨hc1, hf1⟩ := cellsBelow hd rfl); all_goals go_ret
    all_goals exact ⟨by first | rfl | (simp; done) | (simp [*]; done) | (simp_all; done), Below.trans (by repeat (first | exact HB.out | apply below_drew | apply below_alloc)) (hd.mono (by simp; omega))⟩
   | false =>
    rw [e4] at HS; rw [show goodTermB _ = false by simp [goodTermB, e1, e2, e3, e4]]; go_enter Try.func54, Try.ntmps54; go_wp2_with (go_at_call 32; refine (impl_goodSym.calls _ _ _ HS.out).mono ?_; rintro e w' ⟨rfl, hd⟩); all_goals go_ret
    all_goals exact ⟨by first | rfl | (simp; done) | (simp [*]; done) | (simp_all; done), Below.trans (by repeat (first | exact HB.out | apply below_drew | apply below_alloc)) (hd.mono (by simp; omega))⟩
 have q3 := ne_tf k3; rw [show goodTermB _ = false by simp [goodTermB, k0, k1, k2, k3]]; go_enter Try.func54, Try.ntmps54; go_wp2; all_goals go_ret
 all_goals exact ⟨by first | rfl | (simp; done) | (simp [*]; done) | (simp_all; done), by repeat (first | exact HB.out | apply below_drew | apply below_alloc)⟩
end Go.Proofs.Ytejjlkbbnhpbdaa.P
namespace Go.Proofs.Ytejjlkbbnhpbdaa.P
open Go.Proofs.YtejjlkbbnhpbdaaX
open Go.RowKit Go.Proofs.YtejjlkbbnhpbdaaW.PrintWords Go.Proofs.YtejjlkbbnhpbdaaW.PrintLast Go.Proofs.YtejjlkbbnhpbdaaW.PrintMore
attribute [local go_sem] max2_int min2_int max_two min_two max_three min_three max_four min_four
set_option linter.unusedVariables false
set_option linter.unusedSimpArgs false
theorem goodTermB_some (v : S68) : impl_Term_good.f v.f0 v.f1 v.f2 v.f3.f0 v.f3.f1 v.f3.f2 = some (goodTermB v) := rfl
open Go.Proofs.YtejjlkbbnhpbdaaX in
set_option maxHeartbeats 2000000 in
set_option maxRecDepth 100000 in
theorem badTerm.calls (v : S68) (w : World) :
  Calls Try.prog 53 (#[encTerm v] ++ #[]) w fun e w' => e = .returned (.bool (!goodTermB v)) ∧ Below w.heap.size w w' := by
 have hu := Try.underlying68; have HB := a_ (Below.refl w.heap.size w); have ea : #[encTerm v] ++ #[] = #[.agg #[.int .i64 (v).f0, .int .i64 (v).f1, .string (v).f2, .int .i64 (v).f3.f0, .int .i64 (v).f3.f1, .string (v).f3.f2]] := rfl
 rw [ea]; clear ea; have hg := goodTermB_some v; have HG := a_ hg; clear hg; go_enter Try.func53, Try.ntmps53; go_wp2_with (go_at_call 54; refine (impl_Term_good.calls _ _ _ _ _ _ _ _ HG.out).mono ?_; rintro e w' ⟨rfl, hd⟩); go_ret; exact ⟨rfl, Below.trans (by repeat (first | exact HB.out | apply below_alloc)) (hd.mono (by simp))⟩
open Go.Proofs.YtejjlkbbnhpbdaaX in
def goodClsB (s : ByteArray) : Bool := goodSymB s && (s.toList != ([110, 111, 116] : List UInt8))
theorem goodCls_some (s : ByteArray) : impl_goodCls.f s = some (goodClsB s) := by
 unfold impl_goodCls.f impl_goodSym.f goodClsB
 simp only [Option.bind_some]; cases Go.Proofs.YtejjlkbbnhpbdaaX.goodSymB s <;> rfl
def goodPatB (cls : ByteArray) (ts : List S68) : Bool := goodClsB cls && (decide (ts.length ≤ 6) && ts.all goodTermB)
def impl_Pattern_good.f (a0_0 : Bool) (a0_1 : ByteArray) (l0_2 : List S68) : Option Bool := some (goodPatB a0_1 l0_2)
open Go.Proofs.YtejjlkbbnhpbdaaX in
set_option maxHeartbeats 4000000 in
set_option maxRecDepth 100000 in
theorem impl_Pattern_good.calls (a0_0 : Bool) (a0_1 : ByteArray) (A0_2 : Option Addr) (c0_2 : Nat) (l0_2 : List S68) (r : Bool) (w : World) (hr0_2 : Kd.C k68 w A0_2 l0_2.length l0_2) (hc0_2 : l0_2.length ≤ c0_2) (h : impl_Pattern_good.f a0_0 a0_1 l0_2 = some r) :
  Calls Try.prog 33 #[.agg #[.bool a0_0, .string a0_1, .slice A0_2 l0_2.length c0_2]] w fun e w' => e = .returned (.bool r) ∧ Below w.heap.size w w' := by
 have h := Option.some.inj h; subst h; have hu := Try.underlying59; have HB := a_ (Below.refl w.heap.size w); have HR := a_ hr0_2; have HC := a_ hc0_2; have HG := a_ (goodCls_some a0_1); clear hr0_2 hc0_2; have hu0 := Try.underlying68; cases h0 : goodClsB a0_1 with
 | true =>
  rw [h0] at HG; by_cases h1 : l0_2.length ≤ 6
  ·have q1 : decide ((l0_2.length : Int) ≤ 6) = true := decide_eq_true (by omega)
   have HM := a_ (show l0_2.length ≤ bigN by unfold bigN; omega)
   have hv : goodPatB a0_1 l0_2 = !(l0_2.any fun v => !goodTermB v) := by
    unfold goodPatB
    rw [h0, decide_eq_true h1, Bool.true_and, Bool.true_and, List.not_any_eq_all_not]; congr 1
    funext v
    simp
   rw [hv]; clear h0 h1 hv; go_enter Try.func33, Try.ntmps33
   go_wp2_with (first
    | (go_at_call 51; refine (impl_goodCls.calls _ _ _ HG.out).mono ?_; rintro e w1 ⟨rfl, hd⟩; obtain ⟨hc1, hf1⟩ := cellsBelow hd rfl)
    | (go_at_call 52; refine (containsTerm.calls 53 _ (enters_of Try.func53 (by kernel_rfl) rfl) (fun v => !goodTermB v) _ _ l0_2 _ ?hr HC.out HM.out ?hp).mono ?hk))
   case hr => exact Kd.C_below HR.out (Below.trans (by repeat (first | exact HB.out | apply below_alloc)) (hd.mono (by first | (simp; done) | (simp; omega))))
   case hp => exact fun W x _ _ => badTerm.calls x W
   case hk =>
    first | rintro e w2 ⟨rfl, hd2⟩ | rintro e w2 rfl hd2
    go_wp2; go_ret; exact ⟨rfl, Below.trans (Below.trans (by repeat (first | exact HB.out | apply below_alloc)) (hd.mono (by first | (simp; done) | (simp; omega)))) (hd2.mono (by have := hd.size; simp at this; omega))⟩
  ·have q1 : decide ((l0_2.length : Int) ≤ 6) = false := decide_eq_false (by omega)
   have hv : goodPatB a0_1 l0_2 = false := by unfold goodPatB; rw [h0, decide_eq_false h1]; rfl
   rw [hv]; clear h0 h1 hv; go_enter Try.func33, Try.ntmps33; go_wp2_with (go_at_call 51; refine (impl_goodCls.calls _ _ _ HG.out).mono ?_; rintro e w1 ⟨rfl, hd⟩; obtain ⟨hc1, hf1⟩ := cellsBelow hd rfl); go_ret; exact ⟨rfl, Below.trans (by repeat (first | exact HB.out | apply below_alloc)) (hd.mono (by first | (simp; done) | (simp; omega)))⟩
 | false =>
  rw [h0] at HG; have hv : goodPatB a0_1 l0_2 = false := by unfold goodPatB; rw [h0]; rfl
  rw [hv]; clear h0 hv; go_enter Try.func33, Try.ntmps33; go_wp2_with (go_at_call 51; refine (impl_goodCls.calls _ _ _ HG.out).mono ?_; rintro e w1 ⟨rfl, hd⟩; obtain ⟨hc1, hf1⟩ := cellsBelow hd rfl); go_ret; exact ⟨rfl, Below.trans (by repeat (first | exact HB.out | apply below_alloc)) (hd.mono (by first | (simp; done) | (simp; omega)))⟩
end Go.Proofs.Ytejjlkbbnhpbdaa.P
namespace Go.Proofs
open Go.Shelf
def Try.lays137_ren : Go.Shelf.Ren := ⟨fun | 137 => 56 | 217 => 67 | 266 => 73 | n => n, fun | 9 => 9 | 5 => 5 | 3 => 3 | n => n, fun | n => n⟩
theorem Try.lays137 : Go.Proofs.Lays.n137 Try.prog Try.lays137_ren := {
  mixed := by kernel_rfl
  f137 := Try.func56.trans (congrArg some (by kernel_rfl))
  f217 := Try.func67.trans (congrArg some (by kernel_rfl))
  f266 := Try.func73.trans (congrArg some (by kernel_rfl))
  t3 := Try.underlying3
  a3 := Try.isAgg3
  z3 := Try.sizeOf3
  v3 := Try.zeroValue3
  t5 := Try.underlying5
  a5 := Try.isAgg5
  z5 := Try.sizeOf5
  v5 := Try.zeroValue5
  t9 := Try.underlying9
  a9 := Try.isAgg9
  z9 := Try.sizeOf9
  v9 := Try.zeroValue9 }
open Go.RowKit in
theorem Try.strings_IndexByte (s : ByteArray) (c : Int) (w : World) :
    Calls Try.prog 56 #[.string s, .int .u8 c] w fun e w' => e = .returned (.int .i64 (Lib.indexByte s.data.toList c.toNat.toUInt8)) ∧ w' = w := Any.strings_IndexByte Try.lays137 s c w
end Go.Proofs
namespace Go.Proofs.Ytejjlkbbnhpbdaa.P
open Go.Proofs.YtejjlkbbnhpbdaaX
open Go.RowKit Go.Proofs.YtejjlkbbnhpbdaaW.PrintWords Go.Proofs.YtejjlkbbnhpbdaaW.PrintLast Go.Proofs.YtejjlkbbnhpbdaaW.PrintMore
attribute [local go_sem] max2_int min2_int max_two min_two max_three min_three max_four min_four
set_option linter.unusedVariables false
set_option linter.unusedSimpArgs false
open Go.Proofs.YtejjlkbbnhpbdaaX
def TreesV (w : World) (b base : Nat) (vF vD : Value) (fs ds : List Int) : Prop :=
 w.heap[b]? = some (.cells #[vF, vD] 79 (0, 0)) ∧ w.ownsRow base 3 1 vF fs.length (nums .i64 fs) ∧ w.ownsRow base 3 1 vD ds.length (nums .i64 ds) ∧ NeRow vF vD
def Trees (w : World) (b base : Nat) (fs ds : List Int) : Prop := ∃ vF vD, TreesV w b base vF vD fs ds
def KeepT (w w' : World) : Prop := w.heap.size ≤ w'.heap.size ∧ ∀ (g : Nat) (t : TypeId) (cs : Array Value), t ≠ 79 → t ≠ 3 → w.heap[g]? = some (.cells cs t (0, 0)) → w'.heap[g]? = some (.cells cs t (0, 0))
theorem KeepT.trans {a b c : World} (h : KeepT a b) (k : KeepT b c) : KeepT a c := ⟨Nat.le_trans h.1 k.1, fun g t cs h1 h2 h3 => k.2 g t cs h1 h2 (h.2 g t cs h1 h2 h3)⟩
theorem KeepT.below {w w' : World} (h : Below w.heap.size w w') : KeepT w w' := ⟨h.size, fun _ _ _ _ _ h3 => blk_below h3 h⟩
theorem KeepT.grown {w w' : World} {base n : Nat} {v : Value} {xs : List Value} (ho : w.ownsRow base 3 1 v n xs) (hg : w.grownBy w' v.ownBlock) : KeepT w w' :=
 ⟨hg.size, fun g t cs _ h2 h3 => blk_grown h3 hg (own_ne ho h3 (Ne.symm h2))⟩
theorem KeepT.set {w : World} {b : Nat} {cs : Array Value} (hb : w.heap[b]? = some (.cells cs 79 (0, 0))) (j : Nat) (u : Value) : KeepT w (w.setCell ⟨b, j, none⟩ u) := by
 refine ⟨by simp, fun g t cs' h1 h2 h3 => blk_far h3 (p := ⟨b, j, none⟩) ?_ u⟩; exact blk_ne h3 hb h1
theorem ev_new {a b : Nat} (h : a = b) : Value.slice (some ⟨a, 0, none⟩) 1 1 = Value.slice (some ⟨b, 0, none⟩) 1 1 := by rw [h]
theorem own_readsI {w : World} {base n c : Nat} {e : TypeId} {k : IntKind} {A : Option Addr} {xs : List Int} (h : w.ownsRow base e 1 (.slice A n c) n (nums k xs)) : ReadsInt w k A n xs := own_reads' h
theorem own_form {w : World} {base n : Nat} {e : TypeId} {size : Nat} {v : Value} {xs : List Value} (h : w.ownsRow base e size v n xs) : ∃ A m c, v = .slice A m c ∧ Aside0 (m = n) := by
 obtain ⟨A, c, h⟩ := own_slice h; exact ⟨A, n, c, h, ⟨rfl⟩⟩
def exEq (x0 y0 x1 y1 : Int) (x2 y2 : ByteArray) (x3 y3 x4 y4 : Int) (x5 y5 : ByteArray) (x6 y6 x7 y7 : Int) : Bool :=
 x0 == y0 && (x1 == y1 && (x2.toList == y2.toList && ((x3 == y3 && (x4 == y4 && (x5.toList == y5.toList))) && (x6 == y6 && x7 == y7))))
theorem eqExpr (d : Nat) (w : World) (x0 y0 x1 y1 : Int) (x2 y2 : ByteArray) (x3 y3 x4 y4 : Int) (x5 y5 : ByteArray) (x6 y6 x7 y7 : Int) :
  (Op.equalIn (d + 3) 72 (.agg #[.int .i64 x0, .int .u8 x1, .string x2, .int .i64 x3, .int .i64 x4, .string x5, .int .i64 x6, .int .i64 x7]) (.agg #[.int .i64 y0, .int .u8 y1, .string y2, .int .i64 y3, .int .i64 y4, .string y5, .int .i64 y6, .int .i64 y7])).run Try.prog w = .ok (exEq x0 y0 x1 y1 x2 y2 x3 y3 x4 y4 x5 y5 x6 y6 x7 y7) w := by
 unfold exEq
 refine eqA_of Try.underlying72 (by kernel_rfl) ?_; refine eqf_cons (by rfl) (by first | (go_simp; done) | (go_simp; rfl)) (by first | (go_simp; done) | (go_simp; rfl)) (by go_simp) ?_; refine eqf_cons (by rfl) (by first | (go_simp; done) | (go_simp; rfl)) (by first | (go_simp; done) | (go_simp; rfl)) (by go_simp) ?_; refine eqf_cons (by rfl) (by first | (go_simp; done) | (go_simp; rfl)) (by first | (go_simp; done) | (go_simp; rfl)) (by go_simp) ?_; refine eqf_cons (by rfl) (by first | (go_simp; done) | (go_simp; rfl)) (by first | (go_simp; done) | (go_simp; rfl)) (eqA66 d w _ _ _ _ _ _) ?_; refine eqf_cons (by rfl) (by first | (go_simp; done) | (go_simp; rfl)) (by first | (go_simp; done) | (go_simp; rfl)) (by go_simp) ?_; exact eqf_last (by rfl) (by first | (go_simp; done) | (go_simp; rfl)) (by first | (go_simp; done) | (go_simp; rfl)) (by go_simp)
def onlyC (e : S72) : Bool := exEq e.f0 0 e.f1 0 e.f2 ⟨#[]⟩ e.f3.f0 e.f3.f0 e.f3.f1 e.f3.f1 e.f3.f2 e.f3.f2 e.f4 0 e.f5 0
def onlyV (e : S72) : Bool := exEq e.f0 1 e.f1 0 e.f2 e.f2 e.f3.f0 0 e.f3.f1 0 e.f3.f2 ⟨#[]⟩ e.f4 0 e.f5 0
def onlyO (e : S72) : Bool := exEq e.f0 2 e.f1 e.f1 e.f2 ⟨#[]⟩ e.f3.f0 0 e.f3.f1 0 e.f3.f2 ⟨#[]⟩ e.f4 e.f4 e.f5 e.f5
def arIdx (c : Int) : Int := Lib.indexByte [43, 45, 42, 47, 37] c.toNat.toUInt8
def arithB (c : Int) : Bool := decide (0 ≤ arIdx c)
theorem arIdx_calls (c : Int) (w : World) : Calls Try.prog 56 #[.string (⟨#[43, 45, 42, 47, 37]⟩ : ByteArray), .int .u8 c] w fun e w' => e = .returned (.int .i64 (arIdx c)) ∧ w' = w := Try.strings_IndexByte _ c w
theorem mx_lt {a b : Int} (h : a < b) : mx a b = b := if_pos h
theorem mx_ge {a b : Int} (h : ¬ a < b) : mx a b = a := if_neg h
def impl_trees_grow.f (es : List S72) (fs ds : List Int) : Option (Bool × List Int × List Int) :=
 if es.length ≤ 60 ∧ fs.length < es.length ∧ ds.length = fs.length then
  (fun e : S72 =>
   if e.f0 = 0 then some (onlyC e && goodValueB e.f3, fs ++ [(fs.length : Int)], ds ++ [0])
   else if e.f0 = 1 then some (onlyV e && goodSymB e.f2, fs ++ [(fs.length : Int)], ds ++ [0])
   else if e.f0 = 2 then
    if onlyO e = true ∧ arithB e.f1 = true ∧ e.f5 = (fs.length : Int) - 1 ∧ 0 ≤ e.f5 ∧ 0 ≤ e.f4 then
     if 0 ≤ rd fs e.f5 ∧ rd fs e.f5 ≤ 64 then
      if e.f4 = rd fs e.f5 - 1 then
       if e.f4 < (fs.length : Int) ∧ 0 ≤ rd ds e.f4 ∧ rd ds e.f4 ≤ 64 ∧ 0 ≤ rd ds e.f5 ∧ rd ds e.f5 ≤ 64 then
        some (decide (1 + mx (rd ds e.f4) (rd ds e.f5) ≤ 20), fs ++ [rd fs e.f4], ds ++ [1 + mx (rd ds e.f4) (rd ds e.f5)])
       else none
      else some (false, fs ++ [(fs.length : Int)], ds ++ [0])
     else none
    else some (false, fs ++ [(fs.length : Int)], ds ++ [0])
   else some (false, fs ++ [(fs.length : Int)], ds ++ [0])) (rd_T72 es (fs.length : Int))
 else none
attribute [local go_sem high] eqExpr
set_option maxHeartbeats 8000000 in
set_option maxRecDepth 100000 in
theorem impl_trees_grow.calls (A3 : Option Addr) (c3 : Nat) (es : List S72) (b : Nat) (fs ds fs' ds' : List Int) (r : Bool) (w0 w : World) (hb : Below w0.heap.size w0 w) (hr : Kd.C k72 w0 A3 es.length es) (hc : es.length ≤ c3) (ht : Trees w b w0.heap.size fs ds) (hwb : w0.heap.size ≤ b) (h : impl_trees_grow.f es fs ds = some (r, fs', ds')) :
  Calls Try.prog 34 #[.pointer (some ⟨b, 0, none⟩), .slice A3 es.length c3] w fun e w' => e = .returned (.bool r) ∧ Trees w' b w0.heap.size fs' ds' ∧ Below w0.heap.size w0 w' ∧ KeepT w w' := by
 have hu := Try.underlying79; have hu1 := Try.underlying72; have hu2 := Try.underlying66; obtain ⟨vF, vD, ht⟩ := ht; have HT := a_ ht; clear ht; have NE := a_ HT.out.2.2.2; have HB := a_ hb; have HR := a_ hr; have HC := a_ hc; have HWB := a_ hwb; clear hb hr hc hwb; have hbl := blk_lt HT.out.1; unfold impl_trees_grow.f at h
 by_cases c0 : es.length ≤ 60 ∧ fs.length < es.length ∧ ds.length = fs.length
 case neg => rw [if_neg c0] at h; cases h
 rw [if_pos c0] at h; obtain ⟨c60, hlt, hdl⟩ := c0; have L60 : Aside0 (es.length ≤ 60 ∧ fs.length < es.length ∧ ds.length = fs.length) := ⟨c60, hlt, hdl⟩
 have hz : (fs.length : Int) < (es.length : Int) := by omega
 have hz0 : (0 : Int) ≤ (fs.length : Int) := by omega
 have hz1 : (fs.length : Int) ≤ 60 := by omega
 clear hdl; obtain ⟨ad, e0, hx0, hx1, hx2, hx3, hx4, hx5, hx6, hx7⟩ := at_T72 HR.out (fs.length : Int) hz0 hz; cases e0; replace hx0 := (HB.out.cell (World.block_lt_of_cell? w0 _ hx0)).trans hx0; replace hx1 := (HB.out.cell (World.block_lt_of_cell? w0 _ hx1)).trans hx1; replace hx2 := (HB.out.cell (World.block_lt_of_cell? w0 _ hx2)).trans hx2; replace hx3 := (HB.out.cell (World.block_lt_of_cell? w0 _ hx3)).trans hx3; replace hx4 := (HB.out.cell (World.block_lt_of_cell? w0 _ hx4)).trans hx4; replace hx5 := (HB.out.cell (World.block_lt_of_cell? w0 _ hx5)).trans hx5; replace hx6 := (HB.out.cell (World.block_lt_of_cell? w0 _ hx6)).trans hx6; replace hx7 := (HB.out.cell (World.block_lt_of_cell? w0 _ hx7)).trans hx7; simp only [Int.toNat_natCast] at hx0 hx1 hx2 hx3 hx4 hx5 hx6 hx7; obtain ⟨AF, cF, eF⟩ := own_slice HT.out.2.1; subst eF; obtain ⟨AD, cD, eD⟩ := own_slice HT.out.2.2.1; subst eD; have hq0 := (blk_cell HT.out.1 0).trans rfl; have hq1 := (blk_cell HT.out.1 1).trans rfl; simp only [List.getElem?_toArray, List.getElem?_cons_zero, List.getElem?_cons_succ] at hq0 hq1; replace h : (fun e : S72 => _) (rd_T72 es (fs.length : Int)) = some (r, fs', ds') := h
 generalize rd_T72 es (fs.length : Int) = x at *; simp only [] at h; have OV : Aside0 (impl_Value_good.f x.f3.f0 x.f3.f1 x.f3.f2 = some (goodValueB x.f3)) := ⟨goodValueB_some x.f3⟩
 have OS : Aside0 (impl_goodSym.f x.f2 = some (goodSymB x.f2)) := ⟨rfl⟩
 by_cases k0 : x.f0 = 0
 ·rw [if_pos k0] at h
  obtain ⟨rfl, rfl, rfl⟩ : r = (onlyC x && goodValueB x.f3) ∧ fs' = fs ++ [(fs.length : Int)] ∧ ds' = ds ++ [0] := by
   have := Option.some.inj h
   simp only [Prod.mk.injEq] at this; exact ⟨this.1.symm, this.2.1.symm, this.2.2.symm⟩
  clear h; rw [k0] at hx0; cases hC : onlyC x with
  | false =>
   have hC' : exEq 0 0 x.f1 0 x.f2 ⟨#[]⟩ x.f3.f0 x.f3.f0 x.f3.f1 x.f3.f1 x.f3.f2 x.f3.f2 x.f4 0 x.f5 0 = false := by rw [← hC, onlyC, k0]
   clear hC k0; have BQ := a_ (blk_alloc HT.out.1 (.cells #[.int .i64 0, .int .u8 x.f1, .string x.f2, .int .i64 x.f3.f0, .int .i64 x.f3.f1, .string x.f3.f2, .int .i64 x.f4, .int .i64 x.f5] 72)); have OF := a_ (own_alloc HT.out.2.1 (.cells #[.int .i64 0, .int .u8 x.f1, .string x.f2, .int .i64 x.f3.f0, .int .i64 x.f3.f1, .string x.f3.f2, .int .i64 x.f4, .int .i64 x.f5] 72)); have OD := a_ (own_alloc HT.out.2.2.1 (.cells #[.int .i64 0, .int .u8 x.f1, .string x.f2, .int .i64 x.f3.f0, .int .i64 x.f3.f1, .string x.f3.f2, .int .i64 x.f4, .int .i64 x.f5] 72)); have HBQ := a_ (below_alloc HB.out (.cells #[.int .i64 0, .int .u8 x.f1, .string x.f2, .int .i64 x.f3.f0, .int .i64 x.f3.f1, .string x.f3.f2, .int .i64 x.f4, .int .i64 x.f5] 72)); have KQ := a_ (KeepT.below (below_alloc (Below.refl _ w) (.cells #[.int .i64 0, .int .u8 x.f1, .string x.f2, .int .i64 x.f3.f0, .int .i64 x.f3.f1, .string x.f3.f2, .int .i64 x.f4, .int .i64 x.f5] 72))); go_enter Try.func34, Try.ntmps34
   go_wp2_with (first
    | (at_builtin; refine print_append_num (w0 := w0) w0.heap.size rfl (.tmp 127) (.tmp 129) 44 3 .i64 8 rfl Try.underlying44 info3 (by decide) (.slice AF fs.length cF) fs ((fs.length : Int)) rfl (ev_new (by first | rfl | (simp; done))) OF.out HBQ.out (below_size HBQ.out) (by have := L60.out; omega) ?_; intro v1 w1 ho1 hb1 hg1 hat1; obtain ⟨A1, m1, c1, ev1, M1⟩ := own_form ho1; subst ev1; have B1 := blk_grown BQ.out hg1 (own_ne OF.out BQ.out (by decide)); have hd0 := (blk_cell B1 0).trans rfl; have hd1 := (blk_cell B1 1).trans rfl; have he0 := blk_frozen B1 0; have he1 := blk_frozen B1 1; simp only [List.getElem?_toArray, List.getElem?_cons_zero, List.getElem?_cons_succ] at hd0 hd1; have B2 := a_ (blk_put (cs' := #[.slice A1 m1 c1, .slice (AD) ds.length cD]) B1 0 (.slice A1 m1 c1) rfl); have F2 := a_ (own_setCell (p := ⟨b, 0, none⟩) ho1 (own_ne ho1 B1 (by decide)) (.slice A1 m1 c1)); have O1 := own_other OD.out hg1 (ne_other NE.out); have O2 := a_ (own_setCell (p := ⟨b, 0, none⟩) O1 (own_ne O1 B1 (by decide)) (.slice A1 m1 c1)); have HB2 := a_ (below_set (j := 0) (v := .slice A1 m1 c1) hb1 HWB.out); have K2 := a_ ((KQ.out.trans (KeepT.grown OF.out hg1)).trans (KeepT.set B1 0 (.slice A1 m1 c1))); have N2 := a_ (ne_append NE.out hat1 OD.out); clear B1 O1 ho1 hb1 hg1 hat1)
    | (at_builtin; refine print_append_num (w0 := w0) w0.heap.size rfl (.tmp 137) (.tmp 139) 44 3 .i64 8 rfl Try.underlying44 info3 (by decide) (.slice AD ds.length cD) ds (0) rfl (ev_new (by first | rfl | (simp; done))) O2.out HB2.out (below_size HB2.out) (by have := L60.out; omega) ?_; intro v2 w2 ho2 hb2 hg2 hat2; obtain ⟨A2, m2, c2, ev2, M2⟩ := own_form ho2; subst ev2; have B3 := a_ (blk_grown B2.out hg2 (own_ne O2.out B2.out (by decide))); have hg0 := (blk_cell B3.out 1).trans rfl; have hh1 := blk_frozen B3.out 1; simp only [List.getElem?_toArray, List.getElem?_cons_zero, List.getElem?_cons_succ] at hg0; have F3 := a_ (own_other F2.out hg2 (ne_other (ne_symm N2.out))); have O3 := a_ ho2; have HB3 := a_ hb2; have K3 := a_ (K2.out.trans (KeepT.grown O2.out hg2)); have N3 := a_ (ne_append' N2.out hat2 F2.out); clear ho2 hb2 hg2 hat2))
   go_ret; exact ⟨by first | rfl | (simp; done), ⟨_, _, blk_put B3.out 1 _ rfl, own_setCell F3.out (own_ne F3.out B3.out (by decide)) _, own_setCell O3.out (own_ne O3.out B3.out (by decide)) _, N3.out⟩, below_set HB3.out HWB.out, (K3.out).trans (KeepT.set B3.out _ _)⟩
  | true =>
   have hC' : exEq 0 0 x.f1 0 x.f2 ⟨#[]⟩ x.f3.f0 x.f3.f0 x.f3.f1 x.f3.f1 x.f3.f2 x.f3.f2 x.f4 0 x.f5 0 = true := by rw [← hC, onlyC, k0]
   clear hC k0; go_enter Try.func34, Try.ntmps34
   go_wp2_with (first
    | (at_builtin; refine print_append_num (w0 := w0) w0.heap.size rfl (.tmp 127) (.tmp 129) 44 3 .i64 8 rfl Try.underlying44 info3 (by decide) (.slice AF fs.length cF) fs ((fs.length : Int)) rfl (ev_new (by first | rfl | (simp; done))) OF.out HBQ.out (below_size HBQ.out) (by have := L60.out; omega) ?_; intro v1 w1 ho1 hb1 hg1 hat1; obtain ⟨A1, m1, c1, ev1, M1⟩ := own_form ho1; subst ev1; have B1 := blk_grown BQ.out hg1 (own_ne OF.out BQ.out (by decide)); have hd0 := (blk_cell B1 0).trans rfl; have hd1 := (blk_cell B1 1).trans rfl; have he0 := blk_frozen B1 0; have he1 := blk_frozen B1 1; simp only [List.getElem?_toArray, List.getElem?_cons_zero, List.getElem?_cons_succ] at hd0 hd1; have B2 := a_ (blk_put (cs' := #[.slice A1 m1 c1, .slice (AD) ds.length cD]) B1 0 (.slice A1 m1 c1) rfl); have F2 := a_ (own_setCell (p := ⟨b, 0, none⟩) ho1 (own_ne ho1 B1 (by decide)) (.slice A1 m1 c1)); have O1 := own_other OD.out hg1 (ne_other NE.out); have O2 := a_ (own_setCell (p := ⟨b, 0, none⟩) O1 (own_ne O1 B1 (by decide)) (.slice A1 m1 c1)); have HB2 := a_ (below_set (j := 0) (v := .slice A1 m1 c1) hb1 HWB.out); have K2 := a_ ((KQ.out.trans (KeepT.grown OF.out hg1)).trans (KeepT.set B1 0 (.slice A1 m1 c1))); have N2 := a_ (ne_append NE.out hat1 OD.out); clear B1 O1 ho1 hb1 hg1 hat1)
    | (at_builtin; refine print_append_num (w0 := w0) w0.heap.size rfl (.tmp 137) (.tmp 139) 44 3 .i64 8 rfl Try.underlying44 info3 (by decide) (.slice AD ds.length cD) ds (0) rfl (ev_new (by first | rfl | (simp; done))) O2.out HB2.out (below_size HB2.out) (by have := L60.out; omega) ?_; intro v2 w2 ho2 hb2 hg2 hat2; obtain ⟨A2, m2, c2, ev2, M2⟩ := own_form ho2; subst ev2; have B3 := a_ (blk_grown B2.out hg2 (own_ne O2.out B2.out (by decide))); have hg0 := (blk_cell B3.out 1).trans rfl; have hh1 := blk_frozen B3.out 1; simp only [List.getElem?_toArray, List.getElem?_cons_zero, List.getElem?_cons_succ] at hg0; have F3 := a_ (own_other F2.out hg2 (ne_other (ne_symm N2.out))); have O3 := a_ ho2; have HB3 := a_ hb2; have K3 := a_ (K2.out.trans (KeepT.grown O2.out hg2)); have N3 := a_ (ne_append' N2.out hat2 F2.out); clear ho2 hb2 hg2 hat2)
    | (go_at_call 55; refine (impl_Value_good.calls x.f3.f0 x.f3.f1 x.f3.f2 (goodValueB x.f3) _ OV.out).mono ?_; rintro e wq ⟨rfl, hd⟩; have BQ := a_ (blk_below (blk_alloc HT.out.1 (.cells #[.int .i64 0, .int .u8 x.f1, .string x.f2, .int .i64 x.f3.f0, .int .i64 x.f3.f1, .string x.f3.f2, .int .i64 x.f4, .int .i64 x.f5] 72)) hd); have OF := a_ (pw_own_below (own_alloc HT.out.2.1 (.cells #[.int .i64 0, .int .u8 x.f1, .string x.f2, .int .i64 x.f3.f0, .int .i64 x.f3.f1, .string x.f3.f2, .int .i64 x.f4, .int .i64 x.f5] 72)) hd); have OD := a_ (pw_own_below (own_alloc HT.out.2.2.1 (.cells #[.int .i64 0, .int .u8 x.f1, .string x.f2, .int .i64 x.f3.f0, .int .i64 x.f3.f1, .string x.f3.f2, .int .i64 x.f4, .int .i64 x.f5] 72)) hd); have HBQ := a_ (below_step (below_alloc HB.out (.cells #[.int .i64 0, .int .u8 x.f1, .string x.f2, .int .i64 x.f3.f0, .int .i64 x.f3.f1, .string x.f3.f2, .int .i64 x.f4, .int .i64 x.f5] 72)) hd); have KQ := a_ ((KeepT.below (below_alloc (Below.refl _ w) (.cells #[.int .i64 0, .int .u8 x.f1, .string x.f2, .int .i64 x.f3.f0, .int .i64 x.f3.f1, .string x.f3.f2, .int .i64 x.f4, .int .i64 x.f5] 72))).trans (KeepT.below hd)); have hq2 := (blk_cell BQ.out 0).trans rfl; have hq3 := (blk_cell BQ.out 1).trans rfl; simp only [List.getElem?_toArray, List.getElem?_cons_zero, List.getElem?_cons_succ] at hq2 hq3; clear hd))
   go_ret; exact ⟨by first | rfl | (simp; done), ⟨_, _, blk_put B3.out 1 _ rfl, own_setCell F3.out (own_ne F3.out B3.out (by decide)) _, own_setCell O3.out (own_ne O3.out B3.out (by decide)) _, N3.out⟩, below_set HB3.out HWB.out, (K3.out).trans (KeepT.set B3.out _ _)⟩
 by_cases k1 : x.f0 = 1
 ·rw [if_neg k0, if_pos k1] at h; clear k0
  obtain ⟨rfl, rfl, rfl⟩ : r = (onlyV x && goodSymB x.f2) ∧ fs' = fs ++ [(fs.length : Int)] ∧ ds' = ds ++ [0] := by
   have := Option.some.inj h
   simp only [Prod.mk.injEq] at this; exact ⟨this.1.symm, this.2.1.symm, this.2.2.symm⟩
  clear h; rw [k1] at hx0; cases hC : onlyV x with
  | false =>
   have hC' : exEq 1 1 x.f1 0 x.f2 x.f2 x.f3.f0 0 x.f3.f1 0 x.f3.f2 ⟨#[]⟩ x.f4 0 x.f5 0 = false := by rw [← hC, onlyV, k1]
   clear hC k1; have BQ := a_ (blk_alloc HT.out.1 (.cells #[.int .i64 1, .int .u8 x.f1, .string x.f2, .int .i64 x.f3.f0, .int .i64 x.f3.f1, .string x.f3.f2, .int .i64 x.f4, .int .i64 x.f5] 72)); have OF := a_ (own_alloc HT.out.2.1 (.cells #[.int .i64 1, .int .u8 x.f1, .string x.f2, .int .i64 x.f3.f0, .int .i64 x.f3.f1, .string x.f3.f2, .int .i64 x.f4, .int .i64 x.f5] 72)); have OD := a_ (own_alloc HT.out.2.2.1 (.cells #[.int .i64 1, .int .u8 x.f1, .string x.f2, .int .i64 x.f3.f0, .int .i64 x.f3.f1, .string x.f3.f2, .int .i64 x.f4, .int .i64 x.f5] 72)); have HBQ := a_ (below_alloc HB.out (.cells #[.int .i64 1, .int .u8 x.f1, .string x.f2, .int .i64 x.f3.f0, .int .i64 x.f3.f1, .string x.f3.f2, .int .i64 x.f4, .int .i64 x.f5] 72)); have KQ := a_ (KeepT.below (below_alloc (Below.refl _ w) (.cells #[.int .i64 1, .int .u8 x.f1, .string x.f2, .int .i64 x.f3.f0, .int .i64 x.f3.f1, .string x.f3.f2, .int .i64 x.f4, .int .i64 x.f5] 72))); go_enter Try.func34, Try.ntmps34
   go_wp2_with (first
    | (at_builtin; refine print_append_num (w0 := w0) w0.heap.size rfl (.tmp 127) (.tmp 129) 44 3 .i64 8 rfl Try.underlying44 info3 (by decide) (.slice AF fs.length cF) fs ((fs.length : Int)) rfl (ev_new (by first | rfl | (simp; done))) OF.out HBQ.out (below_size HBQ.out) (by have := L60.out; omega) ?_; intro v1 w1 ho1 hb1 hg1 hat1; obtain ⟨A1, m1, c1, ev1, M1⟩ := own_form ho1; subst ev1; have B1 := blk_grown BQ.out hg1 (own_ne OF.out BQ.out (by decide)); have hd0 := (blk_cell B1 0).trans rfl; have hd1 := (blk_cell B1 1).trans rfl; have he0 := blk_frozen B1 0; have he1 := blk_frozen B1 1; simp only [List.getElem?_toArray, List.getElem?_cons_zero, List.getElem?_cons_succ] at hd0 hd1; have B2 := a_ (blk_put (cs' := #[.slice A1 m1 c1, .slice (AD) ds.length cD]) B1 0 (.slice A1 m1 c1) rfl); have F2 := a_ (own_setCell (p := ⟨b, 0, none⟩) ho1 (own_ne ho1 B1 (by decide)) (.slice A1 m1 c1)); have O1 := own_other OD.out hg1 (ne_other NE.out); have O2 := a_ (own_setCell (p := ⟨b, 0, none⟩) O1 (own_ne O1 B1 (by decide)) (.slice A1 m1 c1)); have HB2 := a_ (below_set (j := 0) (v := .slice A1 m1 c1) hb1 HWB.out); have K2 := a_ ((KQ.out.trans (KeepT.grown OF.out hg1)).trans (KeepT.set B1 0 (.slice A1 m1 c1))); have N2 := a_ (ne_append NE.out hat1 OD.out); clear B1 O1 ho1 hb1 hg1 hat1)
    | (at_builtin; refine print_append_num (w0 := w0) w0.heap.size rfl (.tmp 137) (.tmp 139) 44 3 .i64 8 rfl Try.underlying44 info3 (by decide) (.slice AD ds.length cD) ds (0) rfl (ev_new (by first | rfl | (simp; done))) O2.out HB2.out (below_size HB2.out) (by have := L60.out; omega) ?_; intro v2 w2 ho2 hb2 hg2 hat2; obtain ⟨A2, m2, c2, ev2, M2⟩ := own_form ho2; subst ev2; have B3 := a_ (blk_grown B2.out hg2 (own_ne O2.out B2.out (by decide))); have hg0 := (blk_cell B3.out 1).trans rfl; have hh1 := blk_frozen B3.out 1; simp only [List.getElem?_toArray, List.getElem?_cons_zero, List.getElem?_cons_succ] at hg0; have F3 := a_ (own_other F2.out hg2 (ne_other (ne_symm N2.out))); have O3 := a_ ho2; have HB3 := a_ hb2; have K3 := a_ (K2.out.trans (KeepT.grown O2.out hg2)); have N3 := a_ (ne_append' N2.out hat2 F2.out); clear ho2 hb2 hg2 hat2))
   go_ret; exact ⟨by first | rfl | (simp; done), ⟨_, _, blk_put B3.out 1 _ rfl, own_setCell F3.out (own_ne F3.out B3.out (by decide)) _, own_setCell O3.out (own_ne O3.out B3.out (by decide)) _, N3.out⟩, below_set HB3.out HWB.out, (K3.out).trans (KeepT.set B3.out _ _)⟩
  | true =>
   have hC' : exEq 1 1 x.f1 0 x.f2 x.f2 x.f3.f0 0 x.f3.f1 0 x.f3.f2 ⟨#[]⟩ x.f4 0 x.f5 0 = true := by rw [← hC, onlyV, k1]
   clear hC k1; go_enter Try.func34, Try.ntmps34
   go_wp2_with (first
    | (at_builtin; refine print_append_num (w0 := w0) w0.heap.size rfl (.tmp 127) (.tmp 129) 44 3 .i64 8 rfl Try.underlying44 info3 (by decide) (.slice AF fs.length cF) fs ((fs.length : Int)) rfl (ev_new (by first | rfl | (simp; done))) OF.out HBQ.out (below_size HBQ.out) (by have := L60.out; omega) ?_; intro v1 w1 ho1 hb1 hg1 hat1; obtain ⟨A1, m1, c1, ev1, M1⟩ := own_form ho1; subst ev1; have B1 := blk_grown BQ.out hg1 (own_ne OF.out BQ.out (by decide)); have hd0 := (blk_cell B1 0).trans rfl; have hd1 := (blk_cell B1 1).trans rfl; have he0 := blk_frozen B1 0; have he1 := blk_frozen B1 1; simp only [List.getElem?_toArray, List.getElem?_cons_zero, List.getElem?_cons_succ] at hd0 hd1; have B2 := a_ (blk_put (cs' := #[.slice A1 m1 c1, .slice (AD) ds.length cD]) B1 0 (.slice A1 m1 c1) rfl); have F2 := a_ (own_setCell (p := ⟨b, 0, none⟩) ho1 (own_ne ho1 B1 (by decide)) (.slice A1 m1 c1)); have O1 := own_other OD.out hg1 (ne_other NE.out); have O2 := a_ (own_setCell (p := ⟨b, 0, none⟩) O1 (own_ne O1 B1 (by decide)) (.slice A1 m1 c1)); have HB2 := a_ (below_set (j := 0) (v := .slice A1 m1 c1) hb1 HWB.out); have K2 := a_ ((KQ.out.trans (KeepT.grown OF.out hg1)).trans (KeepT.set B1 0 (.slice A1 m1 c1))); have N2 := a_ (ne_append NE.out hat1 OD.out); clear B1 O1 ho1 hb1 hg1 hat1)
    | (at_builtin; refine print_append_num (w0 := w0) w0.heap.size rfl (.tmp 137) (.tmp 139) 44 3 .i64 8 rfl Try.underlying44 info3 (by decide) (.slice AD ds.length cD) ds (0) rfl (ev_new (by first | rfl | (simp; done))) O2.out HB2.out (below_size HB2.out) (by have := L60.out; omega) ?_; intro v2 w2 ho2 hb2 hg2 hat2; obtain ⟨A2, m2, c2, ev2, M2⟩ := own_form ho2; subst ev2; have B3 := a_ (blk_grown B2.out hg2 (own_ne O2.out B2.out (by decide))); have hg0 := (blk_cell B3.out 1).trans rfl; have hh1 := blk_frozen B3.out 1; simp only [List.getElem?_toArray, List.getElem?_cons_zero, List.getElem?_cons_succ] at hg0; have F3 := a_ (own_other F2.out hg2 (ne_other (ne_symm N2.out))); have O3 := a_ ho2; have HB3 := a_ hb2; have K3 := a_ (K2.out.trans (KeepT.grown O2.out hg2)); have N3 := a_ (ne_append' N2.out hat2 F2.out); clear ho2 hb2 hg2 hat2)
    | (go_at_call 32; refine (impl_goodSym.calls x.f2 (goodSymB x.f2) _ OS.out).mono ?_; rintro e wq ⟨rfl, hd⟩; have BQ := a_ (blk_below (blk_alloc HT.out.1 (.cells #[.int .i64 1, .int .u8 x.f1, .string x.f2, .int .i64 x.f3.f0, .int .i64 x.f3.f1, .string x.f3.f2, .int .i64 x.f4, .int .i64 x.f5] 72)) hd); have OF := a_ (pw_own_below (own_alloc HT.out.2.1 (.cells #[.int .i64 1, .int .u8 x.f1, .string x.f2, .int .i64 x.f3.f0, .int .i64 x.f3.f1, .string x.f3.f2, .int .i64 x.f4, .int .i64 x.f5] 72)) hd); have OD := a_ (pw_own_below (own_alloc HT.out.2.2.1 (.cells #[.int .i64 1, .int .u8 x.f1, .string x.f2, .int .i64 x.f3.f0, .int .i64 x.f3.f1, .string x.f3.f2, .int .i64 x.f4, .int .i64 x.f5] 72)) hd); have HBQ := a_ (below_step (below_alloc HB.out (.cells #[.int .i64 1, .int .u8 x.f1, .string x.f2, .int .i64 x.f3.f0, .int .i64 x.f3.f1, .string x.f3.f2, .int .i64 x.f4, .int .i64 x.f5] 72)) hd); have KQ := a_ ((KeepT.below (below_alloc (Below.refl _ w) (.cells #[.int .i64 1, .int .u8 x.f1, .string x.f2, .int .i64 x.f3.f0, .int .i64 x.f3.f1, .string x.f3.f2, .int .i64 x.f4, .int .i64 x.f5] 72))).trans (KeepT.below hd)); have hq2 := (blk_cell BQ.out 0).trans rfl; have hq3 := (blk_cell BQ.out 1).trans rfl; simp only [List.getElem?_toArray, List.getElem?_cons_zero, List.getElem?_cons_succ] at hq2 hq3; clear hd))
   go_ret; exact ⟨by first | rfl | (simp; done), ⟨_, _, blk_put B3.out 1 _ rfl, own_setCell F3.out (own_ne F3.out B3.out (by decide)) _, own_setCell O3.out (own_ne O3.out B3.out (by decide)) _, N3.out⟩, below_set HB3.out HWB.out, (K3.out).trans (KeepT.set B3.out _ _)⟩
 by_cases k2 : x.f0 = 2
 ·rw [if_neg k0, if_neg k1, if_pos k2] at h; clear k0 k1; have hon : onlyO x = exEq 2 2 x.f1 x.f1 x.f2 ⟨#[]⟩ x.f3.f0 0 x.f3.f1 0 x.f3.f2 ⟨#[]⟩ x.f4 x.f4 x.f5 x.f5 := by rw [onlyO, k2]
  rw [k2] at hx0; clear k2; have hw1 : IntKind.i64.wrap ((fs.length : Int) - 1) = (fs.length : Int) - 1 := IntWalk.i64_in _ (by omega)
  have HW1 := a_ hw1; clear hw1; by_cases o1 : onlyO x = true
  rotate_left
  ·rw [if_neg (fun q => o1 q.1)] at h
   obtain ⟨rfl, rfl, rfl⟩ : r = (false) ∧ fs' = fs ++ [(fs.length : Int)] ∧ ds' = ds ++ [0] := by
    have := Option.some.inj h
    simp only [Prod.mk.injEq] at this; exact ⟨this.1.symm, this.2.1.symm, this.2.2.symm⟩
   clear h; have hC' : exEq 2 2 x.f1 x.f1 x.f2 ⟨#[]⟩ x.f3.f0 0 x.f3.f1 0 x.f3.f2 ⟨#[]⟩ x.f4 x.f4 x.f5 x.f5 = false := by rw [← hon]; simpa using o1
   clear hon o1; go_enter Try.func34, Try.ntmps34; go_wp2; go_quiet ((go_at_call 56; exact Calls.quiet_of_same (arIdx_calls x.f1 _)))
   generalize hgq : (w.alloc (.cells #[.int .i64 2, .int .u8 x.f1, .string x.f2, .int .i64 x.f3.f0, .int .i64 x.f3.f1, .string x.f3.f2, .int .i64 x.f4, .int .i64 x.f5] 72)).drewN nq = wq; have BQ := a_ (blk_at hgq (blk_alloc HT.out.1 (.cells #[.int .i64 2, .int .u8 x.f1, .string x.f2, .int .i64 x.f3.f0, .int .i64 x.f3.f1, .string x.f3.f2, .int .i64 x.f4, .int .i64 x.f5] 72))); have BX := a_ (blk_at hgq (blk_new w (.cells #[.int .i64 2, .int .u8 x.f1, .string x.f2, .int .i64 x.f3.f0, .int .i64 x.f3.f1, .string x.f3.f2, .int .i64 x.f4, .int .i64 x.f5] 72))); have OF := a_ (pw_own_below HT.out.2.1 (below_at hgq (below_alloc (Below.refl _ w) (.cells #[.int .i64 2, .int .u8 x.f1, .string x.f2, .int .i64 x.f3.f0, .int .i64 x.f3.f1, .string x.f3.f2, .int .i64 x.f4, .int .i64 x.f5] 72)))); have OD := a_ (pw_own_below HT.out.2.2.1 (below_at hgq (below_alloc (Below.refl _ w) (.cells #[.int .i64 2, .int .u8 x.f1, .string x.f2, .int .i64 x.f3.f0, .int .i64 x.f3.f1, .string x.f3.f2, .int .i64 x.f4, .int .i64 x.f5] 72)))); have HBQ := a_ (below_at hgq (below_alloc HB.out (.cells #[.int .i64 2, .int .u8 x.f1, .string x.f2, .int .i64 x.f3.f0, .int .i64 x.f3.f1, .string x.f3.f2, .int .i64 x.f4, .int .i64 x.f5] 72))); have KQ := a_ (KeepT.below (below_at hgq (below_alloc (Below.refl _ w) (.cells #[.int .i64 2, .int .u8 x.f1, .string x.f2, .int .i64 x.f3.f0, .int .i64 x.f3.f1, .string x.f3.f2, .int .i64 x.f4, .int .i64 x.f5] 72)))); clear hgq; have hq0z := (blk_cell BQ.out 0).trans rfl; have hq1z := (blk_cell BQ.out 1).trans rfl; have ha4z := (blk_cell BX.out 6).trans rfl; have ha5z := (blk_cell BX.out 7).trans rfl; simp only [List.getElem?_toArray, List.getElem?_cons_zero, List.getElem?_cons_succ] at hq0z hq1z ha4z ha5z
   go_wp2_with (first
    | (at_builtin; refine print_append_num (w0 := w0) w0.heap.size rfl (.tmp 127) (.tmp 129) 44 3 .i64 8 rfl Try.underlying44 info3 (by decide) (.slice AF fs.length cF) fs ((fs.length : Int)) rfl (ev_new (by first | rfl | (simp; done))) OF.out HBQ.out (below_size HBQ.out) (by have := L60.out; omega) ?_; intro v1 w1 ho1 hb1 hg1 hat1; obtain ⟨A1, m1, c1, ev1, M1⟩ := own_form ho1; subst ev1; have B1 := blk_grown BQ.out hg1 (own_ne OF.out BQ.out (by decide)); have hd0 := (blk_cell B1 0).trans rfl; have hd1 := (blk_cell B1 1).trans rfl; have he0 := blk_frozen B1 0; have he1 := blk_frozen B1 1; simp only [List.getElem?_toArray, List.getElem?_cons_zero, List.getElem?_cons_succ] at hd0 hd1; have B2 := a_ (blk_put (cs' := #[.slice A1 m1 c1, .slice (AD) ds.length cD]) B1 0 (.slice A1 m1 c1) rfl); have F2 := a_ (own_setCell (p := ⟨b, 0, none⟩) ho1 (own_ne ho1 B1 (by decide)) (.slice A1 m1 c1)); have O1 := own_other OD.out hg1 (ne_other NE.out); have O2 := a_ (own_setCell (p := ⟨b, 0, none⟩) O1 (own_ne O1 B1 (by decide)) (.slice A1 m1 c1)); have HB2 := a_ (below_set (j := 0) (v := .slice A1 m1 c1) hb1 HWB.out); have K2 := a_ ((KQ.out.trans (KeepT.grown OF.out hg1)).trans (KeepT.set B1 0 (.slice A1 m1 c1))); have N2 := a_ (ne_append NE.out hat1 OD.out); clear B1 O1 ho1 hb1 hg1 hat1)
    | (at_builtin; refine print_append_num (w0 := w0) w0.heap.size rfl (.tmp 137) (.tmp 139) 44 3 .i64 8 rfl Try.underlying44 info3 (by decide) (.slice AD ds.length cD) ds (0) rfl (ev_new (by first | rfl | (simp; done))) O2.out HB2.out (below_size HB2.out) (by have := L60.out; omega) ?_; intro v2 w2 ho2 hb2 hg2 hat2; obtain ⟨A2, m2, c2, ev2, M2⟩ := own_form ho2; subst ev2; have B3 := a_ (blk_grown B2.out hg2 (own_ne O2.out B2.out (by decide))); have hg0 := (blk_cell B3.out 1).trans rfl; have hh1 := blk_frozen B3.out 1; simp only [List.getElem?_toArray, List.getElem?_cons_zero, List.getElem?_cons_succ] at hg0; have F3 := a_ (own_other F2.out hg2 (ne_other (ne_symm N2.out))); have O3 := a_ ho2; have HB3 := a_ hb2; have K3 := a_ (K2.out.trans (KeepT.grown O2.out hg2)); have N3 := a_ (ne_append' N2.out hat2 F2.out); clear ho2 hb2 hg2 hat2))
   go_ret; exact ⟨by first | rfl | (simp; done), ⟨_, _, blk_put B3.out 1 _ rfl, own_setCell F3.out (own_ne F3.out B3.out (by decide)) _, own_setCell O3.out (own_ne O3.out B3.out (by decide)) _, N3.out⟩, below_set HB3.out HWB.out, (K3.out).trans (KeepT.set B3.out _ _)⟩
  have hC' : exEq 2 2 x.f1 x.f1 x.f2 ⟨#[]⟩ x.f3.f0 0 x.f3.f1 0 x.f3.f2 ⟨#[]⟩ x.f4 x.f4 x.f5 x.f5 = true := hon.symm.trans o1
  clear hon; by_cases a1 : arithB x.f1 = true
  rotate_left
  ·rw [if_neg (fun q => a1 q.2.1)] at h
   obtain ⟨rfl, rfl, rfl⟩ : r = (false) ∧ fs' = fs ++ [(fs.length : Int)] ∧ ds' = ds ++ [0] := by
    have := Option.some.inj h
    simp only [Prod.mk.injEq] at this; exact ⟨this.1.symm, this.2.1.symm, this.2.2.symm⟩
   clear h; have ha1 : decide (0 ≤ arIdx x.f1) = false := by simpa [arithB] using a1
   clear a1 o1; go_enter Try.func34, Try.ntmps34; go_wp2; go_quiet ((go_at_call 56; exact Calls.quiet_of_same (arIdx_calls x.f1 _)))
   generalize hgq : (w.alloc (.cells #[.int .i64 2, .int .u8 x.f1, .string x.f2, .int .i64 x.f3.f0, .int .i64 x.f3.f1, .string x.f3.f2, .int .i64 x.f4, .int .i64 x.f5] 72)).drewN nq = wq; have BQ := a_ (blk_at hgq (blk_alloc HT.out.1 (.cells #[.int .i64 2, .int .u8 x.f1, .string x.f2, .int .i64 x.f3.f0, .int .i64 x.f3.f1, .string x.f3.f2, .int .i64 x.f4, .int .i64 x.f5] 72))); have BX := a_ (blk_at hgq (blk_new w (.cells #[.int .i64 2, .int .u8 x.f1, .string x.f2, .int .i64 x.f3.f0, .int .i64 x.f3.f1, .string x.f3.f2, .int .i64 x.f4, .int .i64 x.f5] 72))); have OF := a_ (pw_own_below HT.out.2.1 (below_at hgq (below_alloc (Below.refl _ w) (.cells #[.int .i64 2, .int .u8 x.f1, .string x.f2, .int .i64 x.f3.f0, .int .i64 x.f3.f1, .string x.f3.f2, .int .i64 x.f4, .int .i64 x.f5] 72)))); have OD := a_ (pw_own_below HT.out.2.2.1 (below_at hgq (below_alloc (Below.refl _ w) (.cells #[.int .i64 2, .int .u8 x.f1, .string x.f2, .int .i64 x.f3.f0, .int .i64 x.f3.f1, .string x.f3.f2, .int .i64 x.f4, .int .i64 x.f5] 72)))); have HBQ := a_ (below_at hgq (below_alloc HB.out (.cells #[.int .i64 2, .int .u8 x.f1, .string x.f2, .int .i64 x.f3.f0, .int .i64 x.f3.f1, .string x.f3.f2, .int .i64 x.f4, .int .i64 x.f5] 72))); have KQ := a_ (KeepT.below (below_at hgq (below_alloc (Below.refl _ w) (.cells #[.int .i64 2, .int .u8 x.f1, .string x.f2, .int .i64 x.f3.f0, .int .i64 x.f3.f1, .string x.f3.f2, .int .i64 x.f4, .int .i64 x.f5] 72)))); clear hgq; have hq0z := (blk_cell BQ.out 0).trans rfl; have hq1z := (blk_cell BQ.out 1).trans rfl; have ha4z := (blk_cell BX.out 6).trans rfl; have ha5z := (blk_cell BX.out 7).trans rfl; simp only [List.getElem?_toArray, List.getElem?_cons_zero, List.getElem?_cons_succ] at hq0z hq1z ha4z ha5z
   go_wp2_with (first
    | (at_builtin; refine print_append_num (w0 := w0) w0.heap.size rfl (.tmp 127) (.tmp 129) 44 3 .i64 8 rfl Try.underlying44 info3 (by decide) (.slice AF fs.length cF) fs ((fs.length : Int)) rfl (ev_new (by first | rfl | (simp; done))) OF.out HBQ.out (below_size HBQ.out) (by have := L60.out; omega) ?_; intro v1 w1 ho1 hb1 hg1 hat1; obtain ⟨A1, m1, c1, ev1, M1⟩ := own_form ho1; subst ev1; have B1 := blk_grown BQ.out hg1 (own_ne OF.out BQ.out (by decide)); have hd0 := (blk_cell B1 0).trans rfl; have hd1 := (blk_cell B1 1).trans rfl; have he0 := blk_frozen B1 0; have he1 := blk_frozen B1 1; simp only [List.getElem?_toArray, List.getElem?_cons_zero, List.getElem?_cons_succ] at hd0 hd1; have B2 := a_ (blk_put (cs' := #[.slice A1 m1 c1, .slice (AD) ds.length cD]) B1 0 (.slice A1 m1 c1) rfl); have F2 := a_ (own_setCell (p := ⟨b, 0, none⟩) ho1 (own_ne ho1 B1 (by decide)) (.slice A1 m1 c1)); have O1 := own_other OD.out hg1 (ne_other NE.out); have O2 := a_ (own_setCell (p := ⟨b, 0, none⟩) O1 (own_ne O1 B1 (by decide)) (.slice A1 m1 c1)); have HB2 := a_ (below_set (j := 0) (v := .slice A1 m1 c1) hb1 HWB.out); have K2 := a_ ((KQ.out.trans (KeepT.grown OF.out hg1)).trans (KeepT.set B1 0 (.slice A1 m1 c1))); have N2 := a_ (ne_append NE.out hat1 OD.out); clear B1 O1 ho1 hb1 hg1 hat1)
    | (at_builtin; refine print_append_num (w0 := w0) w0.heap.size rfl (.tmp 137) (.tmp 139) 44 3 .i64 8 rfl Try.underlying44 info3 (by decide) (.slice AD ds.length cD) ds (0) rfl (ev_new (by first | rfl | (simp; done))) O2.out HB2.out (below_size HB2.out) (by have := L60.out; omega) ?_; intro v2 w2 ho2 hb2 hg2 hat2; obtain ⟨A2, m2, c2, ev2, M2⟩ := own_form ho2; subst ev2; have B3 := a_ (blk_grown B2.out hg2 (own_ne O2.out B2.out (by decide))); have hg0 := (blk_cell B3.out 1).trans rfl; have hh1 := blk_frozen B3.out 1; simp only [List.getElem?_toArray, List.getElem?_cons_zero, List.getElem?_cons_succ] at hg0; have F3 := a_ (own_other F2.out hg2 (ne_other (ne_symm N2.out))); have O3 := a_ ho2; have HB3 := a_ hb2; have K3 := a_ (K2.out.trans (KeepT.grown O2.out hg2)); have N3 := a_ (ne_append' N2.out hat2 F2.out); clear ho2 hb2 hg2 hat2))
   go_ret; exact ⟨by first | rfl | (simp; done), ⟨_, _, blk_put B3.out 1 _ rfl, own_setCell F3.out (own_ne F3.out B3.out (by decide)) _, own_setCell O3.out (own_ne O3.out B3.out (by decide)) _, N3.out⟩, below_set HB3.out HWB.out, (K3.out).trans (KeepT.set B3.out _ _)⟩
  have ha1 : decide (0 ≤ arIdx x.f1) = true := a1
  by_cases b1 : x.f5 = (fs.length : Int) - 1
  rotate_left
  ·rw [if_neg (fun q => b1 q.2.2.1)] at h
   obtain ⟨rfl, rfl, rfl⟩ : r = (false) ∧ fs' = fs ++ [(fs.length : Int)] ∧ ds' = ds ++ [0] := by
    have := Option.some.inj h
    simp only [Prod.mk.injEq] at this; exact ⟨this.1.symm, this.2.1.symm, this.2.2.symm⟩
   clear h; have hb1 : (x.f5 == (fs.length : Int) - 1) = false := by simpa using b1
   have hw1 := HW1.out; clear a1 o1 b1; go_enter Try.func34, Try.ntmps34; go_wp2; go_quiet ((go_at_call 56; exact Calls.quiet_of_same (arIdx_calls x.f1 _)))
   generalize hgq : (w.alloc (.cells #[.int .i64 2, .int .u8 x.f1, .string x.f2, .int .i64 x.f3.f0, .int .i64 x.f3.f1, .string x.f3.f2, .int .i64 x.f4, .int .i64 x.f5] 72)).drewN nq = wq; have BQ := a_ (blk_at hgq (blk_alloc HT.out.1 (.cells #[.int .i64 2, .int .u8 x.f1, .string x.f2, .int .i64 x.f3.f0, .int .i64 x.f3.f1, .string x.f3.f2, .int .i64 x.f4, .int .i64 x.f5] 72))); have BX := a_ (blk_at hgq (blk_new w (.cells #[.int .i64 2, .int .u8 x.f1, .string x.f2, .int .i64 x.f3.f0, .int .i64 x.f3.f1, .string x.f3.f2, .int .i64 x.f4, .int .i64 x.f5] 72))); have OF := a_ (pw_own_below HT.out.2.1 (below_at hgq (below_alloc (Below.refl _ w) (.cells #[.int .i64 2, .int .u8 x.f1, .string x.f2, .int .i64 x.f3.f0, .int .i64 x.f3.f1, .string x.f3.f2, .int .i64 x.f4, .int .i64 x.f5] 72)))); have OD := a_ (pw_own_below HT.out.2.2.1 (below_at hgq (below_alloc (Below.refl _ w) (.cells #[.int .i64 2, .int .u8 x.f1, .string x.f2, .int .i64 x.f3.f0, .int .i64 x.f3.f1, .string x.f3.f2, .int .i64 x.f4, .int .i64 x.f5] 72)))); have HBQ := a_ (below_at hgq (below_alloc HB.out (.cells #[.int .i64 2, .int .u8 x.f1, .string x.f2, .int .i64 x.f3.f0, .int .i64 x.f3.f1, .string x.f3.f2, .int .i64 x.f4, .int .i64 x.f5] 72))); have KQ := a_ (KeepT.below (below_at hgq (below_alloc (Below.refl _ w) (.cells #[.int .i64 2, .int .u8 x.f1, .string x.f2, .int .i64 x.f3.f0, .int .i64 x.f3.f1, .string x.f3.f2, .int .i64 x.f4, .int .i64 x.f5] 72)))); clear hgq; have hq0z := (blk_cell BQ.out 0).trans rfl; have hq1z := (blk_cell BQ.out 1).trans rfl; have ha4z := (blk_cell BX.out 6).trans rfl; have ha5z := (blk_cell BX.out 7).trans rfl; simp only [List.getElem?_toArray, List.getElem?_cons_zero, List.getElem?_cons_succ] at hq0z hq1z ha4z ha5z
   go_wp2_with (first
    | (at_builtin; refine print_append_num (w0 := w0) w0.heap.size rfl (.tmp 127) (.tmp 129) 44 3 .i64 8 rfl Try.underlying44 info3 (by decide) (.slice AF fs.length cF) fs ((fs.length : Int)) rfl (ev_new (by first | rfl | (simp; done))) OF.out HBQ.out (below_size HBQ.out) (by have := L60.out; omega) ?_; intro v1 w1 ho1 hb1 hg1 hat1; obtain ⟨A1, m1, c1, ev1, M1⟩ := own_form ho1; subst ev1; have B1 := blk_grown BQ.out hg1 (own_ne OF.out BQ.out (by decide)); have hd0 := (blk_cell B1 0).trans rfl; have hd1 := (blk_cell B1 1).trans rfl; have he0 := blk_frozen B1 0; have he1 := blk_frozen B1 1; simp only [List.getElem?_toArray, List.getElem?_cons_zero, List.getElem?_cons_succ] at hd0 hd1; have B2 := a_ (blk_put (cs' := #[.slice A1 m1 c1, .slice (AD) ds.length cD]) B1 0 (.slice A1 m1 c1) rfl); have F2 := a_ (own_setCell (p := ⟨b, 0, none⟩) ho1 (own_ne ho1 B1 (by decide)) (.slice A1 m1 c1)); have O1 := own_other OD.out hg1 (ne_other NE.out); have O2 := a_ (own_setCell (p := ⟨b, 0, none⟩) O1 (own_ne O1 B1 (by decide)) (.slice A1 m1 c1)); have HB2 := a_ (below_set (j := 0) (v := .slice A1 m1 c1) hb1 HWB.out); have K2 := a_ ((KQ.out.trans (KeepT.grown OF.out hg1)).trans (KeepT.set B1 0 (.slice A1 m1 c1))); have N2 := a_ (ne_append NE.out hat1 OD.out); clear B1 O1 ho1 hb1 hg1 hat1)
    | (at_builtin; refine print_append_num (w0 := w0) w0.heap.size rfl (.tmp 137) (.tmp 139) 44 3 .i64 8 rfl Try.underlying44 info3 (by decide) (.slice AD ds.length cD) ds (0) rfl (ev_new (by first | rfl | (simp; done))) O2.out HB2.out (below_size HB2.out) (by have := L60.out; omega) ?_; intro v2 w2 ho2 hb2 hg2 hat2; obtain ⟨A2, m2, c2, ev2, M2⟩ := own_form ho2; subst ev2; have B3 := a_ (blk_grown B2.out hg2 (own_ne O2.out B2.out (by decide))); have hg0 := (blk_cell B3.out 1).trans rfl; have hh1 := blk_frozen B3.out 1; simp only [List.getElem?_toArray, List.getElem?_cons_zero, List.getElem?_cons_succ] at hg0; have F3 := a_ (own_other F2.out hg2 (ne_other (ne_symm N2.out))); have O3 := a_ ho2; have HB3 := a_ hb2; have K3 := a_ (K2.out.trans (KeepT.grown O2.out hg2)); have N3 := a_ (ne_append' N2.out hat2 F2.out); clear ho2 hb2 hg2 hat2))
   go_ret; exact ⟨by first | rfl | (simp; done), ⟨_, _, blk_put B3.out 1 _ rfl, own_setCell F3.out (own_ne F3.out B3.out (by decide)) _, own_setCell O3.out (own_ne O3.out B3.out (by decide)) _, N3.out⟩, below_set HB3.out HWB.out, (K3.out).trans (KeepT.set B3.out _ _)⟩
  have hb1 : (x.f5 == (fs.length : Int) - 1) = true := by simpa using b1
  by_cases b2 : 0 ≤ x.f5
  rotate_left
  ·rw [if_neg (fun q => b2 q.2.2.2.1)] at h
   obtain ⟨rfl, rfl, rfl⟩ : r = (false) ∧ fs' = fs ++ [(fs.length : Int)] ∧ ds' = ds ++ [0] := by
    have := Option.some.inj h
    simp only [Prod.mk.injEq] at this; exact ⟨this.1.symm, this.2.1.symm, this.2.2.symm⟩
   clear h; have hb2 : decide (0 ≤ x.f5) = false := decide_eq_false b2
   have hw1 := HW1.out; clear a1 o1 b1 b2; go_enter Try.func34, Try.ntmps34; go_wp2; go_quiet ((go_at_call 56; exact Calls.quiet_of_same (arIdx_calls x.f1 _)))
   generalize hgq : (w.alloc (.cells #[.int .i64 2, .int .u8 x.f1, .string x.f2, .int .i64 x.f3.f0, .int .i64 x.f3.f1, .string x.f3.f2, .int .i64 x.f4, .int .i64 x.f5] 72)).drewN nq = wq; have BQ := a_ (blk_at hgq (blk_alloc HT.out.1 (.cells #[.int .i64 2, .int .u8 x.f1, .string x.f2, .int .i64 x.f3.f0, .int .i64 x.f3.f1, .string x.f3.f2, .int .i64 x.f4, .int .i64 x.f5] 72))); have BX := a_ (blk_at hgq (blk_new w (.cells #[.int .i64 2, .int .u8 x.f1, .string x.f2, .int .i64 x.f3.f0, .int .i64 x.f3.f1, .string x.f3.f2, .int .i64 x.f4, .int .i64 x.f5] 72))); have OF := a_ (pw_own_below HT.out.2.1 (below_at hgq (below_alloc (Below.refl _ w) (.cells #[.int .i64 2, .int .u8 x.f1, .string x.f2, .int .i64 x.f3.f0, .int .i64 x.f3.f1, .string x.f3.f2, .int .i64 x.f4, .int .i64 x.f5] 72)))); have OD := a_ (pw_own_below HT.out.2.2.1 (below_at hgq (below_alloc (Below.refl _ w) (.cells #[.int .i64 2, .int .u8 x.f1, .string x.f2, .int .i64 x.f3.f0, .int .i64 x.f3.f1, .string x.f3.f2, .int .i64 x.f4, .int .i64 x.f5] 72)))); have HBQ := a_ (below_at hgq (below_alloc HB.out (.cells #[.int .i64 2, .int .u8 x.f1, .string x.f2, .int .i64 x.f3.f0, .int .i64 x.f3.f1, .string x.f3.f2, .int .i64 x.f4, .int .i64 x.f5] 72))); have KQ := a_ (KeepT.below (below_at hgq (below_alloc (Below.refl _ w) (.cells #[.int .i64 2, .int .u8 x.f1, .string x.f2, .int .i64 x.f3.f0, .int .i64 x.f3.f1, .string x.f3.f2, .int .i64 x.f4, .int .i64 x.f5] 72)))); clear hgq; have hq0z := (blk_cell BQ.out 0).trans rfl; have hq1z := (blk_cell BQ.out 1).trans rfl; have ha4z := (blk_cell BX.out 6).trans rfl; have ha5z := (blk_cell BX.out 7).trans rfl; simp only [List.getElem?_toArray, List.getElem?_cons_zero, List.getElem?_cons_succ] at hq0z hq1z ha4z ha5z
   go_wp2_with (first
    | (at_builtin; refine print_append_num (w0 := w0) w0.heap.size rfl (.tmp 127) (.tmp 129) 44 3 .i64 8 rfl Try.underlying44 info3 (by decide) (.slice AF fs.length cF) fs ((fs.length : Int)) rfl (ev_new (by first | rfl | (simp; done))) OF.out HBQ.out (below_size HBQ.out) (by have := L60.out; omega) ?_; intro v1 w1 ho1 hb1 hg1 hat1; obtain ⟨A1, m1, c1, ev1, M1⟩ := own_form ho1; subst ev1; have B1 := blk_grown BQ.out hg1 (own_ne OF.out BQ.out (by decide)); have hd0 := (blk_cell B1 0).trans rfl; have hd1 := (blk_cell B1 1).trans rfl; have he0 := blk_frozen B1 0; have he1 := blk_frozen B1 1; simp only [List.getElem?_toArray, List.getElem?_cons_zero, List.getElem?_cons_succ] at hd0 hd1; have B2 := a_ (blk_put (cs' := #[.slice A1 m1 c1, .slice (AD) ds.length cD]) B1 0 (.slice A1 m1 c1) rfl); have F2 := a_ (own_setCell (p := ⟨b, 0, none⟩) ho1 (own_ne ho1 B1 (by decide)) (.slice A1 m1 c1)); have O1 := own_other OD.out hg1 (ne_other NE.out); have O2 := a_ (own_setCell (p := ⟨b, 0, none⟩) O1 (own_ne O1 B1 (by decide)) (.slice A1 m1 c1)); have HB2 := a_ (below_set (j := 0) (v := .slice A1 m1 c1) hb1 HWB.out); have K2 := a_ ((KQ.out.trans (KeepT.grown OF.out hg1)).trans (KeepT.set B1 0 (.slice A1 m1 c1))); have N2 := a_ (ne_append NE.out hat1 OD.out); clear B1 O1 ho1 hb1 hg1 hat1)
    | (at_builtin; refine print_append_num (w0 := w0) w0.heap.size rfl (.tmp 137) (.tmp 139) 44 3 .i64 8 rfl Try.underlying44 info3 (by decide) (.slice AD ds.length cD) ds (0) rfl (ev_new (by first | rfl | (simp; done))) O2.out HB2.out (below_size HB2.out) (by have := L60.out; omega) ?_; intro v2 w2 ho2 hb2 hg2 hat2; obtain ⟨A2, m2, c2, ev2, M2⟩ := own_form ho2; subst ev2; have B3 := a_ (blk_grown B2.out hg2 (own_ne O2.out B2.out (by decide))); have hg0 := (blk_cell B3.out 1).trans rfl; have hh1 := blk_frozen B3.out 1; simp only [List.getElem?_toArray, List.getElem?_cons_zero, List.getElem?_cons_succ] at hg0; have F3 := a_ (own_other F2.out hg2 (ne_other (ne_symm N2.out))); have O3 := a_ ho2; have HB3 := a_ hb2; have K3 := a_ (K2.out.trans (KeepT.grown O2.out hg2)); have N3 := a_ (ne_append' N2.out hat2 F2.out); clear ho2 hb2 hg2 hat2))
   go_ret; exact ⟨by first | rfl | (simp; done), ⟨_, _, blk_put B3.out 1 _ rfl, own_setCell F3.out (own_ne F3.out B3.out (by decide)) _, own_setCell O3.out (own_ne O3.out B3.out (by decide)) _, N3.out⟩, below_set HB3.out HWB.out, (K3.out).trans (KeepT.set B3.out _ _)⟩
  have hb2 : decide (0 ≤ x.f5) = true := decide_eq_true b2
  by_cases a2 : 0 ≤ x.f4
  rotate_left
  ·rw [if_neg (fun q => a2 q.2.2.2.2)] at h
   obtain ⟨rfl, rfl, rfl⟩ : r = (false) ∧ fs' = fs ++ [(fs.length : Int)] ∧ ds' = ds ++ [0] := by
    have := Option.some.inj h
    simp only [Prod.mk.injEq] at this; exact ⟨this.1.symm, this.2.1.symm, this.2.2.symm⟩
   clear h; have ha2 : decide (0 ≤ x.f4) = false := decide_eq_false a2
   have hw1 := HW1.out; clear a1 o1 b1 b2 a2; go_enter Try.func34, Try.ntmps34; go_wp2; go_quiet ((go_at_call 56; exact Calls.quiet_of_same (arIdx_calls x.f1 _)))
   generalize hgq : (w.alloc (.cells #[.int .i64 2, .int .u8 x.f1, .string x.f2, .int .i64 x.f3.f0, .int .i64 x.f3.f1, .string x.f3.f2, .int .i64 x.f4, .int .i64 x.f5] 72)).drewN nq = wq; have BQ := a_ (blk_at hgq (blk_alloc HT.out.1 (.cells #[.int .i64 2, .int .u8 x.f1, .string x.f2, .int .i64 x.f3.f0, .int .i64 x.f3.f1, .string x.f3.f2, .int .i64 x.f4, .int .i64 x.f5] 72))); have BX := a_ (blk_at hgq (blk_new w (.cells #[.int .i64 2, .int .u8 x.f1, .string x.f2, .int .i64 x.f3.f0, .int .i64 x.f3.f1, .string x.f3.f2, .int .i64 x.f4, .int .i64 x.f5] 72))); have OF := a_ (pw_own_below HT.out.2.1 (below_at hgq (below_alloc (Below.refl _ w) (.cells #[.int .i64 2, .int .u8 x.f1, .string x.f2, .int .i64 x.f3.f0, .int .i64 x.f3.f1, .string x.f3.f2, .int .i64 x.f4, .int .i64 x.f5] 72)))); have OD := a_ (pw_own_below HT.out.2.2.1 (below_at hgq (below_alloc (Below.refl _ w) (.cells #[.int .i64 2, .int .u8 x.f1, .string x.f2, .int .i64 x.f3.f0, .int .i64 x.f3.f1, .string x.f3.f2, .int .i64 x.f4, .int .i64 x.f5] 72)))); have HBQ := a_ (below_at hgq (below_alloc HB.out (.cells #[.int .i64 2, .int .u8 x.f1, .string x.f2, .int .i64 x.f3.f0, .int .i64 x.f3.f1, .string x.f3.f2, .int .i64 x.f4, .int .i64 x.f5] 72))); have KQ := a_ (KeepT.below (below_at hgq (below_alloc (Below.refl _ w) (.cells #[.int .i64 2, .int .u8 x.f1, .string x.f2, .int .i64 x.f3.f0, .int .i64 x.f3.f1, .string x.f3.f2, .int .i64 x.f4, .int .i64 x.f5] 72)))); clear hgq; have hq0z := (blk_cell BQ.out 0).trans rfl; have hq1z := (blk_cell BQ.out 1).trans rfl; have ha4z := (blk_cell BX.out 6).trans rfl; have ha5z := (blk_cell BX.out 7).trans rfl; simp only [List.getElem?_toArray, List.getElem?_cons_zero, List.getElem?_cons_succ] at hq0z hq1z ha4z ha5z
   go_wp2_with (first
    | (at_builtin; refine print_append_num (w0 := w0) w0.heap.size rfl (.tmp 127) (.tmp 129) 44 3 .i64 8 rfl Try.underlying44 info3 (by decide) (.slice AF fs.length cF) fs ((fs.length : Int)) rfl (ev_new (by first | rfl | (simp; done))) OF.out HBQ.out (below_size HBQ.out) (by have := L60.out; omega) ?_; intro v1 w1 ho1 hb1 hg1 hat1; obtain ⟨A1, m1, c1, ev1, M1⟩ := own_form ho1; subst ev1; have B1 := blk_grown BQ.out hg1 (own_ne OF.out BQ.out (by decide)); have hd0 := (blk_cell B1 0).trans rfl; have hd1 := (blk_cell B1 1).trans rfl; have he0 := blk_frozen B1 0; have he1 := blk_frozen B1 1; simp only [List.getElem?_toArray, List.getElem?_cons_zero, List.getElem?_cons_succ] at hd0 hd1; have B2 := a_ (blk_put (cs' := #[.slice A1 m1 c1, .slice (AD) ds.length cD]) B1 0 (.slice A1 m1 c1) rfl); have F2 := a_ (own_setCell (p := ⟨b, 0, none⟩) ho1 (own_ne ho1 B1 (by decide)) (.slice A1 m1 c1)); have O1 := own_other OD.out hg1 (ne_other NE.out); have O2 := a_ (own_setCell (p := ⟨b, 0, none⟩) O1 (own_ne O1 B1 (by decide)) (.slice A1 m1 c1)); have HB2 := a_ (below_set (j := 0) (v := .slice A1 m1 c1) hb1 HWB.out); have K2 := a_ ((KQ.out.trans (KeepT.grown OF.out hg1)).trans (KeepT.set B1 0 (.slice A1 m1 c1))); have N2 := a_ (ne_append NE.out hat1 OD.out); clear B1 O1 ho1 hb1 hg1 hat1)
    | (at_builtin; refine print_append_num (w0 := w0) w0.heap.size rfl (.tmp 137) (.tmp 139) 44 3 .i64 8 rfl Try.underlying44 info3 (by decide) (.slice AD ds.length cD) ds (0) rfl (ev_new (by first | rfl | (simp; done))) O2.out HB2.out (below_size HB2.out) (by have := L60.out; omega) ?_; intro v2 w2 ho2 hb2 hg2 hat2; obtain ⟨A2, m2, c2, ev2, M2⟩ := own_form ho2; subst ev2; have B3 := a_ (blk_grown B2.out hg2 (own_ne O2.out B2.out (by decide))); have hg0 := (blk_cell B3.out 1).trans rfl; have hh1 := blk_frozen B3.out 1; simp only [List.getElem?_toArray, List.getElem?_cons_zero, List.getElem?_cons_succ] at hg0; have F3 := a_ (own_other F2.out hg2 (ne_other (ne_symm N2.out))); have O3 := a_ ho2; have HB3 := a_ hb2; have K3 := a_ (K2.out.trans (KeepT.grown O2.out hg2)); have N3 := a_ (ne_append' N2.out hat2 F2.out); clear ho2 hb2 hg2 hat2))
   go_ret; exact ⟨by first | rfl | (simp; done), ⟨_, _, blk_put B3.out 1 _ rfl, own_setCell F3.out (own_ne F3.out B3.out (by decide)) _, own_setCell O3.out (own_ne O3.out B3.out (by decide)) _, N3.out⟩, below_set HB3.out HWB.out, (K3.out).trans (KeepT.set B3.out _ _)⟩
  have ha2 : decide (0 ≤ x.f4) = true := decide_eq_true a2
  rw [if_pos ⟨o1, a1, b1, b2, a2⟩] at h; have hl5 : x.f5 < (fs.length : Int) := by omega
  have L1 : Aside0 (x.f5 < (ds.length : Int)) := ⟨by have := L60.out; omega⟩
  clear a1 o1 b1; by_cases g1 : 0 ≤ rd fs x.f5 ∧ rd fs x.f5 ≤ 64
  rotate_left
  ·rw [if_neg g1] at h; cases h
  rw [if_pos g1] at h; have hw2 : IntKind.i64.wrap (rd fs x.f5 - 1) = rd fs x.f5 - 1 := IntWalk.i64_in _ (by omega)
  have HW2 := a_ hw2; clear hw2 g1; obtain ⟨ad5, e5, hy5⟩ := (own_readsI (own_alloc HT.out.2.1 (.cells #[.int .i64 2, .int .u8 x.f1, .string x.f2, .int .i64 x.f3.f0, .int .i64 x.f3.f1, .string x.f3.f2, .int .i64 x.f4, .int .i64 x.f5] 72))).at_ x.f5 b2 hl5; cases e5; by_cases a3 : x.f4 = rd fs x.f5 - 1
  rotate_left
  ·rw [if_neg a3] at h
   obtain ⟨rfl, rfl, rfl⟩ : r = (false) ∧ fs' = fs ++ [(fs.length : Int)] ∧ ds' = ds ++ [0] := by
    have := Option.some.inj h
    simp only [Prod.mk.injEq] at this; exact ⟨this.1.symm, this.2.1.symm, this.2.2.symm⟩
   clear h; have ha3 : (x.f4 == rd fs x.f5 - 1) = false := by simpa using a3
   have hw1 := HW1.out; have hw2 := HW2.out; clear a3; go_enter Try.func34, Try.ntmps34; go_wp2; go_quiet ((go_at_call 56; exact Calls.quiet_of_same (arIdx_calls x.f1 _)))
   generalize hgq : (w.alloc (.cells #[.int .i64 2, .int .u8 x.f1, .string x.f2, .int .i64 x.f3.f0, .int .i64 x.f3.f1, .string x.f3.f2, .int .i64 x.f4, .int .i64 x.f5] 72)).drewN nq = wq; have BQ := a_ (blk_at hgq (blk_alloc HT.out.1 (.cells #[.int .i64 2, .int .u8 x.f1, .string x.f2, .int .i64 x.f3.f0, .int .i64 x.f3.f1, .string x.f3.f2, .int .i64 x.f4, .int .i64 x.f5] 72))); have BX := a_ (blk_at hgq (blk_new w (.cells #[.int .i64 2, .int .u8 x.f1, .string x.f2, .int .i64 x.f3.f0, .int .i64 x.f3.f1, .string x.f3.f2, .int .i64 x.f4, .int .i64 x.f5] 72))); have OF := a_ (pw_own_below HT.out.2.1 (below_at hgq (below_alloc (Below.refl _ w) (.cells #[.int .i64 2, .int .u8 x.f1, .string x.f2, .int .i64 x.f3.f0, .int .i64 x.f3.f1, .string x.f3.f2, .int .i64 x.f4, .int .i64 x.f5] 72)))); have OD := a_ (pw_own_below HT.out.2.2.1 (below_at hgq (below_alloc (Below.refl _ w) (.cells #[.int .i64 2, .int .u8 x.f1, .string x.f2, .int .i64 x.f3.f0, .int .i64 x.f3.f1, .string x.f3.f2, .int .i64 x.f4, .int .i64 x.f5] 72)))); have HBQ := a_ (below_at hgq (below_alloc HB.out (.cells #[.int .i64 2, .int .u8 x.f1, .string x.f2, .int .i64 x.f3.f0, .int .i64 x.f3.f1, .string x.f3.f2, .int .i64 x.f4, .int .i64 x.f5] 72))); have KQ := a_ (KeepT.below (below_at hgq (below_alloc (Below.refl _ w) (.cells #[.int .i64 2, .int .u8 x.f1, .string x.f2, .int .i64 x.f3.f0, .int .i64 x.f3.f1, .string x.f3.f2, .int .i64 x.f4, .int .i64 x.f5] 72)))); clear hgq; have hq0z := (blk_cell BQ.out 0).trans rfl; have hq1z := (blk_cell BQ.out 1).trans rfl; have ha4z := (blk_cell BX.out 6).trans rfl; have ha5z := (blk_cell BX.out 7).trans rfl; simp only [List.getElem?_toArray, List.getElem?_cons_zero, List.getElem?_cons_succ] at hq0z hq1z ha4z ha5z
   go_wp2_with (first
    | (at_builtin; refine print_append_num (w0 := w0) w0.heap.size rfl (.tmp 127) (.tmp 129) 44 3 .i64 8 rfl Try.underlying44 info3 (by decide) (.slice (some ad5) fs.length cF) fs ((fs.length : Int)) rfl (ev_new (by first | rfl | (simp; done))) OF.out HBQ.out (below_size HBQ.out) (by have := L60.out; omega) ?_; intro v1 w1 ho1 hb1 hg1 hat1; obtain ⟨A1, m1, c1, ev1, M1⟩ := own_form ho1; subst ev1; have B1 := blk_grown BQ.out hg1 (own_ne OF.out BQ.out (by decide)); have hd0 := (blk_cell B1 0).trans rfl; have hd1 := (blk_cell B1 1).trans rfl; have he0 := blk_frozen B1 0; have he1 := blk_frozen B1 1; simp only [List.getElem?_toArray, List.getElem?_cons_zero, List.getElem?_cons_succ] at hd0 hd1; have B2 := a_ (blk_put (cs' := #[.slice A1 m1 c1, .slice (AD) ds.length cD]) B1 0 (.slice A1 m1 c1) rfl); have F2 := a_ (own_setCell (p := ⟨b, 0, none⟩) ho1 (own_ne ho1 B1 (by decide)) (.slice A1 m1 c1)); have O1 := own_other OD.out hg1 (ne_other NE.out); have O2 := a_ (own_setCell (p := ⟨b, 0, none⟩) O1 (own_ne O1 B1 (by decide)) (.slice A1 m1 c1)); have HB2 := a_ (below_set (j := 0) (v := .slice A1 m1 c1) hb1 HWB.out); have K2 := a_ ((KQ.out.trans (KeepT.grown OF.out hg1)).trans (KeepT.set B1 0 (.slice A1 m1 c1))); have N2 := a_ (ne_append NE.out hat1 OD.out); clear B1 O1 ho1 hb1 hg1 hat1)
    | (at_builtin; refine print_append_num (w0 := w0) w0.heap.size rfl (.tmp 137) (.tmp 139) 44 3 .i64 8 rfl Try.underlying44 info3 (by decide) (.slice AD ds.length cD) ds (0) rfl (ev_new (by first | rfl | (simp; done))) O2.out HB2.out (below_size HB2.out) (by have := L60.out; omega) ?_; intro v2 w2 ho2 hb2 hg2 hat2; obtain ⟨A2, m2, c2, ev2, M2⟩ := own_form ho2; subst ev2; have B3 := a_ (blk_grown B2.out hg2 (own_ne O2.out B2.out (by decide))); have hg0 := (blk_cell B3.out 1).trans rfl; have hh1 := blk_frozen B3.out 1; simp only [List.getElem?_toArray, List.getElem?_cons_zero, List.getElem?_cons_succ] at hg0; have F3 := a_ (own_other F2.out hg2 (ne_other (ne_symm N2.out))); have O3 := a_ ho2; have HB3 := a_ hb2; have K3 := a_ (K2.out.trans (KeepT.grown O2.out hg2)); have N3 := a_ (ne_append' N2.out hat2 F2.out); clear ho2 hb2 hg2 hat2))
   go_ret; exact ⟨by first | rfl | (simp; done), ⟨_, _, blk_put B3.out 1 _ rfl, own_setCell F3.out (own_ne F3.out B3.out (by decide)) _, own_setCell O3.out (own_ne O3.out B3.out (by decide)) _, N3.out⟩, below_set HB3.out HWB.out, (K3.out).trans (KeepT.set B3.out _ _)⟩
  rw [if_pos a3] at h; have ha3 : (x.f4 == rd fs x.f5 - 1) = true := by simpa using a3
  clear a3; by_cases g2 : x.f4 < (fs.length : Int) ∧ 0 ≤ rd ds x.f4 ∧ rd ds x.f4 ≤ 64 ∧ 0 ≤ rd ds x.f5 ∧ rd ds x.f5 ≤ 64
  rotate_left
  ·rw [if_neg g2] at h; cases h
  rw [if_pos g2] at h; obtain ⟨hl4, g2, g3, g4, g5⟩ := g2; have L2 : Aside0 (x.f4 < (ds.length : Int)) := ⟨by have := L60.out; omega⟩
  have hw3 : IntKind.i64.wrap (1 + mx (rd ds x.f4) (rd ds x.f5)) = 1 + mx (rd ds x.f4) (rd ds x.f5) := IntWalk.i64_in _ (by unfold mx; split <;> omega)
  have HW3 := a_ hw3; clear hw3
  obtain ⟨rfl, rfl, rfl⟩ : r = decide (1 + mx (rd ds x.f4) (rd ds x.f5) ≤ 20) ∧ fs' = fs ++ [rd fs x.f4] ∧ ds' = ds ++ [1 + mx (rd ds x.f4) (rd ds x.f5)] := by
   have := Option.some.inj h
   simp only [Prod.mk.injEq] at this; exact ⟨this.1.symm, this.2.1.symm, this.2.2.symm⟩
  clear h; have hw1 := HW1.out; have hw2 := HW2.out; go_enter Try.func34, Try.ntmps34; go_wp2; go_quiet ((go_at_call 56; exact Calls.quiet_of_same (arIdx_calls x.f1 _)))
  generalize hgq : (w.alloc (.cells #[.int .i64 2, .int .u8 x.f1, .string x.f2, .int .i64 x.f3.f0, .int .i64 x.f3.f1, .string x.f3.f2, .int .i64 x.f4, .int .i64 x.f5] 72)).drewN nq = wq; have BQ := a_ (blk_at hgq (blk_alloc HT.out.1 (.cells #[.int .i64 2, .int .u8 x.f1, .string x.f2, .int .i64 x.f3.f0, .int .i64 x.f3.f1, .string x.f3.f2, .int .i64 x.f4, .int .i64 x.f5] 72))); have BX := a_ (blk_at hgq (blk_new w (.cells #[.int .i64 2, .int .u8 x.f1, .string x.f2, .int .i64 x.f3.f0, .int .i64 x.f3.f1, .string x.f3.f2, .int .i64 x.f4, .int .i64 x.f5] 72))); have OF := a_ (pw_own_below HT.out.2.1 (below_at hgq (below_alloc (Below.refl _ w) (.cells #[.int .i64 2, .int .u8 x.f1, .string x.f2, .int .i64 x.f3.f0, .int .i64 x.f3.f1, .string x.f3.f2, .int .i64 x.f4, .int .i64 x.f5] 72)))); have OD := a_ (pw_own_below HT.out.2.2.1 (below_at hgq (below_alloc (Below.refl _ w) (.cells #[.int .i64 2, .int .u8 x.f1, .string x.f2, .int .i64 x.f3.f0, .int .i64 x.f3.f1, .string x.f3.f2, .int .i64 x.f4, .int .i64 x.f5] 72)))); have HBQ := a_ (below_at hgq (below_alloc HB.out (.cells #[.int .i64 2, .int .u8 x.f1, .string x.f2, .int .i64 x.f3.f0, .int .i64 x.f3.f1, .string x.f3.f2, .int .i64 x.f4, .int .i64 x.f5] 72))); have KQ := a_ (KeepT.below (below_at hgq (below_alloc (Below.refl _ w) (.cells #[.int .i64 2, .int .u8 x.f1, .string x.f2, .int .i64 x.f3.f0, .int .i64 x.f3.f1, .string x.f3.f2, .int .i64 x.f4, .int .i64 x.f5] 72)))); clear hgq; have hq0z := (blk_cell BQ.out 0).trans rfl; have hq1z := (blk_cell BQ.out 1).trans rfl; have ha4z := (blk_cell BX.out 6).trans rfl; have ha5z := (blk_cell BX.out 7).trans rfl; simp only [List.getElem?_toArray, List.getElem?_cons_zero, List.getElem?_cons_succ] at hq0z hq1z ha4z ha5z; obtain ⟨ad4, e4, hy4⟩ := (own_readsI OF.out).at_ x.f4 a2 hl4; cases e4; have hi0 : (0 : Int) ≤ x.f4 := a2
  go_wp2; go_quiet (fail)
  generalize hgq : wq.drewN nq = wr; replace BQ := a_ (blk_at hgq BQ.out); replace BX := a_ (blk_at hgq BX.out); replace OF := a_ (pw_own_below OF.out (below_at hgq (Below.refl _ _))); replace OD := a_ (pw_own_below OD.out (below_at hgq (Below.refl _ _))); replace HBQ := a_ (below_at hgq HBQ.out); replace KQ := a_ (KQ.out.trans (KeepT.below (below_at hgq (Below.refl _ _)))); clear hgq; have hq0y := (blk_cell BQ.out 0).trans rfl; have hq1y := (blk_cell BQ.out 1).trans rfl; have ha4y := (blk_cell BX.out 6).trans rfl; have ha5y := (blk_cell BX.out 7).trans rfl; simp only [List.getElem?_toArray, List.getElem?_cons_zero, List.getElem?_cons_succ] at hq0y hq1y ha4y ha5y; obtain ⟨ad6, e6, hy6⟩ := (own_readsI OD.out).at_ x.f4 a2 L2.out; cases e6; obtain ⟨ad7, e7, hy7⟩ := (own_readsI OD.out).at_ x.f5 b2 L1.out; cases e7; have hl8 := L1.out; have hl9 := L2.out; by_cases cm : rd ds x.f4 < rd ds x.f5
  ·have em := mx_lt cm; have hw3 := HW3.out; rw [em] at hw3; have EM := a_ em; clear em; go_wp2; go_quiet (fail)
   generalize hgq : wr.drewN nq = ws; replace BQ := a_ (blk_at hgq BQ.out); replace BX := a_ (blk_at hgq BX.out); replace OF := a_ (pw_own_below OF.out (below_at hgq (Below.refl _ _))); replace OD := a_ (pw_own_below OD.out (below_at hgq (Below.refl _ _))); replace HBQ := a_ (below_at hgq HBQ.out); replace KQ := a_ (KQ.out.trans (KeepT.below (below_at hgq (Below.refl _ _)))); clear hgq; have hq0x := (blk_cell BQ.out 0).trans rfl; have hq1x := (blk_cell BQ.out 1).trans rfl; have ha4x := (blk_cell BX.out 6).trans rfl; have ha5x := (blk_cell BX.out 7).trans rfl; simp only [List.getElem?_toArray, List.getElem?_cons_zero, List.getElem?_cons_succ] at hq0x hq1x ha4x ha5x
   go_wp2_with (first
    | (at_builtin; refine print_append_num (w0 := w0) w0.heap.size rfl (.tmp 127) (.tmp 129) 44 3 .i64 8 rfl Try.underlying44 info3 (by decide) (.slice (some ad5) fs.length cF) fs (rd fs x.f4) rfl (ev_new (by first | rfl | (simp; done))) OF.out HBQ.out (below_size HBQ.out) (by have := L60.out; omega) ?_; intro v1 w1 ho1 hb1 hg1 hat1; obtain ⟨A1, m1, c1, ev1, M1⟩ := own_form ho1; subst ev1; have B1 := blk_grown BQ.out hg1 (own_ne OF.out BQ.out (by decide)); have hd0 := (blk_cell B1 0).trans rfl; have hd1 := (blk_cell B1 1).trans rfl; have he0 := blk_frozen B1 0; have he1 := blk_frozen B1 1; simp only [List.getElem?_toArray, List.getElem?_cons_zero, List.getElem?_cons_succ] at hd0 hd1; have B2 := a_ (blk_put (cs' := #[.slice A1 m1 c1, .slice ((some ad6)) ds.length cD]) B1 0 (.slice A1 m1 c1) rfl); have F2 := a_ (own_setCell (p := ⟨b, 0, none⟩) ho1 (own_ne ho1 B1 (by decide)) (.slice A1 m1 c1)); have O1 := own_other OD.out hg1 (ne_other NE.out); have O2 := a_ (own_setCell (p := ⟨b, 0, none⟩) O1 (own_ne O1 B1 (by decide)) (.slice A1 m1 c1)); have HB2 := a_ (below_set (j := 0) (v := .slice A1 m1 c1) hb1 HWB.out); have K2 := a_ ((KQ.out.trans (KeepT.grown OF.out hg1)).trans (KeepT.set B1 0 (.slice A1 m1 c1))); have N2 := a_ (ne_append NE.out hat1 OD.out); clear B1 O1 ho1 hb1 hg1 hat1)
    | (at_builtin; refine print_append_num (w0 := w0) w0.heap.size rfl (.tmp 137) (.tmp 139) 44 3 .i64 8 rfl Try.underlying44 info3 (by decide) (.slice (some ad6) ds.length cD) ds (1 + rd ds x.f5) rfl (ev_new (by first | rfl | (simp; done))) O2.out HB2.out (below_size HB2.out) (by have := L60.out; omega) ?_; intro v2 w2 ho2 hb2 hg2 hat2; obtain ⟨A2, m2, c2, ev2, M2⟩ := own_form ho2; subst ev2; have B3 := a_ (blk_grown B2.out hg2 (own_ne O2.out B2.out (by decide))); have hg0 := (blk_cell B3.out 1).trans rfl; have hh1 := blk_frozen B3.out 1; simp only [List.getElem?_toArray, List.getElem?_cons_zero, List.getElem?_cons_succ] at hg0; have F3 := a_ (own_other F2.out hg2 (ne_other (ne_symm N2.out))); have O3 := a_ ho2; have HB3 := a_ hb2; have K3 := a_ (K2.out.trans (KeepT.grown O2.out hg2)); have N3 := a_ (ne_append' N2.out hat2 F2.out); clear ho2 hb2 hg2 hat2))
   go_ret; rw [EM.out]; exact ⟨by first | rfl | (simp; done), ⟨_, _, blk_put B3.out 1 _ rfl, own_setCell F3.out (own_ne F3.out B3.out (by decide)) _, own_setCell O3.out (own_ne O3.out B3.out (by decide)) _, N3.out⟩, below_set HB3.out HWB.out, (K3.out).trans (KeepT.set B3.out _ _)⟩
  ·have em := mx_ge cm; have hw3 := HW3.out; rw [em] at hw3; have EM := a_ em; clear em; go_wp2; go_quiet (fail)
   generalize hgq : wr.drewN nq = ws; replace BQ := a_ (blk_at hgq BQ.out); replace BX := a_ (blk_at hgq BX.out); replace OF := a_ (pw_own_below OF.out (below_at hgq (Below.refl _ _))); replace OD := a_ (pw_own_below OD.out (below_at hgq (Below.refl _ _))); replace HBQ := a_ (below_at hgq HBQ.out); replace KQ := a_ (KQ.out.trans (KeepT.below (below_at hgq (Below.refl _ _)))); clear hgq; have hq0x := (blk_cell BQ.out 0).trans rfl; have hq1x := (blk_cell BQ.out 1).trans rfl; have ha4x := (blk_cell BX.out 6).trans rfl; have ha5x := (blk_cell BX.out 7).trans rfl; simp only [List.getElem?_toArray, List.getElem?_cons_zero, List.getElem?_cons_succ] at hq0x hq1x ha4x ha5x
   go_wp2_with (first
    | (at_builtin; refine print_append_num (w0 := w0) w0.heap.size rfl (.tmp 127) (.tmp 129) 44 3 .i64 8 rfl Try.underlying44 info3 (by decide) (.slice (some ad5) fs.length cF) fs (rd fs x.f4) rfl (ev_new (by first | rfl | (simp; done))) OF.out HBQ.out (below_size HBQ.out) (by have := L60.out; omega) ?_; intro v1 w1 ho1 hb1 hg1 hat1; obtain ⟨A1, m1, c1, ev1, M1⟩ := own_form ho1; subst ev1; have B1 := blk_grown BQ.out hg1 (own_ne OF.out BQ.out (by decide)); have hd0 := (blk_cell B1 0).trans rfl; have hd1 := (blk_cell B1 1).trans rfl; have he0 := blk_frozen B1 0; have he1 := blk_frozen B1 1; simp only [List.getElem?_toArray, List.getElem?_cons_zero, List.getElem?_cons_succ] at hd0 hd1; have B2 := a_ (blk_put (cs' := #[.slice A1 m1 c1, .slice ((some ad6)) ds.length cD]) B1 0 (.slice A1 m1 c1) rfl); have F2 := a_ (own_setCell (p := ⟨b, 0, none⟩) ho1 (own_ne ho1 B1 (by decide)) (.slice A1 m1 c1)); have O1 := own_other OD.out hg1 (ne_other NE.out); have O2 := a_ (own_setCell (p := ⟨b, 0, none⟩) O1 (own_ne O1 B1 (by decide)) (.slice A1 m1 c1)); have HB2 := a_ (below_set (j := 0) (v := .slice A1 m1 c1) hb1 HWB.out); have K2 := a_ ((KQ.out.trans (KeepT.grown OF.out hg1)).trans (KeepT.set B1 0 (.slice A1 m1 c1))); have N2 := a_ (ne_append NE.out hat1 OD.out); clear B1 O1 ho1 hb1 hg1 hat1)
    | (at_builtin; refine print_append_num (w0 := w0) w0.heap.size rfl (.tmp 137) (.tmp 139) 44 3 .i64 8 rfl Try.underlying44 info3 (by decide) (.slice (some ad6) ds.length cD) ds (1 + rd ds x.f4) rfl (ev_new (by first | rfl | (simp; done))) O2.out HB2.out (below_size HB2.out) (by have := L60.out; omega) ?_; intro v2 w2 ho2 hb2 hg2 hat2; obtain ⟨A2, m2, c2, ev2, M2⟩ := own_form ho2; subst ev2; have B3 := a_ (blk_grown B2.out hg2 (own_ne O2.out B2.out (by decide))); have hg0 := (blk_cell B3.out 1).trans rfl; have hh1 := blk_frozen B3.out 1; simp only [List.getElem?_toArray, List.getElem?_cons_zero, List.getElem?_cons_succ] at hg0; have F3 := a_ (own_other F2.out hg2 (ne_other (ne_symm N2.out))); have O3 := a_ ho2; have HB3 := a_ hb2; have K3 := a_ (K2.out.trans (KeepT.grown O2.out hg2)); have N3 := a_ (ne_append' N2.out hat2 F2.out); clear ho2 hb2 hg2 hat2))
   go_ret; rw [EM.out]; exact ⟨by first | rfl | (simp; done), ⟨_, _, blk_put B3.out 1 _ rfl, own_setCell F3.out (own_ne F3.out B3.out (by decide)) _, own_setCell O3.out (own_ne O3.out B3.out (by decide)) _, N3.out⟩, below_set HB3.out HWB.out, (K3.out).trans (KeepT.set B3.out _ _)⟩
 ·rw [if_neg k0, if_neg k1, if_neg k2] at h
  obtain ⟨rfl, rfl, rfl⟩ : r = (false) ∧ fs' = fs ++ [(fs.length : Int)] ∧ ds' = ds ++ [0] := by
   have := Option.some.inj h
   simp only [Prod.mk.injEq] at this; exact ⟨this.1.symm, this.2.1.symm, this.2.2.symm⟩
  clear h; have p0 : (x.f0 == 0) = false := beq_eq_false_iff_ne.mpr k0
  have p1 : (x.f0 == 1) = false := beq_eq_false_iff_ne.mpr k1
  have p2 : (x.f0 == 2) = false := beq_eq_false_iff_ne.mpr k2
  clear k0 k1 k2; have BQ := a_ (blk_alloc HT.out.1 (.cells #[.int .i64 x.f0, .int .u8 x.f1, .string x.f2, .int .i64 x.f3.f0, .int .i64 x.f3.f1, .string x.f3.f2, .int .i64 x.f4, .int .i64 x.f5] 72)); have OF := a_ (own_alloc HT.out.2.1 (.cells #[.int .i64 x.f0, .int .u8 x.f1, .string x.f2, .int .i64 x.f3.f0, .int .i64 x.f3.f1, .string x.f3.f2, .int .i64 x.f4, .int .i64 x.f5] 72)); have OD := a_ (own_alloc HT.out.2.2.1 (.cells #[.int .i64 x.f0, .int .u8 x.f1, .string x.f2, .int .i64 x.f3.f0, .int .i64 x.f3.f1, .string x.f3.f2, .int .i64 x.f4, .int .i64 x.f5] 72)); have HBQ := a_ (below_alloc HB.out (.cells #[.int .i64 x.f0, .int .u8 x.f1, .string x.f2, .int .i64 x.f3.f0, .int .i64 x.f3.f1, .string x.f3.f2, .int .i64 x.f4, .int .i64 x.f5] 72)); have KQ := a_ (KeepT.below (below_alloc (Below.refl _ w) (.cells #[.int .i64 x.f0, .int .u8 x.f1, .string x.f2, .int .i64 x.f3.f0, .int .i64 x.f3.f1, .string x.f3.f2, .int .i64 x.f4, .int .i64 x.f5] 72))); go_enter Try.func34, Try.ntmps34
  go_wp2_with (first
   | (at_builtin; refine print_append_num (w0 := w0) w0.heap.size rfl (.tmp 127) (.tmp 129) 44 3 .i64 8 rfl Try.underlying44 info3 (by decide) (.slice AF fs.length cF) fs ((fs.length : Int)) rfl (ev_new (by first | rfl | (simp; done))) OF.out HBQ.out (below_size HBQ.out) (by have := L60.out; omega) ?_; intro v1 w1 ho1 hb1 hg1 hat1; obtain ⟨A1, m1, c1, ev1, M1⟩ := own_form ho1; subst ev1; have B1 := blk_grown BQ.out hg1 (own_ne OF.out BQ.out (by decide)); have hd0 := (blk_cell B1 0).trans rfl; have hd1 := (blk_cell B1 1).trans rfl; have he0 := blk_frozen B1 0; have he1 := blk_frozen B1 1; simp only [List.getElem?_toArray, List.getElem?_cons_zero, List.getElem?_cons_succ] at hd0 hd1; have B2 := a_ (blk_put (cs' := #[.slice A1 m1 c1, .slice (AD) ds.length cD]) B1 0 (.slice A1 m1 c1) rfl); have F2 := a_ (own_setCell (p := ⟨b, 0, none⟩) ho1 (own_ne ho1 B1 (by decide)) (.slice A1 m1 c1)); have O1 := own_other OD.out hg1 (ne_other NE.out); have O2 := a_ (own_setCell (p := ⟨b, 0, none⟩) O1 (own_ne O1 B1 (by decide)) (.slice A1 m1 c1)); have HB2 := a_ (below_set (j := 0) (v := .slice A1 m1 c1) hb1 HWB.out); have K2 := a_ ((KQ.out.trans (KeepT.grown OF.out hg1)).trans (KeepT.set B1 0 (.slice A1 m1 c1))); have N2 := a_ (ne_append NE.out hat1 OD.out); clear B1 O1 ho1 hb1 hg1 hat1)
   | (at_builtin; refine print_append_num (w0 := w0) w0.heap.size rfl (.tmp 137) (.tmp 139) 44 3 .i64 8 rfl Try.underlying44 info3 (by decide) (.slice AD ds.length cD) ds (0) rfl (ev_new (by first | rfl | (simp; done))) O2.out HB2.out (below_size HB2.out) (by have := L60.out; omega) ?_; intro v2 w2 ho2 hb2 hg2 hat2; obtain ⟨A2, m2, c2, ev2, M2⟩ := own_form ho2; subst ev2; have B3 := a_ (blk_grown B2.out hg2 (own_ne O2.out B2.out (by decide))); have hg0 := (blk_cell B3.out 1).trans rfl; have hh1 := blk_frozen B3.out 1; simp only [List.getElem?_toArray, List.getElem?_cons_zero, List.getElem?_cons_succ] at hg0; have F3 := a_ (own_other F2.out hg2 (ne_other (ne_symm N2.out))); have O3 := a_ ho2; have HB3 := a_ hb2; have K3 := a_ (K2.out.trans (KeepT.grown O2.out hg2)); have N3 := a_ (ne_append' N2.out hat2 F2.out); clear ho2 hb2 hg2 hat2))
  go_ret; exact ⟨by first | rfl | (simp; done), ⟨_, _, blk_put B3.out 1 _ rfl, own_setCell F3.out (own_ne F3.out B3.out (by decide)) _, own_setCell O3.out (own_ne O3.out B3.out (by decide)) _, N3.out⟩, below_set HB3.out HWB.out, (K3.out).trans (KeepT.set B3.out _ _)⟩
end Go.Proofs.Ytejjlkbbnhpbdaa.P
namespace Go.Proofs.Ytejjlkbbnhpbdaa.P
open Go.Proofs.YtejjlkbbnhpbdaaX
open Go.RowKit Go.Proofs.YtejjlkbbnhpbdaaW.PrintWords Go.Proofs.YtejjlkbbnhpbdaaW.PrintLast Go.Proofs.YtejjlkbbnhpbdaaW.PrintMore
attribute [local go_sem] max2_int min2_int max_two min_two max_three min_three max_four min_four
set_option linter.unusedVariables false
set_option linter.unusedSimpArgs false
open Go.Proofs.YtejjlkbbnhpbdaaX
def impl_Action_good.g (fs : List Int) : List Int → Int → Option (Bool × Int)
 | [], n => some (true, n)
 | x :: xs, n => if 0 ≤ x ∧ x < (fs.length : Int) then (if rd fs x = n then impl_Action_good.g fs xs (x + 1) else some (false, n)) else some (false, n)
def impl_Action_good.f (fs : List Int) (kd K : Int) (cls : ByteArray) (xs : List Int) (n : Int) : Option (Bool × Int) :=
 if kd = 1 then (if goodClsB cls = true then (if K = 0 then (if 6 < xs.length then some (false, n) else impl_Action_good.g fs xs n) else some (false, n)) else some (false, n)) else
 if kd = 2 then (if cls.toList = [] then (if K < -1000000 then some (false, n) else if 1000000 < K then some (false, n) else if xs = [] then some (true, n) else some (false, n)) else some (false, n)) else
 if kd = 3 then (if cls.toList = [] then (if K < -1000000 then some (false, n) else if 1000000 < K then some (false, n) else if 6 < xs.length then some (false, n) else impl_Action_good.g fs xs n) else some (false, n)) else
 if kd = 4 then (if cls.toList = [] then (if K = 0 then (if xs = [] then some (true, n) else some (false, n)) else some (false, n)) else some (false, n)) else some (false, n)
theorem ag_ba {a : ByteArray} (h : a.toList = []) : a = ⟨#[]⟩ := by
 rw [ByteArray.toList_eq] at h; cases a with | mk x =>
 exact congrArg ByteArray.mk (Array.toList_eq_nil_iff.1 h)
theorem ag_g_cons (fs xs : List Int) (n : Int) (i : Nat) (h : i < xs.length) (p : Bool × Int) (hg : impl_Action_good.g fs (xs.drop i) n = some p) : (if 0 ≤ rd xs (i : Int) ∧ rd xs (i : Int) < (fs.length : Int) then (if rd fs (rd xs (i : Int)) = n then impl_Action_good.g fs (xs.drop (i + 1)) (rd xs (i : Int) + 1) else some (false, n)) else some (false, n)) = some p := by
 have e : rd xs (i : Int) = xs[i] := by
  unfold rd
  simp [h]
 rw [List.drop_eq_getElem_cons h] at hg; unfold impl_Action_good.g at hg
 rw [e]; exact hg
set_option maxHeartbeats 8000000 in
set_option maxRecDepth 100000 in
theorem impl_Action_good.calls (kd K : Int) (cls : ByteArray) (B : Option Addr) (cB : Nat) (xs : List Int) (bt base : Nat) (AF : Option Addr) (cF : Nat) (vD : Value) (fs : List Int) (b : Nat) (n n' : Int) (r : Bool) (w0 w : World) (hB : Below w0.heap.size w0 w) (hrx : Kd.C (Kd.int .i64) w0 B xs.length xs) (ht : w.heap[bt]? = some (.cells #[.slice AF fs.length cF, vD] 79 (0, 0))) (hf : w.ownsRow base 3 1 (.slice AF fs.length cF) fs.length (nums .i64 fs)) (hne : some b ≠ (Value.slice AF fs.length cF).ownBlock) (hbb : w.heap[b]? = some (.cells #[.int .i64 n] 3 (0, 0))) (hb0 : w0.heap.size ≤ b) (h : impl_Action_good.f fs kd K cls xs n = some (r, n')) :
  Calls Try.prog 35 #[.agg #[.int .i64 kd, .int .i64 K, .string cls, .slice B xs.length cB], .pointer (some ⟨bt, 0, none⟩), .pointer (some ⟨b, 0, none⟩)] w fun e w' => e = .returned (.bool r) ∧ w'.heap[b]? = some (.cells #[.int .i64 n'] 3 (0, 0)) ∧ w.grownBy w' (some b) ∧ w.heap.size ≤ w'.heap.size := by
 have hu2 := Try.underlying46; have hu3 := Try.underlying79; have HB := a_ hB; have HX := a_ hrx; have HB0 := a_ hb0; have HT := a_ ht; have HF := a_ hf; have HNE := a_ hne; have HN := a_ hbb; have HBT : Aside0 (bt ≠ b) := ⟨blk_ne ht hbb (by decide)⟩
 have HXL : Aside0 (xs.length ≤ 9223372036854775807) := ⟨hrx.2.1⟩
 have HFL : Aside0 (fs.length ≤ 9223372036854775807) := ⟨(own_reads' hf).2.1⟩
 clear hB hrx hb0 ht hf hne hbb; unfold impl_Action_good.f at h
 by_cases k1 : kd = 1
 ·subst k1; rw [if_pos rfl] at h; by_cases c1 : goodClsB cls = true
  ·rw [if_pos c1] at h; have HGC : Aside0 (impl_goodCls.f cls = some true) := ⟨by rw [goodCls_some, c1]⟩
   clear c1; by_cases c2 : K = 0
   ·subst c2; rw [if_pos rfl] at h; by_cases c3 : 6 < xs.length
    ·rw [if_pos c3] at h; cases h; have q1 : decide ((6 : Int) < (xs.length : Int)) = true := decide_eq_true (by omega)
     clear c3; go_enter Try.func35, Try.ntmps35; go_wp2_with (go_at_call 51; refine (impl_goodCls.calls cls true _ HGC.out).mono ?_; rintro e w1 ⟨rfl, hd⟩; have HNA := a_ (blk_below (blk_alloc (blk_alloc HN.out (.cells #[.int .i64 1, .int .i64 0, .string cls, .slice B xs.length cB] 46)) (.cells #[.int .i64 1, .int .i64 0, .string cls, .slice none 0 0] 46)) hd); have HG := a_ (((World.grownBy_alloc w (.cells #[.int .i64 1, .int .i64 0, .string cls, .slice B xs.length cB] 46) (some b)).trans (World.grownBy_alloc _ (.cells #[.int .i64 1, .int .i64 0, .string cls, .slice none 0 0] 46) (some b))).trans (grown_of_below hd (some b))); have BA1 := blk_below (blk_alloc (blk_new w (.cells #[.int .i64 1, .int .i64 0, .string cls, .slice B xs.length cB] 46)) (.cells #[.int .i64 1, .int .i64 0, .string cls, .slice none 0 0] 46)) hd; have BP1 := blk_below (blk_new1 w (.cells #[.int .i64 1, .int .i64 0, .string cls, .slice B xs.length cB] 46) (.cells #[.int .i64 1, .int .i64 0, .string cls, .slice none 0 0] 46)) hd; have ha0 := (blk_cell BA1 0).trans rfl; have ha1 := (blk_cell BA1 1).trans rfl; have ha2 := (blk_cell BA1 2).trans rfl; have ha3 := (blk_cell BA1 3).trans rfl; have hp1 := (blk_cell BP1 1).trans rfl; have hp2 := (blk_cell BP1 2).trans rfl; simp only [List.getElem?_toArray, List.getElem?_cons_zero, List.getElem?_cons_succ] at ha0 ha1 ha2 ha3 hp1 hp2; clear hd BA1 BP1); go_ret; exact ⟨rfl, HNA.out, HG.out, HG.out.size⟩
    ·rw [if_neg c3] at h; have HH : Aside0 (impl_Action_good.g fs (xs.drop 0) n = some (r, n')) := ⟨h⟩
     have q1 : decide ((6 : Int) < (xs.length : Int)) = false := decide_eq_false (by omega)
     clear c3 h; by_cases c4 : 0 < xs.length
     ·have q2 : decide ((0 : Int) < (xs.length : Int)) = true := decide_eq_true (by omega)
      have q3 : decide (0 < xs.length) = true := decide_eq_true (by omega)
      clear c4; go_enter Try.func35, Try.ntmps35; go_wp2_with (go_at_call 51; refine (impl_goodCls.calls cls true _ HGC.out).mono ?_; rintro e w1 ⟨rfl, hd⟩; have HNA := a_ (blk_below (blk_alloc (blk_alloc HN.out (.cells #[.int .i64 1, .int .i64 0, .string cls, .slice B xs.length cB] 46)) (.cells #[.int .i64 1, .int .i64 0, .string cls, .slice none 0 0] 46)) hd); have HG := a_ (((World.grownBy_alloc w (.cells #[.int .i64 1, .int .i64 0, .string cls, .slice B xs.length cB] 46) (some b)).trans (World.grownBy_alloc _ (.cells #[.int .i64 1, .int .i64 0, .string cls, .slice none 0 0] 46) (some b))).trans (grown_of_below hd (some b))); have BA1 := blk_below (blk_alloc (blk_new w (.cells #[.int .i64 1, .int .i64 0, .string cls, .slice B xs.length cB] 46)) (.cells #[.int .i64 1, .int .i64 0, .string cls, .slice none 0 0] 46)) hd; have BP1 := blk_below (blk_new1 w (.cells #[.int .i64 1, .int .i64 0, .string cls, .slice B xs.length cB] 46) (.cells #[.int .i64 1, .int .i64 0, .string cls, .slice none 0 0] 46)) hd; have ha0 := (blk_cell BA1 0).trans rfl; have ha1 := (blk_cell BA1 1).trans rfl; have ha2 := (blk_cell BA1 2).trans rfl; have ha3 := (blk_cell BA1 3).trans rfl; have hp1 := (blk_cell BP1 1).trans rfl; have hp2 := (blk_cell BP1 2).trans rfl; simp only [List.getElem?_toArray, List.getElem?_cons_zero, List.getElem?_cons_succ] at ha0 ha1 ha2 ha3 hp1 hp2; clear hd BA1 BP1); go_loopg [77] xs.length (fun gg v77 wr => ∃ (i : Nat) (m : Int), i ≤ xs.length ∧ xs.length - i ≤ gg ∧ v77 = .int .i64 (i : Int) ∧ Aside0 (impl_Action_good.g fs (xs.drop i) m = some (r, n')) ∧ Aside0 (wr.heap[b]? = some (.cells #[.int .i64 m] 3 (0, 0))) ∧ Aside0 (w.grownBy wr (some b)))
      case atStart => exact ⟨0, n, Nat.zero_le _, Nat.le_refl _, rfl, HH, HNA, HG⟩
      obtain ⟨i, m, hi, hgg, rfl, HH2, HN2, HG2⟩ := hrel; by_cases hlt : i < xs.length
      ·have hz : (i : Int) < (xs.length : Int) := by omega
       have hz0 : (0 : Int) ≤ (i : Int) := by omega
       have HW : Aside0 (Below w0.heap.size w0 wr) := ⟨HB.out.grown HG2.out HB.out.size (by intro q e; injection e with e; have := HB0.out; omega)⟩
       obtain ⟨ad, eA, hx⟩ := Kd.at_int HX.out (i : Int) hz0 hz; subst eA; replace hx := (HW.out.cell (World.block_lt_of_cell? w0 _ hx)).trans hx; have hstep := ag_g_cons fs xs m i hlt _ HH2.out; have hn0 := cell_of_one HN2.out; have hnf := free_of_one HN2.out; have hT2 := blk_grown HT.out HG2.out (by intro e; injection e with e; exact HBT.out e); have hF2 := own_other HF.out HG2.out (Or.inr (fun e => HNE.out e.symm)); have ht0 := (blk_cell hT2 0).trans rfl; simp only [List.getElem?_toArray, List.getElem?_cons_zero, List.getElem?_cons_succ] at ht0; have HF2 := a_ hF2; have HFL2 := HFL.out; clear hT2 hF2; simp only [Int.toNat_natCast] at hx; generalize rd xs (i : Int) = x at *; by_cases d1 : x < 0
       ·rw [if_neg (by omega)] at hstep; cases hstep; have q1 : decide (x < 0) = true := decide_eq_true d1
        clear d1; go_wp2; go_quiet (fail)
        go_wp2; go_ret; exact ⟨rfl, blk_drewN HN2.out _, HG2.out.trans (grown_of_below (pw_below_drewN (Below.refl _ _) _) _), HG2.out.size⟩
       by_cases d2 : (fs.length : Int) ≤ x
       ·rw [if_neg (by omega)] at hstep; cases hstep; have q1 : decide (x < 0) = false := decide_eq_false d1
        have q2 : decide ((fs.length : Int) ≤ x) = true := decide_eq_true d2
        clear d1 d2; go_wp2; go_quiet (fail)
        go_wp2; go_ret; exact ⟨rfl, blk_drewN HN2.out _, HG2.out.trans (grown_of_below (pw_below_drewN (Below.refl _ _) _) _), HG2.out.size⟩
       rw [if_pos (by omega)] at hstep; have d1' : 0 ≤ x := by omega
       have d2' : x < (fs.length : Int) := by omega
       obtain ⟨adf, ef, hy⟩ := (own_reads' HF2.out).at_ x d1' d2'; cases ef; have q1 : decide (x < 0) = false := decide_eq_false d1
       have q2 : decide ((fs.length : Int) ≤ x) = false := decide_eq_false d2
       clear d1 d2; by_cases d3 : rd fs x = m
       ·rw [if_pos d3] at hstep; have q3 : (rd fs x == m) = true := by simpa using d3
        have q4 : (rd fs x != m) = false := by simpa using d3
        have HS2 := a_ hstep; have D3 := a_ d3; clear hstep d3; go_wp2; go_quiet (fail)
        generalize hq : wr.drewN nq = wq; have HN4 := a_ (blk_at hq HN2.out); have HG4 : Aside0 (w.grownBy wq (some b)) := ⟨by subst hq; exact HG2.out.trans (grown_of_below (pw_below_drewN (Below.refl _ _) _) _)⟩
        clear hq hn0 hnf ht0 hx hy; have hn4 := cell_of_one HN4.out; have hnf4 := free_of_one HN4.out; go_wp2; go_roundg (xs.length - (i + 1))
        case measure => omega
        case rel =>
         exact ⟨i + 1, _, by omega, by omega, by rw [show wrap64 ((i : Int) + 1) = ((i + 1 : Nat) : Int) by unfold wrap64; have := HXL.out; omega], HS2, ⟨one_setCell HN4.out⟩, ⟨HG4.out.trans (grownBy_setCell' _ _ _)⟩⟩
       ·rw [if_neg d3] at hstep; cases hstep; have q3 : (rd fs x == n') = false := by simpa using d3
        have q4 : (rd fs x != n') = true := by simpa using d3
        clear d3; go_wp2; go_quiet (fail)
        go_wp2; go_ret; exact ⟨rfl, blk_drewN HN2.out _, HG2.out.trans (grown_of_below (pw_below_drewN (Below.refl _ _) _) _), HG2.out.size⟩
      ·have hil : i = xs.length := by omega
       subst hil; have e0 := HH2.out; rw [List.drop_length] at e0; unfold impl_Action_good.g at e0
       cases e0; clear HH2; go_wp2; go_ret; exact ⟨rfl, HN2.out, HG2.out, HG2.out.size⟩
     ·have q2 : decide ((0 : Int) < (xs.length : Int)) = false := decide_eq_false (by omega)
      have q3 : decide (0 < xs.length) = false := decide_eq_false (by omega)
      clear c4; go_enter Try.func35, Try.ntmps35; go_wp2_with (go_at_call 51; refine (impl_goodCls.calls cls true _ HGC.out).mono ?_; rintro e w1 ⟨rfl, hd⟩; have HNA := a_ (blk_below (blk_alloc (blk_alloc HN.out (.cells #[.int .i64 1, .int .i64 0, .string cls, .slice B xs.length cB] 46)) (.cells #[.int .i64 1, .int .i64 0, .string cls, .slice none 0 0] 46)) hd); have HG := a_ (((World.grownBy_alloc w (.cells #[.int .i64 1, .int .i64 0, .string cls, .slice B xs.length cB] 46) (some b)).trans (World.grownBy_alloc _ (.cells #[.int .i64 1, .int .i64 0, .string cls, .slice none 0 0] 46) (some b))).trans (grown_of_below hd (some b))); have BA1 := blk_below (blk_alloc (blk_new w (.cells #[.int .i64 1, .int .i64 0, .string cls, .slice B xs.length cB] 46)) (.cells #[.int .i64 1, .int .i64 0, .string cls, .slice none 0 0] 46)) hd; have BP1 := blk_below (blk_new1 w (.cells #[.int .i64 1, .int .i64 0, .string cls, .slice B xs.length cB] 46) (.cells #[.int .i64 1, .int .i64 0, .string cls, .slice none 0 0] 46)) hd; have ha0 := (blk_cell BA1 0).trans rfl; have ha1 := (blk_cell BA1 1).trans rfl; have ha2 := (blk_cell BA1 2).trans rfl; have ha3 := (blk_cell BA1 3).trans rfl; have hp1 := (blk_cell BP1 1).trans rfl; have hp2 := (blk_cell BP1 2).trans rfl; simp only [List.getElem?_toArray, List.getElem?_cons_zero, List.getElem?_cons_succ] at ha0 ha1 ha2 ha3 hp1 hp2; clear hd BA1 BP1); go_loopg [77] xs.length (fun gg v77 wr => ∃ (i : Nat) (m : Int), i ≤ xs.length ∧ xs.length - i ≤ gg ∧ v77 = .int .i64 (i : Int) ∧ Aside0 (impl_Action_good.g fs (xs.drop i) m = some (r, n')) ∧ Aside0 (wr.heap[b]? = some (.cells #[.int .i64 m] 3 (0, 0))) ∧ Aside0 (w.grownBy wr (some b)))
      case atStart => exact ⟨0, n, Nat.zero_le _, Nat.le_refl _, rfl, HH, HNA, HG⟩
      obtain ⟨i, m, hi, hgg, rfl, HH2, HN2, HG2⟩ := hrel; by_cases hlt : i < xs.length
      ·have hz : (i : Int) < (xs.length : Int) := by omega
       have hz0 : (0 : Int) ≤ (i : Int) := by omega
       have HW : Aside0 (Below w0.heap.size w0 wr) := ⟨HB.out.grown HG2.out HB.out.size (by intro q e; injection e with e; have := HB0.out; omega)⟩
       obtain ⟨ad, eA, hx⟩ := Kd.at_int HX.out (i : Int) hz0 hz; subst eA; replace hx := (HW.out.cell (World.block_lt_of_cell? w0 _ hx)).trans hx; have hstep := ag_g_cons fs xs m i hlt _ HH2.out; have hn0 := cell_of_one HN2.out; have hnf := free_of_one HN2.out; have hT2 := blk_grown HT.out HG2.out (by intro e; injection e with e; exact HBT.out e); have hF2 := own_other HF.out HG2.out (Or.inr (fun e => HNE.out e.symm)); have ht0 := (blk_cell hT2 0).trans rfl; simp only [List.getElem?_toArray, List.getElem?_cons_zero, List.getElem?_cons_succ] at ht0; have HF2 := a_ hF2; have HFL2 := HFL.out; clear hT2 hF2; simp only [Int.toNat_natCast] at hx; generalize rd xs (i : Int) = x at *; by_cases d1 : x < 0
       ·rw [if_neg (by omega)] at hstep; cases hstep; have q1 : decide (x < 0) = true := decide_eq_true d1
        clear d1; go_wp2; go_quiet (fail)
        go_wp2; go_ret; exact ⟨rfl, blk_drewN HN2.out _, HG2.out.trans (grown_of_below (pw_below_drewN (Below.refl _ _) _) _), HG2.out.size⟩
       by_cases d2 : (fs.length : Int) ≤ x
       ·rw [if_neg (by omega)] at hstep; cases hstep; have q1 : decide (x < 0) = false := decide_eq_false d1
        have q2 : decide ((fs.length : Int) ≤ x) = true := decide_eq_true d2
        clear d1 d2; go_wp2; go_quiet (fail)
        go_wp2; go_ret; exact ⟨rfl, blk_drewN HN2.out _, HG2.out.trans (grown_of_below (pw_below_drewN (Below.refl _ _) _) _), HG2.out.size⟩
       rw [if_pos (by omega)] at hstep; have d1' : 0 ≤ x := by omega
       have d2' : x < (fs.length : Int) := by omega
       obtain ⟨adf, ef, hy⟩ := (own_reads' HF2.out).at_ x d1' d2'; cases ef; have q1 : decide (x < 0) = false := decide_eq_false d1
       have q2 : decide ((fs.length : Int) ≤ x) = false := decide_eq_false d2
       clear d1 d2; by_cases d3 : rd fs x = m
       ·rw [if_pos d3] at hstep; have q3 : (rd fs x == m) = true := by simpa using d3
        have q4 : (rd fs x != m) = false := by simpa using d3
        have HS2 := a_ hstep; have D3 := a_ d3; clear hstep d3; go_wp2; go_quiet (fail)
        generalize hq : wr.drewN nq = wq; have HN4 := a_ (blk_at hq HN2.out); have HG4 : Aside0 (w.grownBy wq (some b)) := ⟨by subst hq; exact HG2.out.trans (grown_of_below (pw_below_drewN (Below.refl _ _) _) _)⟩
        clear hq hn0 hnf ht0 hx hy; have hn4 := cell_of_one HN4.out; have hnf4 := free_of_one HN4.out; go_wp2; go_roundg (xs.length - (i + 1))
        case measure => omega
        case rel =>
         exact ⟨i + 1, _, by omega, by omega, by rw [show wrap64 ((i : Int) + 1) = ((i + 1 : Nat) : Int) by unfold wrap64; have := HXL.out; omega], HS2, ⟨one_setCell HN4.out⟩, ⟨HG4.out.trans (grownBy_setCell' _ _ _)⟩⟩
       ·rw [if_neg d3] at hstep; cases hstep; have q3 : (rd fs x == n') = false := by simpa using d3
        have q4 : (rd fs x != n') = true := by simpa using d3
        clear d3; go_wp2; go_quiet (fail)
        go_wp2; go_ret; exact ⟨rfl, blk_drewN HN2.out _, HG2.out.trans (grown_of_below (pw_below_drewN (Below.refl _ _) _) _), HG2.out.size⟩
      ·have hil : i = xs.length := by omega
       subst hil; have e0 := HH2.out; rw [List.drop_length] at e0; unfold impl_Action_good.g at e0
       cases e0; clear HH2; go_wp2; go_ret; exact ⟨rfl, HN2.out, HG2.out, HG2.out.size⟩
   ·rw [if_neg c2] at h; cases h; have q3 : ((0 : Int) == K) = false := by simpa using Ne.symm c2
    have q4 : ((0 : Int) != K) = true := by simpa using Ne.symm c2
    clear c2; go_enter Try.func35, Try.ntmps35; go_wp2_with (go_at_call 51; refine (impl_goodCls.calls cls true _ HGC.out).mono ?_; rintro e w1 ⟨rfl, hd⟩; have HNA := a_ (blk_below (blk_alloc (blk_alloc HN.out (.cells #[.int .i64 1, .int .i64 K, .string cls, .slice B xs.length cB] 46)) (.cells #[.int .i64 1, .int .i64 0, .string cls, .slice none 0 0] 46)) hd); have HG := a_ (((World.grownBy_alloc w (.cells #[.int .i64 1, .int .i64 K, .string cls, .slice B xs.length cB] 46) (some b)).trans (World.grownBy_alloc _ (.cells #[.int .i64 1, .int .i64 0, .string cls, .slice none 0 0] 46) (some b))).trans (grown_of_below hd (some b))); have BA1 := blk_below (blk_alloc (blk_new w (.cells #[.int .i64 1, .int .i64 K, .string cls, .slice B xs.length cB] 46)) (.cells #[.int .i64 1, .int .i64 0, .string cls, .slice none 0 0] 46)) hd; have BP1 := blk_below (blk_new1 w (.cells #[.int .i64 1, .int .i64 K, .string cls, .slice B xs.length cB] 46) (.cells #[.int .i64 1, .int .i64 0, .string cls, .slice none 0 0] 46)) hd; have ha0 := (blk_cell BA1 0).trans rfl; have ha1 := (blk_cell BA1 1).trans rfl; have ha2 := (blk_cell BA1 2).trans rfl; have ha3 := (blk_cell BA1 3).trans rfl; have hp1 := (blk_cell BP1 1).trans rfl; have hp2 := (blk_cell BP1 2).trans rfl; simp only [List.getElem?_toArray, List.getElem?_cons_zero, List.getElem?_cons_succ] at ha0 ha1 ha2 ha3 hp1 hp2; clear hd BA1 BP1); go_ret; exact ⟨rfl, HNA.out, HG.out, HG.out.size⟩
  ·rw [if_neg c1] at h; cases h; have HGC : Aside0 (impl_goodCls.f cls = some false) := ⟨by rw [goodCls_some, Bool.eq_false_iff.2 c1]⟩
   clear c1; go_enter Try.func35, Try.ntmps35; go_wp2_with (go_at_call 51; refine (impl_goodCls.calls cls false _ HGC.out).mono ?_; rintro e w1 ⟨rfl, hd⟩; have HNA := a_ (blk_below (blk_alloc (blk_alloc HN.out (.cells #[.int .i64 1, .int .i64 K, .string cls, .slice B xs.length cB] 46)) (.cells #[.int .i64 1, .int .i64 0, .string cls, .slice none 0 0] 46)) hd); have HG := a_ (((World.grownBy_alloc w (.cells #[.int .i64 1, .int .i64 K, .string cls, .slice B xs.length cB] 46) (some b)).trans (World.grownBy_alloc _ (.cells #[.int .i64 1, .int .i64 0, .string cls, .slice none 0 0] 46) (some b))).trans (grown_of_below hd (some b))); have BA1 := blk_below (blk_alloc (blk_new w (.cells #[.int .i64 1, .int .i64 K, .string cls, .slice B xs.length cB] 46)) (.cells #[.int .i64 1, .int .i64 0, .string cls, .slice none 0 0] 46)) hd; have BP1 := blk_below (blk_new1 w (.cells #[.int .i64 1, .int .i64 K, .string cls, .slice B xs.length cB] 46) (.cells #[.int .i64 1, .int .i64 0, .string cls, .slice none 0 0] 46)) hd; have ha0 := (blk_cell BA1 0).trans rfl; have ha1 := (blk_cell BA1 1).trans rfl; have ha2 := (blk_cell BA1 2).trans rfl; have ha3 := (blk_cell BA1 3).trans rfl; have hp1 := (blk_cell BP1 1).trans rfl; have hp2 := (blk_cell BP1 2).trans rfl; simp only [List.getElem?_toArray, List.getElem?_cons_zero, List.getElem?_cons_succ] at ha0 ha1 ha2 ha3 hp1 hp2; clear hd BA1 BP1); go_ret; exact ⟨rfl, HNA.out, HG.out, HG.out.size⟩
 by_cases k2 : kd = 2
 ·subst k2; clear k1; rw [if_neg (by decide), if_pos rfl] at h; by_cases c2 : cls.toList = []
  ·rw [if_pos c2] at h; have c3 : cls = ⟨#[]⟩ := ag_ba c2
   subst c3; clear c2; by_cases c4 : K < -1000000
   ·rw [if_pos c4] at h; cases h; have q4 : decide (K < -1000000) = true := decide_eq_true c4
    clear c4; have HNA := a_ (blk_alloc (blk_alloc HN.out (.cells #[.int .i64 2, .int .i64 K, .string (⟨#[]⟩ : ByteArray), .slice B xs.length cB] 46)) (.cells #[.int .i64 2, .int .i64 K, .string (⟨#[]⟩ : ByteArray), .slice none 0 0] 46)); have HG := a_ ((World.grownBy_alloc w (.cells #[.int .i64 2, .int .i64 K, .string (⟨#[]⟩ : ByteArray), .slice B xs.length cB] 46) (some b)).trans (World.grownBy_alloc _ (.cells #[.int .i64 2, .int .i64 K, .string (⟨#[]⟩ : ByteArray), .slice none 0 0] 46) (some b))); go_enter Try.func35, Try.ntmps35; go_wp2; go_ret; exact ⟨rfl, HNA.out, HG.out, HG.out.size⟩
   rw [if_neg c4] at h; have q4 : decide (K < -1000000) = false := decide_eq_false c4
   clear c4; by_cases c5 : 1000000 < K
   ·rw [if_pos c5] at h; cases h; have q5 : decide (1000000 < K) = true := decide_eq_true c5
    clear c5; have HNA := a_ (blk_alloc (blk_alloc HN.out (.cells #[.int .i64 2, .int .i64 K, .string (⟨#[]⟩ : ByteArray), .slice B xs.length cB] 46)) (.cells #[.int .i64 2, .int .i64 K, .string (⟨#[]⟩ : ByteArray), .slice none 0 0] 46)); have HG := a_ ((World.grownBy_alloc w (.cells #[.int .i64 2, .int .i64 K, .string (⟨#[]⟩ : ByteArray), .slice B xs.length cB] 46) (some b)).trans (World.grownBy_alloc _ (.cells #[.int .i64 2, .int .i64 K, .string (⟨#[]⟩ : ByteArray), .slice none 0 0] 46) (some b))); go_enter Try.func35, Try.ntmps35; go_wp2; go_ret; exact ⟨rfl, HNA.out, HG.out, HG.out.size⟩
   rw [if_neg c5] at h; have q5 : decide (1000000 < K) = false := decide_eq_false c5
   clear c5; by_cases c1 : xs = []
   ·subst c1; rw [if_pos rfl] at h; cases h; have HNA := a_ (blk_alloc (blk_alloc HN.out (.cells #[.int .i64 2, .int .i64 K, .string (⟨#[]⟩ : ByteArray), .slice B 0 cB] 46)) (.cells #[.int .i64 2, .int .i64 K, .string (⟨#[]⟩ : ByteArray), .slice none 0 0] 46)); have HG := a_ ((World.grownBy_alloc w (.cells #[.int .i64 2, .int .i64 K, .string (⟨#[]⟩ : ByteArray), .slice B 0 cB] 46) (some b)).trans (World.grownBy_alloc _ (.cells #[.int .i64 2, .int .i64 K, .string (⟨#[]⟩ : ByteArray), .slice none 0 0] 46) (some b))); go_enter Try.func35, Try.ntmps35; go_wp2; go_loopg [77] 0 (fun gg v77 wr => v77 = .int .i64 0 ∧ Aside0 (wr.heap[b]? = some (.cells #[.int .i64 n] 3 (0, 0))) ∧ Aside0 (w.grownBy wr (some b)))
    case atStart => exact ⟨rfl, HNA, HG⟩
    obtain ⟨rfl, HN2, HG2⟩ := hrel; go_wp2; go_ret; exact ⟨rfl, HN2.out, HG2.out, HG2.out.size⟩
   ·rw [if_neg c1] at h; cases h; have c3 : 0 < xs.length := by cases xs with | nil => exact absurd rfl c1 | cons a l => simp
    have q2 : decide ((0 : Int) < (xs.length : Int)) = true := decide_eq_true (by omega)
    have q3 : decide (0 < xs.length) = true := decide_eq_true c3
    clear c1 c3; by_cases c4 : 6 < xs.length
    ·have q1 : decide ((6 : Int) < (xs.length : Int)) = true := decide_eq_true (by omega)
     clear c4; have HNA := a_ (blk_alloc (blk_alloc HN.out (.cells #[.int .i64 2, .int .i64 K, .string (⟨#[]⟩ : ByteArray), .slice B xs.length cB] 46)) (.cells #[.int .i64 2, .int .i64 K, .string (⟨#[]⟩ : ByteArray), .slice none 0 0] 46)); have HG := a_ ((World.grownBy_alloc w (.cells #[.int .i64 2, .int .i64 K, .string (⟨#[]⟩ : ByteArray), .slice B xs.length cB] 46) (some b)).trans (World.grownBy_alloc _ (.cells #[.int .i64 2, .int .i64 K, .string (⟨#[]⟩ : ByteArray), .slice none 0 0] 46) (some b))); go_enter Try.func35, Try.ntmps35; go_wp2; go_ret; exact ⟨rfl, HNA.out, HG.out, HG.out.size⟩
    ·have q1 : decide ((6 : Int) < (xs.length : Int)) = false := decide_eq_false (by omega)
     clear c4; have HNA := a_ (blk_alloc (blk_alloc HN.out (.cells #[.int .i64 2, .int .i64 K, .string (⟨#[]⟩ : ByteArray), .slice B xs.length cB] 46)) (.cells #[.int .i64 2, .int .i64 K, .string (⟨#[]⟩ : ByteArray), .slice none 0 0] 46)); have HG := a_ ((World.grownBy_alloc w (.cells #[.int .i64 2, .int .i64 K, .string (⟨#[]⟩ : ByteArray), .slice B xs.length cB] 46) (some b)).trans (World.grownBy_alloc _ (.cells #[.int .i64 2, .int .i64 K, .string (⟨#[]⟩ : ByteArray), .slice none 0 0] 46) (some b))); go_enter Try.func35, Try.ntmps35; go_wp2; go_ret; exact ⟨rfl, HNA.out, HG.out, HG.out.size⟩
  ·rw [if_neg c2] at h; cases h; have s1 : (cls.toList == ([] : List UInt8)) = false := beq_eq_false_iff_ne.mpr c2
   have s2 : (([] : List UInt8) == cls.toList) = false := beq_eq_false_iff_ne.mpr (Ne.symm c2)
   have s3 : cls.toList.isEmpty = false := by simpa using c2
   have s4 : (([] : List UInt8) != cls.toList) = true := bne_iff_ne.mpr (Ne.symm c2)
   have s5 : (cls.toList != ([] : List UInt8)) = true := bne_iff_ne.mpr c2
   clear c2; have HNA := a_ (blk_alloc (blk_alloc HN.out (.cells #[.int .i64 2, .int .i64 K, .string cls, .slice B xs.length cB] 46)) (.cells #[.int .i64 2, .int .i64 K, .string (⟨#[]⟩ : ByteArray), .slice none 0 0] 46)); have HG := a_ ((World.grownBy_alloc w (.cells #[.int .i64 2, .int .i64 K, .string cls, .slice B xs.length cB] 46) (some b)).trans (World.grownBy_alloc _ (.cells #[.int .i64 2, .int .i64 K, .string (⟨#[]⟩ : ByteArray), .slice none 0 0] 46) (some b))); go_enter Try.func35, Try.ntmps35; go_wp2; go_ret; exact ⟨rfl, HNA.out, HG.out, HG.out.size⟩
 by_cases k3 : kd = 3
 ·subst k3; clear k1 k2; rw [if_neg (by decide), if_neg (by decide), if_pos rfl] at h; by_cases c2 : cls.toList = []
  ·rw [if_pos c2] at h; have c3 : cls = ⟨#[]⟩ := ag_ba c2
   subst c3; clear c2; by_cases c4 : K < -1000000
   ·rw [if_pos c4] at h; cases h; have q4 : decide (K < -1000000) = true := decide_eq_true c4
    clear c4; have HNA := a_ (blk_alloc (blk_alloc HN.out (.cells #[.int .i64 3, .int .i64 K, .string (⟨#[]⟩ : ByteArray), .slice B xs.length cB] 46)) (.cells #[.int .i64 3, .int .i64 K, .string (⟨#[]⟩ : ByteArray), .slice none 0 0] 46)); have HG := a_ ((World.grownBy_alloc w (.cells #[.int .i64 3, .int .i64 K, .string (⟨#[]⟩ : ByteArray), .slice B xs.length cB] 46) (some b)).trans (World.grownBy_alloc _ (.cells #[.int .i64 3, .int .i64 K, .string (⟨#[]⟩ : ByteArray), .slice none 0 0] 46) (some b))); go_enter Try.func35, Try.ntmps35; go_wp2; go_ret; exact ⟨rfl, HNA.out, HG.out, HG.out.size⟩
   rw [if_neg c4] at h; have q4 : decide (K < -1000000) = false := decide_eq_false c4
   clear c4; by_cases c5 : 1000000 < K
   ·rw [if_pos c5] at h; cases h; have q5 : decide (1000000 < K) = true := decide_eq_true c5
    clear c5; have HNA := a_ (blk_alloc (blk_alloc HN.out (.cells #[.int .i64 3, .int .i64 K, .string (⟨#[]⟩ : ByteArray), .slice B xs.length cB] 46)) (.cells #[.int .i64 3, .int .i64 K, .string (⟨#[]⟩ : ByteArray), .slice none 0 0] 46)); have HG := a_ ((World.grownBy_alloc w (.cells #[.int .i64 3, .int .i64 K, .string (⟨#[]⟩ : ByteArray), .slice B xs.length cB] 46) (some b)).trans (World.grownBy_alloc _ (.cells #[.int .i64 3, .int .i64 K, .string (⟨#[]⟩ : ByteArray), .slice none 0 0] 46) (some b))); go_enter Try.func35, Try.ntmps35; go_wp2; go_ret; exact ⟨rfl, HNA.out, HG.out, HG.out.size⟩
   rw [if_neg c5] at h; have q5 : decide (1000000 < K) = false := decide_eq_false c5
   clear c5; by_cases c3 : 6 < xs.length
   ·rw [if_pos c3] at h; cases h; have q1 : decide ((6 : Int) < (xs.length : Int)) = true := decide_eq_true (by omega)
    clear c3; have HNA := a_ (blk_alloc (blk_alloc HN.out (.cells #[.int .i64 3, .int .i64 K, .string (⟨#[]⟩ : ByteArray), .slice B xs.length cB] 46)) (.cells #[.int .i64 3, .int .i64 K, .string (⟨#[]⟩ : ByteArray), .slice none 0 0] 46)); have HG := a_ ((World.grownBy_alloc w (.cells #[.int .i64 3, .int .i64 K, .string (⟨#[]⟩ : ByteArray), .slice B xs.length cB] 46) (some b)).trans (World.grownBy_alloc _ (.cells #[.int .i64 3, .int .i64 K, .string (⟨#[]⟩ : ByteArray), .slice none 0 0] 46) (some b))); go_enter Try.func35, Try.ntmps35; go_wp2; go_ret; exact ⟨rfl, HNA.out, HG.out, HG.out.size⟩
   ·rw [if_neg c3] at h; have HH : Aside0 (impl_Action_good.g fs (xs.drop 0) n = some (r, n')) := ⟨h⟩
    have q1 : decide ((6 : Int) < (xs.length : Int)) = false := decide_eq_false (by omega)
    clear c3 h; by_cases c4 : 0 < xs.length
    ·have q2 : decide ((0 : Int) < (xs.length : Int)) = true := decide_eq_true (by omega)
     have q3 : decide (0 < xs.length) = true := decide_eq_true (by omega)
     clear c4; have HNA := a_ (blk_alloc (blk_alloc HN.out (.cells #[.int .i64 3, .int .i64 K, .string (⟨#[]⟩ : ByteArray), .slice B xs.length cB] 46)) (.cells #[.int .i64 3, .int .i64 K, .string (⟨#[]⟩ : ByteArray), .slice none 0 0] 46)); have HG := a_ ((World.grownBy_alloc w (.cells #[.int .i64 3, .int .i64 K, .string (⟨#[]⟩ : ByteArray), .slice B xs.length cB] 46) (some b)).trans (World.grownBy_alloc _ (.cells #[.int .i64 3, .int .i64 K, .string (⟨#[]⟩ : ByteArray), .slice none 0 0] 46) (some b))); go_enter Try.func35, Try.ntmps35; go_wp2; go_loopg [77] xs.length (fun gg v77 wr => ∃ (i : Nat) (m : Int), i ≤ xs.length ∧ xs.length - i ≤ gg ∧ v77 = .int .i64 (i : Int) ∧ Aside0 (impl_Action_good.g fs (xs.drop i) m = some (r, n')) ∧ Aside0 (wr.heap[b]? = some (.cells #[.int .i64 m] 3 (0, 0))) ∧ Aside0 (w.grownBy wr (some b)))
     case atStart => exact ⟨0, n, Nat.zero_le _, Nat.le_refl _, rfl, HH, HNA, HG⟩
     obtain ⟨i, m, hi, hgg, rfl, HH2, HN2, HG2⟩ := hrel; by_cases hlt : i < xs.length
     ·have hz : (i : Int) < (xs.length : Int) := by omega
      have hz0 : (0 : Int) ≤ (i : Int) := by omega
      have HW : Aside0 (Below w0.heap.size w0 wr) := ⟨HB.out.grown HG2.out HB.out.size (by intro q e; injection e with e; have := HB0.out; omega)⟩
      obtain ⟨ad, eA, hx⟩ := Kd.at_int HX.out (i : Int) hz0 hz; subst eA; replace hx := (HW.out.cell (World.block_lt_of_cell? w0 _ hx)).trans hx; have hstep := ag_g_cons fs xs m i hlt _ HH2.out; have hn0 := cell_of_one HN2.out; have hnf := free_of_one HN2.out; have hT2 := blk_grown HT.out HG2.out (by intro e; injection e with e; exact HBT.out e); have hF2 := own_other HF.out HG2.out (Or.inr (fun e => HNE.out e.symm)); have ht0 := (blk_cell hT2 0).trans rfl; simp only [List.getElem?_toArray, List.getElem?_cons_zero, List.getElem?_cons_succ] at ht0; have HF2 := a_ hF2; have HFL2 := HFL.out; clear hT2 hF2; simp only [Int.toNat_natCast] at hx; generalize rd xs (i : Int) = x at *; by_cases d1 : x < 0
      ·rw [if_neg (by omega)] at hstep; cases hstep; have q1 : decide (x < 0) = true := decide_eq_true d1
       clear d1; go_wp2; go_quiet (fail)
       go_wp2; go_ret; exact ⟨rfl, blk_drewN HN2.out _, HG2.out.trans (grown_of_below (pw_below_drewN (Below.refl _ _) _) _), HG2.out.size⟩
      by_cases d2 : (fs.length : Int) ≤ x
      ·rw [if_neg (by omega)] at hstep; cases hstep; have q1 : decide (x < 0) = false := decide_eq_false d1
       have q2 : decide ((fs.length : Int) ≤ x) = true := decide_eq_true d2
       clear d1 d2; go_wp2; go_quiet (fail)
       go_wp2; go_ret; exact ⟨rfl, blk_drewN HN2.out _, HG2.out.trans (grown_of_below (pw_below_drewN (Below.refl _ _) _) _), HG2.out.size⟩
      rw [if_pos (by omega)] at hstep; have d1' : 0 ≤ x := by omega
      have d2' : x < (fs.length : Int) := by omega
      obtain ⟨adf, ef, hy⟩ := (own_reads' HF2.out).at_ x d1' d2'; cases ef; have q1 : decide (x < 0) = false := decide_eq_false d1
      have q2 : decide ((fs.length : Int) ≤ x) = false := decide_eq_false d2
      clear d1 d2; by_cases d3 : rd fs x = m
      ·rw [if_pos d3] at hstep; have q3 : (rd fs x == m) = true := by simpa using d3
       have q4 : (rd fs x != m) = false := by simpa using d3
       have HS2 := a_ hstep; have D3 := a_ d3; clear hstep d3; go_wp2; go_quiet (fail)
       generalize hq : wr.drewN nq = wq; have HN4 := a_ (blk_at hq HN2.out); have HG4 : Aside0 (w.grownBy wq (some b)) := ⟨by subst hq; exact HG2.out.trans (grown_of_below (pw_below_drewN (Below.refl _ _) _) _)⟩
       clear hq hn0 hnf ht0 hx hy; have hn4 := cell_of_one HN4.out; have hnf4 := free_of_one HN4.out; go_wp2; go_roundg (xs.length - (i + 1))
       case measure => omega
       case rel =>
        exact ⟨i + 1, _, by omega, by omega, by rw [show wrap64 ((i : Int) + 1) = ((i + 1 : Nat) : Int) by unfold wrap64; have := HXL.out; omega], HS2, ⟨one_setCell HN4.out⟩, ⟨HG4.out.trans (grownBy_setCell' _ _ _)⟩⟩
      ·rw [if_neg d3] at hstep; cases hstep; have q3 : (rd fs x == n') = false := by simpa using d3
       have q4 : (rd fs x != n') = true := by simpa using d3
       clear d3; go_wp2; go_quiet (fail)
       go_wp2; go_ret; exact ⟨rfl, blk_drewN HN2.out _, HG2.out.trans (grown_of_below (pw_below_drewN (Below.refl _ _) _) _), HG2.out.size⟩
     ·have hil : i = xs.length := by omega
      subst hil; have e0 := HH2.out; rw [List.drop_length] at e0; unfold impl_Action_good.g at e0
      cases e0; clear HH2; go_wp2; go_ret; exact ⟨rfl, HN2.out, HG2.out, HG2.out.size⟩
    ·have q2 : decide ((0 : Int) < (xs.length : Int)) = false := decide_eq_false (by omega)
     have q3 : decide (0 < xs.length) = false := decide_eq_false (by omega)
     clear c4; have HNA := a_ (blk_alloc (blk_alloc HN.out (.cells #[.int .i64 3, .int .i64 K, .string (⟨#[]⟩ : ByteArray), .slice B xs.length cB] 46)) (.cells #[.int .i64 3, .int .i64 K, .string (⟨#[]⟩ : ByteArray), .slice none 0 0] 46)); have HG := a_ ((World.grownBy_alloc w (.cells #[.int .i64 3, .int .i64 K, .string (⟨#[]⟩ : ByteArray), .slice B xs.length cB] 46) (some b)).trans (World.grownBy_alloc _ (.cells #[.int .i64 3, .int .i64 K, .string (⟨#[]⟩ : ByteArray), .slice none 0 0] 46) (some b))); go_enter Try.func35, Try.ntmps35; go_wp2; go_loopg [77] xs.length (fun gg v77 wr => ∃ (i : Nat) (m : Int), i ≤ xs.length ∧ xs.length - i ≤ gg ∧ v77 = .int .i64 (i : Int) ∧ Aside0 (impl_Action_good.g fs (xs.drop i) m = some (r, n')) ∧ Aside0 (wr.heap[b]? = some (.cells #[.int .i64 m] 3 (0, 0))) ∧ Aside0 (w.grownBy wr (some b)))
     case atStart => exact ⟨0, n, Nat.zero_le _, Nat.le_refl _, rfl, HH, HNA, HG⟩
     obtain ⟨i, m, hi, hgg, rfl, HH2, HN2, HG2⟩ := hrel; by_cases hlt : i < xs.length
     ·have hz : (i : Int) < (xs.length : Int) := by omega
      have hz0 : (0 : Int) ≤ (i : Int) := by omega
      have HW : Aside0 (Below w0.heap.size w0 wr) := ⟨HB.out.grown HG2.out HB.out.size (by intro q e; injection e with e; have := HB0.out; omega)⟩
      obtain ⟨ad, eA, hx⟩ := Kd.at_int HX.out (i : Int) hz0 hz; subst eA; replace hx := (HW.out.cell (World.block_lt_of_cell? w0 _ hx)).trans hx; have hstep := ag_g_cons fs xs m i hlt _ HH2.out; have hn0 := cell_of_one HN2.out; have hnf := free_of_one HN2.out; have hT2 := blk_grown HT.out HG2.out (by intro e; injection e with e; exact HBT.out e); have hF2 := own_other HF.out HG2.out (Or.inr (fun e => HNE.out e.symm)); have ht0 := (blk_cell hT2 0).trans rfl; simp only [List.getElem?_toArray, List.getElem?_cons_zero, List.getElem?_cons_succ] at ht0; have HF2 := a_ hF2; have HFL2 := HFL.out; clear hT2 hF2; simp only [Int.toNat_natCast] at hx; generalize rd xs (i : Int) = x at *; by_cases d1 : x < 0
      ·rw [if_neg (by omega)] at hstep; cases hstep; have q1 : decide (x < 0) = true := decide_eq_true d1
       clear d1; go_wp2; go_quiet (fail)
       go_wp2; go_ret; exact ⟨rfl, blk_drewN HN2.out _, HG2.out.trans (grown_of_below (pw_below_drewN (Below.refl _ _) _) _), HG2.out.size⟩
      by_cases d2 : (fs.length : Int) ≤ x
      ·rw [if_neg (by omega)] at hstep; cases hstep; have q1 : decide (x < 0) = false := decide_eq_false d1
       have q2 : decide ((fs.length : Int) ≤ x) = true := decide_eq_true d2
       clear d1 d2; go_wp2; go_quiet (fail)
       go_wp2; go_ret; exact ⟨rfl, blk_drewN HN2.out _, HG2.out.trans (grown_of_below (pw_below_drewN (Below.refl _ _) _) _), HG2.out.size⟩
      rw [if_pos (by omega)] at hstep; have d1' : 0 ≤ x := by omega
      have d2' : x < (fs.length : Int) := by omega
      obtain ⟨adf, ef, hy⟩ := (own_reads' HF2.out).at_ x d1' d2'; cases ef; have q1 : decide (x < 0) = false := decide_eq_false d1
      have q2 : decide ((fs.length : Int) ≤ x) = false := decide_eq_false d2
      clear d1 d2; by_cases d3 : rd fs x = m
      ·rw [if_pos d3] at hstep; have q3 : (rd fs x == m) = true := by simpa using d3
       have q4 : (rd fs x != m) = false := by simpa using d3
       have HS2 := a_ hstep; have D3 := a_ d3; clear hstep d3; go_wp2; go_quiet (fail)
       generalize hq : wr.drewN nq = wq; have HN4 := a_ (blk_at hq HN2.out); have HG4 : Aside0 (w.grownBy wq (some b)) := ⟨by subst hq; exact HG2.out.trans (grown_of_below (pw_below_drewN (Below.refl _ _) _) _)⟩
       clear hq hn0 hnf ht0 hx hy; have hn4 := cell_of_one HN4.out; have hnf4 := free_of_one HN4.out; go_wp2; go_roundg (xs.length - (i + 1))
       case measure => omega
       case rel =>
        exact ⟨i + 1, _, by omega, by omega, by rw [show wrap64 ((i : Int) + 1) = ((i + 1 : Nat) : Int) by unfold wrap64; have := HXL.out; omega], HS2, ⟨one_setCell HN4.out⟩, ⟨HG4.out.trans (grownBy_setCell' _ _ _)⟩⟩
      ·rw [if_neg d3] at hstep; cases hstep; have q3 : (rd fs x == n') = false := by simpa using d3
       have q4 : (rd fs x != n') = true := by simpa using d3
       clear d3; go_wp2; go_quiet (fail)
       go_wp2; go_ret; exact ⟨rfl, blk_drewN HN2.out _, HG2.out.trans (grown_of_below (pw_below_drewN (Below.refl _ _) _) _), HG2.out.size⟩
     ·have hil : i = xs.length := by omega
      subst hil; have e0 := HH2.out; rw [List.drop_length] at e0; unfold impl_Action_good.g at e0
      cases e0; clear HH2; go_wp2; go_ret; exact ⟨rfl, HN2.out, HG2.out, HG2.out.size⟩
  ·rw [if_neg c2] at h; cases h; have s1 : (cls.toList == ([] : List UInt8)) = false := beq_eq_false_iff_ne.mpr c2
   have s2 : (([] : List UInt8) == cls.toList) = false := beq_eq_false_iff_ne.mpr (Ne.symm c2)
   have s3 : cls.toList.isEmpty = false := by simpa using c2
   have s4 : (([] : List UInt8) != cls.toList) = true := bne_iff_ne.mpr (Ne.symm c2)
   have s5 : (cls.toList != ([] : List UInt8)) = true := bne_iff_ne.mpr c2
   clear c2; have HNA := a_ (blk_alloc (blk_alloc HN.out (.cells #[.int .i64 3, .int .i64 K, .string cls, .slice B xs.length cB] 46)) (.cells #[.int .i64 3, .int .i64 K, .string (⟨#[]⟩ : ByteArray), .slice none 0 0] 46)); have HG := a_ ((World.grownBy_alloc w (.cells #[.int .i64 3, .int .i64 K, .string cls, .slice B xs.length cB] 46) (some b)).trans (World.grownBy_alloc _ (.cells #[.int .i64 3, .int .i64 K, .string (⟨#[]⟩ : ByteArray), .slice none 0 0] 46) (some b))); go_enter Try.func35, Try.ntmps35; go_wp2; go_ret; exact ⟨rfl, HNA.out, HG.out, HG.out.size⟩
 by_cases k4 : kd = 4
 ·subst k4; clear k1 k2 k3; rw [if_neg (by decide), if_neg (by decide), if_neg (by decide), if_pos rfl] at h; by_cases c2 : cls.toList = []
  ·rw [if_pos c2] at h; have c3 : cls = ⟨#[]⟩ := ag_ba c2
   subst c3; clear c2; by_cases c4 : K = 0
   rotate_left
   ·rw [if_neg c4] at h; cases h; have q4 : ((0 : Int) == K) = false := by simpa using Ne.symm c4
    have q5 : ((0 : Int) != K) = true := by simpa using Ne.symm c4
    clear c4; have HNA := a_ (blk_alloc (blk_alloc HN.out (.cells #[.int .i64 4, .int .i64 K, .string (⟨#[]⟩ : ByteArray), .slice B xs.length cB] 46)) (.cells #[.int .i64 4, .int .i64 0, .string (⟨#[]⟩ : ByteArray), .slice none 0 0] 46)); have HG := a_ ((World.grownBy_alloc w (.cells #[.int .i64 4, .int .i64 K, .string (⟨#[]⟩ : ByteArray), .slice B xs.length cB] 46) (some b)).trans (World.grownBy_alloc _ (.cells #[.int .i64 4, .int .i64 0, .string (⟨#[]⟩ : ByteArray), .slice none 0 0] 46) (some b))); go_enter Try.func35, Try.ntmps35; go_wp2; go_ret; exact ⟨rfl, HNA.out, HG.out, HG.out.size⟩
   subst c4; rw [if_pos rfl] at h; by_cases c1 : xs = []
   ·subst c1; rw [if_pos rfl] at h; cases h; have HNA := a_ (blk_alloc (blk_alloc HN.out (.cells #[.int .i64 4, .int .i64 0, .string (⟨#[]⟩ : ByteArray), .slice B 0 cB] 46)) (.cells #[.int .i64 4, .int .i64 0, .string (⟨#[]⟩ : ByteArray), .slice none 0 0] 46)); have HG := a_ ((World.grownBy_alloc w (.cells #[.int .i64 4, .int .i64 0, .string (⟨#[]⟩ : ByteArray), .slice B 0 cB] 46) (some b)).trans (World.grownBy_alloc _ (.cells #[.int .i64 4, .int .i64 0, .string (⟨#[]⟩ : ByteArray), .slice none 0 0] 46) (some b))); go_enter Try.func35, Try.ntmps35; go_wp2; go_loopg [77] 0 (fun gg v77 wr => v77 = .int .i64 0 ∧ Aside0 (wr.heap[b]? = some (.cells #[.int .i64 n] 3 (0, 0))) ∧ Aside0 (w.grownBy wr (some b)))
    case atStart => exact ⟨rfl, HNA, HG⟩
    obtain ⟨rfl, HN2, HG2⟩ := hrel; go_wp2; go_ret; exact ⟨rfl, HN2.out, HG2.out, HG2.out.size⟩
   ·rw [if_neg c1] at h; cases h; have c3 : 0 < xs.length := by cases xs with | nil => exact absurd rfl c1 | cons a l => simp
    have q2 : decide ((0 : Int) < (xs.length : Int)) = true := decide_eq_true (by omega)
    have q3 : decide (0 < xs.length) = true := decide_eq_true c3
    clear c1 c3; by_cases c4 : 6 < xs.length
    ·have q1 : decide ((6 : Int) < (xs.length : Int)) = true := decide_eq_true (by omega)
     clear c4; have HNA := a_ (blk_alloc (blk_alloc HN.out (.cells #[.int .i64 4, .int .i64 0, .string (⟨#[]⟩ : ByteArray), .slice B xs.length cB] 46)) (.cells #[.int .i64 4, .int .i64 0, .string (⟨#[]⟩ : ByteArray), .slice none 0 0] 46)); have HG := a_ ((World.grownBy_alloc w (.cells #[.int .i64 4, .int .i64 0, .string (⟨#[]⟩ : ByteArray), .slice B xs.length cB] 46) (some b)).trans (World.grownBy_alloc _ (.cells #[.int .i64 4, .int .i64 0, .string (⟨#[]⟩ : ByteArray), .slice none 0 0] 46) (some b))); go_enter Try.func35, Try.ntmps35; go_wp2; go_ret; exact ⟨rfl, HNA.out, HG.out, HG.out.size⟩
    ·have q1 : decide ((6 : Int) < (xs.length : Int)) = false := decide_eq_false (by omega)
     clear c4; have HNA := a_ (blk_alloc (blk_alloc HN.out (.cells #[.int .i64 4, .int .i64 0, .string (⟨#[]⟩ : ByteArray), .slice B xs.length cB] 46)) (.cells #[.int .i64 4, .int .i64 0, .string (⟨#[]⟩ : ByteArray), .slice none 0 0] 46)); have HG := a_ ((World.grownBy_alloc w (.cells #[.int .i64 4, .int .i64 0, .string (⟨#[]⟩ : ByteArray), .slice B xs.length cB] 46) (some b)).trans (World.grownBy_alloc _ (.cells #[.int .i64 4, .int .i64 0, .string (⟨#[]⟩ : ByteArray), .slice none 0 0] 46) (some b))); go_enter Try.func35, Try.ntmps35; go_wp2; go_ret; exact ⟨rfl, HNA.out, HG.out, HG.out.size⟩
  ·rw [if_neg c2] at h; cases h; have s1 : (cls.toList == ([] : List UInt8)) = false := beq_eq_false_iff_ne.mpr c2
   have s2 : (([] : List UInt8) == cls.toList) = false := beq_eq_false_iff_ne.mpr (Ne.symm c2)
   have s3 : cls.toList.isEmpty = false := by simpa using c2
   have s4 : (([] : List UInt8) != cls.toList) = true := bne_iff_ne.mpr (Ne.symm c2)
   have s5 : (cls.toList != ([] : List UInt8)) = true := bne_iff_ne.mpr c2
   clear c2; have HNA := a_ (blk_alloc (blk_alloc HN.out (.cells #[.int .i64 4, .int .i64 K, .string cls, .slice B xs.length cB] 46)) (.cells #[.int .i64 4, .int .i64 0, .string (⟨#[]⟩ : ByteArray), .slice none 0 0] 46)); have HG := a_ ((World.grownBy_alloc w (.cells #[.int .i64 4, .int .i64 K, .string cls, .slice B xs.length cB] 46) (some b)).trans (World.grownBy_alloc _ (.cells #[.int .i64 4, .int .i64 0, .string (⟨#[]⟩ : ByteArray), .slice none 0 0] 46) (some b))); go_enter Try.func35, Try.ntmps35; go_wp2; go_ret; exact ⟨rfl, HNA.out, HG.out, HG.out.size⟩
 rw [if_neg k1, if_neg k2, if_neg k3, if_neg k4] at h; cases h; have p1 : (kd == 1) = false := by simpa using k1
 have p2 : (kd == 2) = false := by simpa using k2
 have p3 : (kd == 3) = false := by simpa using k3
 have p4 : (kd == 4) = false := by simpa using k4
 clear k1 k2 k3 k4; have HNA := a_ (blk_alloc (blk_alloc HN.out (.cells #[.int .i64 kd, .int .i64 K, .string cls, .slice B xs.length cB] 46)) (.cells #[.int .i64 kd, .int .i64 0, .string (⟨#[]⟩ : ByteArray), .slice none 0 0] 46)); have HG := a_ ((World.grownBy_alloc w (.cells #[.int .i64 kd, .int .i64 K, .string cls, .slice B xs.length cB] 46) (some b)).trans (World.grownBy_alloc _ (.cells #[.int .i64 kd, .int .i64 0, .string (⟨#[]⟩ : ByteArray), .slice none 0 0] 46) (some b))); go_enter Try.func35, Try.ntmps35; go_wp2; go_ret; exact ⟨rfl, HNA.out, HG.out, HG.out.size⟩
end Go.Proofs.Ytejjlkbbnhpbdaa.P
namespace Go.Proofs.Ytejjlkbbnhpbdaa.P
open Go.Proofs.YtejjlkbbnhpbdaaX
open Go.RowKit Go.Proofs.YtejjlkbbnhpbdaaW.PrintWords Go.Proofs.YtejjlkbbnhpbdaaW.PrintLast Go.Proofs.YtejjlkbbnhpbdaaW.PrintMore
attribute [local go_sem] max2_int min2_int max_two min_two max_three min_three max_four min_four
set_option linter.unusedVariables false
set_option linter.unusedSimpArgs false
open Go.Proofs.YtejjlkbbnhpbdaaX
def sf_p : List S59 → Nat → Int
 | [], _ => -1
 | p :: ps, i => if goodPatB p.f1 p.f2 = true then sf_p ps (i + 1) else (i : Int) + 1
def sf_e (es : List S72) : Nat → List Int → List Int → Option (Int × List Int × List Int)
 | 0, fs, ds => some (-1, fs, ds)
 | m + 1, fs, ds => (impl_trees_grow.f es fs ds).bind fun y => if y.1 = true then sf_e es m y.2.1 y.2.2 else some ((fs.length : Int) + 1, y.2.1, y.2.2)
def sf_a (fs : List Int) : List S46 → Nat → Int → Option (Int × Int)
 | [], _, n => some (-1, n)
 | a :: as_, i, n => (impl_Action_good.f fs a.f0 a.f1 a.f2 a.f3 n).bind fun y => if y.1 = true then sf_a fs as_ (i + 1) y.2 else some ((i : Int) + 1, y.2)
def impl_Rule_shapeFault.f (nm : ByteArray) (sa : Int) (ps : List S59) (es : List S72) (as_ : List S46) : Option Int :=
 if goodSymB nm = true then (if 6 < ps.length then some 0 else if 8 < as_.length then some 0 else if 60 < es.length then some 0 else
  if sf_p ps 0 = -1 then (sf_e es es.length [] []).bind fun e => if e.1 = -1 then (sf_a e.2.1 as_ 0 0).bind fun a => if a.1 = -1 then (if a.2 = (es.length : Int) then some (-1) else some ((as_.length : Int) + 1)) else some a.1 else some e.1 else some (sf_p ps 0)) else some 0
theorem sf_p_cons (ps : List S59) (i : Nat) (h : i < ps.length) (p : Int) (hg : sf_p (ps.drop i) i = p) : (if goodPatB (rd_T59 ps (i : Int)).f1 (rd_T59 ps (i : Int)).f2 = true then sf_p (ps.drop (i + 1)) (i + 1) else (i : Int) + 1) = p := by
 have e : rd_T59 ps (i : Int) = ps[i] := by
  unfold rd_T59
  simp [h]
 rw [List.drop_eq_getElem_cons h] at hg; unfold sf_p at hg
 rw [e]; exact hg
theorem sf_e_cons (es : List S72) (m i : Nat) (h : i < m) (fs ds : List Int) (p : Int × List Int × List Int) (hg : sf_e es (m - i) fs ds = some p) : ((impl_trees_grow.f es fs ds).bind fun y => if y.1 = true then sf_e es (m - (i + 1)) y.2.1 y.2.2 else some ((fs.length : Int) + 1, y.2.1, y.2.2)) = some p := by
 rw [show m - i = (m - (i + 1)) + 1 by omega] at hg; exact hg
theorem sf_a_cons (fs : List Int) (as_ : List S46) (i : Nat) (n : Int) (h : i < as_.length) (p : Int × Int) (hg : sf_a fs (as_.drop i) i n = some p) : ((impl_Action_good.f fs (rd_T46 as_ (i : Int)).f0 (rd_T46 as_ (i : Int)).f1 (rd_T46 as_ (i : Int)).f2 (rd_T46 as_ (i : Int)).f3 n).bind fun y => if y.1 = true then sf_a fs (as_.drop (i + 1)) (i + 1) y.2 else some ((i : Int) + 1, y.2)) = some p := by
 have e : rd_T46 as_ (i : Int) = as_[i] := by
  unfold rd_T46
  simp [h]
 rw [List.drop_eq_getElem_cons h] at hg; unfold sf_a at hg
 rw [e]; exact hg
theorem grow_len {es : List S72} {fs ds fs' ds' : List Int} {r : Bool} (h : impl_trees_grow.f es fs ds = some (r, fs', ds')) : fs'.length = fs.length + 1 ∧ ds'.length = ds.length + 1 := by
 unfold impl_trees_grow.f at h
 split at h
 ·dsimp only at h
  repeat' split at h
  all_goals first | (cases h; done) | (have := Option.some.inj h; simp only [Prod.mk.injEq] at this; obtain ⟨_, rfl, rfl⟩ := this; simp)
 ·cases h
set_option maxHeartbeats 8000000 in
set_option maxRecDepth 100000 in
theorem impl_Rule_shapeFault.walk (nm : ByteArray) (sa : Int) (A2 : Option Addr) (c2 : Nat) (ps : List S59) (A3 : Option Addr) (c3 : Nat) (es : List S72) (A4 : Option Addr) (c4 : Nat) (as_ : List S46) (r : Int) (w : World) (hr2 : Kd.C k59 w A2 ps.length ps) (hr3 : Kd.C k72 w A3 es.length es) (hc3 : es.length ≤ c3) (hr4 : Kd.C k46 w A4 as_.length as_) (h : impl_Rule_shapeFault.f nm sa ps es as_ = some r) :
  Calls Try.prog 15 #[.agg #[.string nm, .int .i64 sa, .slice A2 ps.length c2, .slice A3 es.length c3, .slice A4 as_.length c4]] w fun e w' => e = .returned (.int .i64 r) ∧ Below w.heap.size w w' := by
 have hu := Try.underlying42; have hu2 := Try.underlying46; have hu3 := Try.underlying59; have hu4 := Try.underlying79; have HB := a_ (below_alloc (Below.refl w.heap.size w) (.cells #[.string nm, .int .i64 sa, .slice A2 ps.length c2, .slice A3 es.length c3, .slice A4 as_.length c4] 42)); have BK := a_ (blk_new w (.cells #[.string nm, .int .i64 sa, .slice A2 ps.length c2, .slice A3 es.length c3, .slice A4 as_.length c4] 42)); have HR2 := a_ hr2; have HR3 := a_ hr3; have HC3 := a_ hc3; have HR4 := a_ hr4; clear hr2 hr3 hc3 hr4; unfold impl_Rule_shapeFault.f at h
 cases hg : goodSymB nm with
 | false =>
  rw [hg, if_neg (by simp)] at h; cases h; have HG : Aside0 (impl_goodSym.f nm = some false) := ⟨by unfold impl_goodSym.f; rw [hg]⟩
  clear hg; go_enter Try.func15, Try.ntmps15; go_wp2_with (go_at_call 32; refine (impl_goodSym.calls nm false _ HG.out).mono ?_; rintro e w1 ⟨rfl, hd⟩; have HB1 : Aside0 (Below w.heap.size w w1) := ⟨below_step HB.out hd⟩; have BK1 := a_ (blk_below BK.out hd); have ha0 := (blk_cell BK1.out 0).trans rfl; have ha1 := (blk_cell BK1.out 1).trans rfl; have ha2 := (blk_cell BK1.out 2).trans rfl; have ha3 := (blk_cell BK1.out 3).trans rfl; have ha4 := (blk_cell BK1.out 4).trans rfl; simp only [List.getElem?_toArray, List.getElem?_cons_zero, List.getElem?_cons_succ] at ha0 ha1 ha2 ha3 ha4; clear hd); go_ret; exact ⟨rfl, HB1.out⟩
 | true =>
 rw [hg, if_pos rfl] at h; have HG : Aside0 (impl_goodSym.f nm = some true) := ⟨by unfold impl_goodSym.f; rw [hg]⟩
 clear hg; by_cases c1 : 6 < ps.length
 ·rw [if_pos c1] at h; cases h; have q1 : decide ((6 : Int) < (ps.length : Int)) = true := decide_eq_true (by omega)
  clear c1; go_enter Try.func15, Try.ntmps15; go_wp2_with (go_at_call 32; refine (impl_goodSym.calls nm true _ HG.out).mono ?_; rintro e w1 ⟨rfl, hd⟩; have HB1 : Aside0 (Below w.heap.size w w1) := ⟨below_step HB.out hd⟩; have BK1 := a_ (blk_below BK.out hd); have ha0 := (blk_cell BK1.out 0).trans rfl; have ha1 := (blk_cell BK1.out 1).trans rfl; have ha2 := (blk_cell BK1.out 2).trans rfl; have ha3 := (blk_cell BK1.out 3).trans rfl; have ha4 := (blk_cell BK1.out 4).trans rfl; simp only [List.getElem?_toArray, List.getElem?_cons_zero, List.getElem?_cons_succ] at ha0 ha1 ha2 ha3 ha4; clear hd); go_ret; exact ⟨rfl, HB1.out⟩
 rw [if_neg c1] at h; have q1 : decide ((6 : Int) < (ps.length : Int)) = false := decide_eq_false (by omega)
 by_cases c2 : 8 < as_.length
 ·rw [if_pos c2] at h; cases h; have q2 : decide ((8 : Int) < (as_.length : Int)) = true := decide_eq_true (by omega)
  clear c1 c2; go_enter Try.func15, Try.ntmps15; go_wp2_with (go_at_call 32; refine (impl_goodSym.calls nm true _ HG.out).mono ?_; rintro e w1 ⟨rfl, hd⟩; have HB1 : Aside0 (Below w.heap.size w w1) := ⟨below_step HB.out hd⟩; have BK1 := a_ (blk_below BK.out hd); have ha0 := (blk_cell BK1.out 0).trans rfl; have ha1 := (blk_cell BK1.out 1).trans rfl; have ha2 := (blk_cell BK1.out 2).trans rfl; have ha3 := (blk_cell BK1.out 3).trans rfl; have ha4 := (blk_cell BK1.out 4).trans rfl; simp only [List.getElem?_toArray, List.getElem?_cons_zero, List.getElem?_cons_succ] at ha0 ha1 ha2 ha3 ha4; clear hd); go_ret; exact ⟨rfl, HB1.out⟩
 rw [if_neg c2] at h; have q2 : decide ((8 : Int) < (as_.length : Int)) = false := decide_eq_false (by omega)
 by_cases c3 : 60 < es.length
 ·rw [if_pos c3] at h; cases h; have q3 : decide ((60 : Int) < (es.length : Int)) = true := decide_eq_true (by omega)
  clear c1 c2 c3; go_enter Try.func15, Try.ntmps15; go_wp2_with (go_at_call 32; refine (impl_goodSym.calls nm true _ HG.out).mono ?_; rintro e w1 ⟨rfl, hd⟩; have HB1 : Aside0 (Below w.heap.size w w1) := ⟨below_step HB.out hd⟩; have BK1 := a_ (blk_below BK.out hd); have ha0 := (blk_cell BK1.out 0).trans rfl; have ha1 := (blk_cell BK1.out 1).trans rfl; have ha2 := (blk_cell BK1.out 2).trans rfl; have ha3 := (blk_cell BK1.out 3).trans rfl; have ha4 := (blk_cell BK1.out 4).trans rfl; simp only [List.getElem?_toArray, List.getElem?_cons_zero, List.getElem?_cons_succ] at ha0 ha1 ha2 ha3 ha4; clear hd); go_ret; exact ⟨rfl, HB1.out⟩
 rw [if_neg c3] at h; have q3 : decide ((60 : Int) < (es.length : Int)) = false := decide_eq_false (by omega)
 have C1 : Aside0 (ps.length ≤ 6) := ⟨by omega⟩
 have C2 : Aside0 (as_.length ≤ 8) := ⟨by omega⟩
 have C3 : Aside0 (es.length ≤ 60) := ⟨by omega⟩
 clear c1 c2 c3; obtain ⟨p, hp⟩ : ∃ p, sf_p ps 0 = p := ⟨_, rfl⟩; rw [hp] at h; have HP : Aside0 (sf_p (ps.drop 0) 0 = p) := ⟨hp⟩
 have HH := a_ h; clear hp h; go_enter Try.func15, Try.ntmps15; go_wp2_with (go_at_call 32; refine (impl_goodSym.calls nm true _ HG.out).mono ?_; rintro e w1 ⟨rfl, hd⟩; have HB1 : Aside0 (Below w.heap.size w w1) := ⟨below_step HB.out hd⟩; have BK1 := a_ (blk_below BK.out hd); have ha0 := (blk_cell BK1.out 0).trans rfl; have ha1 := (blk_cell BK1.out 1).trans rfl; have ha2 := (blk_cell BK1.out 2).trans rfl; have ha3 := (blk_cell BK1.out 3).trans rfl; have ha4 := (blk_cell BK1.out 4).trans rfl; simp only [List.getElem?_toArray, List.getElem?_cons_zero, List.getElem?_cons_succ] at ha0 ha1 ha2 ha3 ha4; clear hd); go_loopg [35] ps.length (fun gg v35 wr => ∃ i : Nat, i ≤ ps.length ∧ ps.length - i ≤ gg ∧ v35 = .int .i64 (i : Int) ∧ Aside0 (sf_p (ps.drop i) i = p) ∧ Aside0 (Below w.heap.size w wr) ∧ Aside0 (wr.heap[w.heap.size]? = some (.cells #[.string nm, .int .i64 sa, .slice A2 ps.length c2, .slice A3 es.length c3, .slice A4 as_.length c4] 42 (0, 0))))
 case atStart => exact ⟨0, Nat.zero_le _, Nat.le_refl _, rfl, HP, HB1, BK1⟩
 obtain ⟨i, hi, hgg, rfl, HP2, HB2, BK2⟩ := hrel; by_cases hlt : i < ps.length
 ·have hz : (i : Int) < (ps.length : Int) := by omega
  have hz0 : (0 : Int) ≤ (i : Int) := by omega
  obtain ⟨ad, A5, c5, e0, hx0, hx1, hx2, hl5, hC5⟩ := at_T59 HR2.out (i : Int) hz0 hz; cases e0; replace hx0 := (HB2.out.cell (World.block_lt_of_cell? w _ hx0)).trans hx0; replace hx1 := (HB2.out.cell (World.block_lt_of_cell? w _ hx1)).trans hx1; replace hx2 := (HB2.out.cell (World.block_lt_of_cell? w _ hx2)).trans hx2; simp only [Int.toNat_natCast] at hx0 hx1 hx2; have HC5 := a_ hC5; have HL5 := a_ hl5; clear hC5 hl5; have hst := sf_p_cons ps i hlt p HP2.out; generalize rd_T59 ps (i : Int) = p5 at *; cases hg5 : goodPatB p5.f1 p5.f2 with
  | false =>
   have HG5 : Aside0 (impl_Pattern_good.f p5.f0 p5.f1 p5.f2 = some false) := ⟨by unfold impl_Pattern_good.f; rw [hg5]⟩
   rw [hg5, if_neg (by simp)] at hst; clear hg5; have hrr := HH.out; rw [if_neg (by omega)] at hrr; have hr2 := Option.some.inj hrr; subst hr2; have HPI : Aside0 ((i : Int) + 1 = p) := ⟨hst⟩
   clear hst hrr; go_wp2_with (go_at_call 33; refine (impl_Pattern_good.calls p5.f0 p5.f1 A5 c5 p5.f2 false _ (Kd.C_below HC5.out (by repeat (first | exact HB2.out | apply below_alloc))) HL5.out HG5.out).mono ?_; rintro e w3 ⟨rfl, hd⟩; have HB3 : Aside0 (Below w.heap.size w w3) := ⟨below_step (by repeat (first | exact HB2.out | apply below_alloc)) hd⟩; clear hd); go_ret; exact ⟨by rw [← HPI.out, show wrap64 ((i : Int) + 1) = (i : Int) + 1 by unfold wrap64; have := C1.out; omega]; rfl, HB3.out⟩
  | true =>
   have HG5 : Aside0 (impl_Pattern_good.f p5.f0 p5.f1 p5.f2 = some true) := ⟨by unfold impl_Pattern_good.f; rw [hg5]⟩
   rw [hg5, if_pos rfl] at hst; clear hg5; have HST := a_ hst; clear hst; go_wp2_with (go_at_call 33; refine (impl_Pattern_good.calls p5.f0 p5.f1 A5 c5 p5.f2 true _ (Kd.C_below HC5.out (by repeat (first | exact HB2.out | apply below_alloc))) HL5.out HG5.out).mono ?_; rintro e w3 ⟨rfl, hd⟩; have HB3 : Aside0 (Below w.heap.size w w3) := ⟨below_step (by repeat (first | exact HB2.out | apply below_alloc)) hd⟩; have BK3 := a_ (blk_below (blk_alloc BK2.out (.cells #[.bool p5.f0, .string p5.f1, .slice A5 p5.f2.length c5] 59)) hd); clear hd); go_roundg (ps.length - (i + 1))
   case measure => omega
   case rel => exact ⟨i + 1, by omega, by omega, by rw [show wrap64 ((i : Int) + 1) = ((i + 1 : Nat) : Int) by unfold wrap64; have := C1.out; omega], HST, HB3, BK3⟩
 ·have hil : i = ps.length := by omega
  subst hil; have e0 := HP2.out; rw [List.drop_length] at e0; unfold sf_p at e0
  subst e0; have h2 := HH.out; rw [if_pos rfl] at h2; obtain ⟨ee, he, h2⟩ := Option.bind_eq_some_iff.1 h2; have HE : Aside0 (sf_e es (es.length - 0) [] [] = some ee) := ⟨he⟩
  have HH2 := a_ h2; clear he h2 HP2 HH HP; obtain ⟨wq, hwq⟩ : ∃ x, x = wr := ⟨_, rfl⟩; subst hwq; have hs0 : w.heap.size + 1 ≤ wq.heap.size := lt_of_block BK2.out
  have HS0 := a_ hs0; have ha3' := (blk_cell BK2.out 3).trans rfl; have hb3' := (blk_cell (blk_alloc BK2.out (.cells #[.slice none 0 0, .slice none 0 0] 79)) 3).trans rfl; simp only [List.getElem?_toArray, List.getElem?_cons_zero, List.getElem?_cons_succ] at ha3' hb3'; go_wp2; go_loopg [51] es.length (fun gg v51 wr => ∃ (i : Nat) (fs ds : List Int), i ≤ es.length ∧ es.length - i ≤ gg ∧ v51 = .int .i64 (i : Int) ∧ Aside0 (i = fs.length ∧ sf_e es (es.length - i) fs ds = some ee) ∧ Aside0 (Below w.heap.size w wr) ∧ Aside0 (wr.heap[w.heap.size]? = some (.cells #[.string nm, .int .i64 sa, .slice A2 ps.length c2, .slice A3 es.length c3, .slice A4 as_.length c4] 42 (0, 0))) ∧ Aside0 (Trees wr wq.heap.size w.heap.size fs ds) ∧ Aside0 (wq.heap.size < wr.heap.size))
  case atStart =>
   exact ⟨0, [], [], Nat.zero_le _, Nat.le_refl _, rfl, ⟨rfl, HE.out⟩, ⟨below_alloc HB2.out _⟩, ⟨blk_alloc BK2.out _⟩, ⟨_, _, blk_new wq _, own_nil _ _ _ _, own_nil _ _ _ _, ne_nil _⟩, ⟨by simp⟩⟩
  obtain ⟨i, fs, ds, hi, hgg, rfl, HE2, HB4, BK4, TR4, SZ4⟩ := hrel; have hb0 := (blk_cell BK4.out 3).trans rfl; simp only [List.getElem?_toArray, List.getElem?_cons_zero, List.getElem?_cons_succ] at hb0; by_cases hlt : i < es.length
  ·have hz : (i : Int) < (es.length : Int) := by omega
   have hst := sf_e_cons es es.length i hlt fs ds ee HE2.out.2; obtain ⟨⟨g5, fs5, ds5⟩, hg5, hst⟩ := Option.bind_eq_some_iff.1 hst; have HG5 := a_ hg5; have HL5 := a_ (grow_len hg5); clear hg5; cases g5 with
   | false =>
    rw [if_neg (by simp)] at hst; have hpi := Option.some.inj hst; have hrr := HH2.out; rw [← hpi] at hrr; have hn1 : ¬ ((fs.length : Int) + 1 = -1) := by omega
    replace hrr : (if (fs.length : Int) + 1 = -1 then _ else some ((fs.length : Int) + 1)) = some r := hrr
    rw [if_neg hn1] at hrr; have hr2 := Option.some.inj hrr; have HPI : Aside0 ((i : Int) + 1 = r) := ⟨by rw [HE2.out.1]; exact hr2⟩
    clear hst hpi hrr hr2 hn1; go_wp2_with (go_at_call 34; refine (impl_trees_grow.calls A3 c3 es wq.heap.size fs ds fs5 ds5 false w _ HB4.out HR3.out HC3.out TR4.out (Nat.le_of_succ_le HS0.out) HG5.out).mono ?_; rintro e w3 ⟨rfl, htr, hbw, hkt⟩; have HB5 := a_ hbw; clear htr hbw hkt); go_ret; exact ⟨by rw [← HPI.out, show wrap64 ((i : Int) + 1) = (i : Int) + 1 by unfold wrap64; have := C3.out; omega]; rfl, HB5.out⟩
   | true =>
    rw [if_pos rfl] at hst; have HST : Aside0 (i + 1 = fs5.length ∧ sf_e es (es.length - (i + 1)) fs5 ds5 = some ee) := ⟨by have := HL5.out.1; have := HE2.out.1; omega, hst⟩
    clear hst; go_wp2_with (go_at_call 34; refine (impl_trees_grow.calls A3 c3 es wq.heap.size fs ds fs5 ds5 true w _ HB4.out HR3.out HC3.out TR4.out (Nat.le_of_succ_le HS0.out) HG5.out).mono ?_; rintro e w3 ⟨rfl, htr, hbw, hkt⟩; have HB5 := a_ hbw; have TR5 := a_ htr; have BK5 := a_ (hkt.2 _ _ _ (by decide) (by decide) BK4.out); have SZ5 := a_ (Nat.lt_of_lt_of_le SZ4.out hkt.1); clear htr hbw hkt); go_roundg (es.length - (i + 1))
    case measure => omega
    case rel => exact ⟨i + 1, fs5, ds5, by omega, by omega, by rw [show wrap64 ((i : Int) + 1) = ((i + 1 : Nat) : Int) by unfold wrap64; have := C3.out; omega], HST, HB5, BK5, TR5, SZ5⟩
  ·have hil : i = es.length := by omega
   subst hil; have e0 := HE2.out.2; rw [Nat.sub_self] at e0; unfold sf_e at e0
   have e1 := Option.some.inj e0; subst e1; have h3 := HH2.out; rw [if_pos rfl] at h3; obtain ⟨aa, haa, h3⟩ := Option.bind_eq_some_iff.1 h3; have HA : Aside0 (sf_a fs (as_.drop 0) 0 0 = some aa) := ⟨haa⟩
   have HH3 := a_ h3; clear haa h3 e0 HE2 HH2 HE; obtain ⟨wp, hwp⟩ : ∃ x, x = wr := ⟨_, rfl⟩; subst hwp; have htr := TR4.out; obtain ⟨vF, vD, hbt, hoF, hoD, hne⟩ := htr; obtain ⟨AF, cF, eF⟩ := own_slice hoF; subst eF; have hs1 : w.heap.size + 1 ≤ wp.heap.size := lt_of_block BK4.out
   have HS1 := a_ hs1; have HBT := a_ (blk_alloc hbt (.cells #[.int .i64 0] 3)); have HOF := a_ (own_alloc hoF (.cells #[.int .i64 0] 3)); have HNE : Aside0 (some wp.heap.size ≠ (Value.slice AF fs.length cF).ownBlock) := ⟨fun e => by have := own_lt hoF _ e.symm; omega⟩
   clear hbt hoF hoD hne hs1; have hb4 := (blk_cell BK4.out 4).trans rfl; have hb5 := (blk_cell (blk_alloc BK4.out (.cells #[.int .i64 0] 3)) 4).trans rfl; simp only [List.getElem?_toArray, List.getElem?_cons_zero, List.getElem?_cons_succ] at hb4 hb5; go_wp2; go_loopg [65] as_.length (fun gg v65 wr => ∃ (i : Nat) (m : Int), i ≤ as_.length ∧ as_.length - i ≤ gg ∧ v65 = .int .i64 (i : Int) ∧ Aside0 (sf_a fs (as_.drop i) i m = some aa) ∧ Aside0 (wr.heap[wp.heap.size]? = some (.cells #[.int .i64 m] 3 (0, 0))) ∧ Aside0 ((wp.alloc (.cells #[.int .i64 0] 3)).grownBy wr (some wp.heap.size)))
   case atStart => exact ⟨0, 0, Nat.zero_le _, Nat.le_refl _, rfl, HA, ⟨blk_new wp _⟩, ⟨World.grownBy.refl _ _⟩⟩
   obtain ⟨i, m, hi, hgg, rfl, HA2, BN6, HG6⟩ := hrel; have HB6 : Aside0 (Below w.heap.size w wr) := ⟨(below_alloc HB4.out _).grown HG6.out (by have := HS1.out; simp; omega) (by intro q e; injection e with e; have := HS1.out; omega)⟩
   have BK6 := a_ (blk_grown (blk_alloc BK4.out _) HG6.out (by intro e; injection e with e; have := HS1.out; omega)); have BT6 := a_ (blk_grown HBT.out HG6.out (by intro e; injection e with e; have := SZ4.out; omega)); have OF6 := a_ (own_other HOF.out HG6.out (Or.inr (fun e => HNE.out e.symm))); have hd0 := (blk_cell BK6.out 0).trans rfl; have hd1 := (blk_cell BK6.out 1).trans rfl; have hd2 := (blk_cell BK6.out 2).trans rfl; have hd3 := (blk_cell BK6.out 3).trans rfl; have hd4 := (blk_cell BK6.out 4).trans rfl; simp only [List.getElem?_toArray, List.getElem?_cons_zero, List.getElem?_cons_succ] at hd0 hd1 hd2 hd3 hd4; have hn6 := cell_of_one BN6.out; have hs6 : w.heap.size + 1 ≤ wr.heap.size := lt_of_block BK6.out
   have hs7 : wp.heap.size + 1 ≤ wr.heap.size := lt_of_block BN6.out
   by_cases hlt : i < as_.length
   ·have hz : (i : Int) < (as_.length : Int) := by omega
    have hz0 : (0 : Int) ≤ (i : Int) := by omega
    obtain ⟨ad, A7, c7, e0, hx0, hx1, hx2, hx3, hl7, hC7⟩ := at_T46 HR4.out (i : Int) hz0 hz; cases e0; replace hx0 := (HB6.out.cell (World.block_lt_of_cell? w _ hx0)).trans hx0; replace hx1 := (HB6.out.cell (World.block_lt_of_cell? w _ hx1)).trans hx1; replace hx2 := (HB6.out.cell (World.block_lt_of_cell? w _ hx2)).trans hx2; replace hx3 := (HB6.out.cell (World.block_lt_of_cell? w _ hx3)).trans hx3; simp only [Int.toNat_natCast] at hx0 hx1 hx2 hx3; have HC7 := a_ hC7; have hst := sf_a_cons fs as_ i m hlt aa HA2.out; clear hC7 hl7; generalize rd_T46 as_ (i : Int) = a7 at *; obtain ⟨⟨g7, m7⟩, hg7, hst⟩ := Option.bind_eq_some_iff.1 hst; have HG7 := a_ hg7; clear hg7; cases g7 with
    | false =>
     rw [if_neg (by simp)] at hst; have hpi := Option.some.inj hst; have hrr := HH3.out; rw [← hpi] at hrr; have hn1 : ¬ ((i : Int) + 1 = -1) := by omega
     replace hrr : (if (i : Int) + 1 = -1 then _ else some ((i : Int) + 1)) = some r := hrr
     rw [if_neg hn1] at hrr; have hr2 := Option.some.inj hrr; have HPI : Aside0 ((i : Int) + 1 = r) := ⟨hr2⟩
     clear hst hpi hrr hr2 hn1; go_wp2_with (go_at_call 35; refine (impl_Action_good.calls a7.f0 a7.f1 a7.f2 A7 c7 a7.f3 wq.heap.size w.heap.size AF cF vD fs wp.heap.size m m7 false w _ (below_alloc HB6.out _) HC7.out (blk_alloc BT6.out _) (own_alloc OF6.out _) HNE.out (blk_alloc BN6.out _) (Nat.le_of_succ_le HS1.out) HG7.out).mono ?_; rintro e w7 ⟨rfl, hbn, hgr, hsz⟩; have HB8 : Aside0 (Below w.heap.size w w7) := ⟨(below_alloc HB6.out _).grown hgr (by simp; omega) (by intro q e; injection e with e; have := HS1.out; omega)⟩; clear hbn hgr hsz); go_ret; exact ⟨by rw [← HPI.out, show wrap64 ((i : Int) + 1) = (i : Int) + 1 by unfold wrap64; have := C2.out; omega]; rfl, HB8.out⟩
    | true =>
     rw [if_pos rfl] at hst; have HST := a_ hst; clear hst; go_wp2_with (go_at_call 35; refine (impl_Action_good.calls a7.f0 a7.f1 a7.f2 A7 c7 a7.f3 wq.heap.size w.heap.size AF cF vD fs wp.heap.size m m7 true w _ (below_alloc HB6.out _) HC7.out (blk_alloc BT6.out _) (own_alloc OF6.out _) HNE.out (blk_alloc BN6.out _) (Nat.le_of_succ_le HS1.out) HG7.out).mono ?_; rintro e w7 ⟨rfl, hbn, hgr, hsz⟩; have BN8 := a_ hbn; have HG8 := a_ ((HG6.out.trans (World.grownBy_alloc _ _ _)).trans hgr); clear hbn hgr hsz); go_roundg (as_.length - (i + 1))
     case measure => omega
     case rel => exact ⟨i + 1, m7, by omega, by omega, by rw [show wrap64 ((i : Int) + 1) = ((i + 1 : Nat) : Int) by unfold wrap64; have := C2.out; omega], HST, BN8, HG8⟩
   ·have hil : i = as_.length := by omega
    subst hil; have e0 := HA2.out; rw [List.drop_length] at e0; unfold sf_a at e0
    have e1 := Option.some.inj e0; subst e1; have h4 := HH3.out; rw [if_pos rfl] at h4; clear e0 HA2 HH3 HA; by_cases d1 : m = (es.length : Int)
    ·subst d1; rw [if_pos rfl] at h4; cases h4; go_wp2; go_ret; exact ⟨rfl, HB6.out⟩
    ·rw [if_neg d1] at h4; have h5 := Option.some.inj h4; subst h5; have q7 : (m == (es.length : Int)) = false := by simpa using d1
     have q8 : (m != (es.length : Int)) = true := by simpa using d1
     clear d1 h4; go_wp2; go_ret; exact ⟨by rw [show wrap64 ((as_.length : Int) + 1) = (as_.length : Int) + 1 by unfold wrap64; have := C2.out; omega]; rfl, HB6.out⟩
theorem impl_Rule_shapeFault.calls (a0_0 : ByteArray) (a0_1 : Int) (A0_2 : Option Addr) (c0_2 : Nat) (l0_2 : List S59) (A0_3 : Option Addr) (c0_3 : Nat) (l0_3 : List S72) (A0_4 : Option Addr) (c0_4 : Nat) (l0_4 : List S46) (r : Int) (w : World) (hr0_2 : Kd.C k59 w A0_2 l0_2.length l0_2) (hc0_2 : l0_2.length ≤ c0_2) (hr0_3 : Kd.C k72 w A0_3 l0_3.length l0_3) (hc0_3 : l0_3.length ≤ c0_3) (hr0_4 : Kd.C k46 w A0_4 l0_4.length l0_4) (hc0_4 : l0_4.length ≤ c0_4) (h : impl_Rule_shapeFault.f a0_0 a0_1 l0_2 l0_3 l0_4 = some r) :
  Calls Try.prog 15 #[.agg #[.string a0_0, .int .i64 a0_1, .slice A0_2 l0_2.length c0_2, .slice A0_3 l0_3.length c0_3, .slice A0_4 l0_4.length c0_4]] w fun e w' => e = .returned (.int .i64 r) ∧ Below w.heap.size w w' :=
 impl_Rule_shapeFault.walk a0_0 a0_1 A0_2 c0_2 l0_2 A0_3 c0_3 l0_3 A0_4 c0_4 l0_4 r w hr0_2 hr0_3 hc0_3 hr0_4 h
end Go.Proofs.Ytejjlkbbnhpbdaa.P
namespace Go.Proofs.YtejjlkbbnhpbdaaX
open Go Go.RowKit Go.Maps Go.ChangeMaps Go.WideMaps
theorem lawS : Keyed Try.prog 9 := string_keyed Try.underlying9
theorem data_ne {s t : ByteArray} (h : s ≠ t) : (Lit.string s.data.toList) ≠ .string t.data.toList := by
  intro e
  injection e with e
  apply h
  cases s with | mk a =>
  cases t with | mk b =>
  have : a = b := Array.toList_inj.1 e
  rw [this]
end Go.Proofs.YtejjlkbbnhpbdaaX
namespace Go.Proofs.YtejjlkbbnhpbdaaX
open Go Go.RowKit Go.Maps Go.ChangeMaps Go.WideMaps
def memS (s : ByteArray) : List ByteArray → Bool
  | [] => false
  | u :: r => (u.toList == s.toList) || memS s r
theorem ba_same {a b : ByteArray} : (a.toList == b.toList) = true ↔ a = b := by
  rw [beq_iff_eq]
  constructor
  · intro h
    rw [ByteArray.toList_eq, ByteArray.toList_eq] at h
    cases a with | mk x =>
    cases b with | mk y =>
    exact congrArg ByteArray.mk (Array.toList_inj.1 h)
  · intro h
    rw [h]
def SetS (w : World) (b n : Nat) (ss : List ByteArray) : Prop :=
  ∃ D : DataW Unit, w.ownsMap Try.prog 9 unitElem b n D ∧ IsMap D ∧ ∀ s : ByteArray, has D (.string s.data.toList) = memS s ss
theorem SetS_made (w : World) : SetS (w.alloc (.map #[] 0)) w.heap.size 0 [] :=
  ⟨.map [], World.ownsMap_made w _ _ _, isMap_empty, fun _ => rfl⟩
theorem SetS.kept {w w' : World} {b n : Nat} {ss : List ByteArray} {row : Option Nat} (h : SetS w b n ss) (hg : w.grownBy w' row) (hne : some b ≠ row) : SetS w' b n ss := by
  obtain ⟨D, h1, h2, h3⟩ := h
  exact ⟨D, h1.kept hg hne, h2, h3⟩
theorem SetS.alloc {w : World} {b n : Nat} {ss : List ByteArray} (h : SetS w b n ss) (o : Obj) : SetS (w.alloc o) b n ss := by
  obtain ⟨D, h1, h2, h3⟩ := h
  exact ⟨D, h1.alloc o, h2, h3⟩
theorem SetS.lt {w : World} {b n : Nat} {ss : List ByteArray} (h : SetS w b n ss) : b < w.heap.size := by
  obtain ⟨D, h1, _⟩ := h
  exact h1.lt
theorem wpList_hasS {w : World} {ops : Array Oper} {rest : List Oper} {o : Oper} {a : Act} {Q : Exit → Act → World → Prop} (hg : o.guard = none) (m x : Operand) (t eT : TypeId) (hz : ∀ w, (zeroValue eT).run Try.prog w = .ok (.agg #[]) w) (ht : Try.prog.underlying t = some (.map 9 eT))
    (hop : o.op = Op.lookup t m x true) (b n : Nat) (ss : List ByteArray) (h : SetS w b n ss) (hm : a.eval m = .map (some b)) (s : ByteArray) (hs : s.size ≤ maxLen) (hx : a.eval x = .string s)
    (hK : wpList Try.prog ops Q rest (a.put o.dst (.tuple #[.agg #[], .bool (memS s ss)])) w) :
    wpList Try.prog ops Q (o :: rest) a w := by
  obtain ⟨D, h1, h2, h3⟩ := h
  refine wpList_lookup_own_unit w hg m x t hop _ _ lawS ht (hz _) b n D hm h1 _ _ hx (keyOf_string_mk Try.underlying9 hs) ?_
  rw [h3 s]
  exact hK
theorem wpList_addS {w : World} {ops : Array Oper} {rest : List Oper} {o : Oper} {a : Act} {Q : Exit → Act → World → Prop} (hg : o.guard = none) (m x v : Operand) (t eT : TypeId) (ht : Try.prog.underlying t = some (.map 9 eT))
    (hop : o.op = Op.mapUpdate t m x v) (b n : Nat) (ss : List ByteArray) (h : SetS w b n ss) (hn : n < maxLen) (hm : a.eval m = .map (some b)) (s : ByteArray) (hs : s.size ≤ maxLen) (hx : a.eval x = .string s) (hv : a.eval v = .agg #[])
    (hK : ∀ w', SetS w' b (n + 1) (s :: ss) → w.grownBy w' (some b) → wpList Try.prog ops Q rest (a.put o.dst undef) w') :
    wpList Try.prog ops Q (o :: rest) a w := by
  obtain ⟨D, h1, h2, h3⟩ := h
  refine wpList_mapUpdate_in w hg m x v t hop _ _ lawS ht unitElem b n D hm h1 hn _ _ _ hx hv (keyOf_string_mk Try.underlying9 hs) _ [] unitElem_mk ?_
  intro w' h4 h5
  refine hK w' ⟨_, h4, ?_, fun u => ?_⟩ h5.grown
  · obtain ⟨es, rfl⟩ := h2
    exact ⟨_, rfl⟩
  · by_cases e : s = u
    · subst e
      rw [has_put_same h2 (by trivial), memS, ba_same.2 rfl]
      rfl
    · rw [has_put_other (data_ne (Ne.symm e)), h3 u, memS, Bool.eq_false_iff.2 (fun h => e (ba_same.1 h))]
      rfl
end Go.Proofs.YtejjlkbbnhpbdaaX
namespace Go.Proofs.Ytejjlkbbnhpbdaa.P
open Go.Proofs.YtejjlkbbnhpbdaaX
open Go.RowKit Go.Proofs.YtejjlkbbnhpbdaaW.PrintWords Go.Proofs.YtejjlkbbnhpbdaaW.PrintLast Go.Proofs.YtejjlkbbnhpbdaaW.PrintMore
attribute [local go_sem] max2_int min2_int max_two min_two max_three min_three max_four min_four
set_option linter.unusedVariables false
set_option linter.unusedSimpArgs false
open Go.Maps Go.ChangeMaps Go.WideMaps Go.Proofs.YtejjlkbbnhpbdaaX
theorem zeroU_ (w : World) : (zeroValue 52).run Try.prog w = .ok (.agg #[]) w := by kernel_rfl
set_option maxHeartbeats 4000000 in
set_option maxRecDepth 100000 in
theorem impl_nameSet_has.calls (b n : Nat) (ss : List ByteArray) (s : ByteArray) (w : World) (h : SetS w b n ss) (hs : s.size ≤ maxLen) :
  Calls Try.prog 16 #[.map (some b), .string s] w fun e w' => e = .returned (.bool (memS s ss)) ∧ Below w.heap.size w w' := by
 have HB := a_ (Below.refl w.heap.size w); have HS := a_ h; have HL := a_ hs; have hu := Try.underlying52; clear h hs; go_enter Try.func16, Try.ntmps16; go_wp2_with (at_lookup; refine wpList_hasS rfl _ _ 49 52 zeroU_ Try.underlying49 rfl b n ss HS.out rfl s HL.out rfl ?_); go_ret; exact ⟨rfl, by repeat (first | exact HB.out | apply below_alloc)⟩
end Go.Proofs.Ytejjlkbbnhpbdaa.P
namespace Go.Proofs.Ytejjlkbbnhpbdaa.P
open Go.Proofs.YtejjlkbbnhpbdaaX
open Go.RowKit Go.Proofs.YtejjlkbbnhpbdaaW.PrintWords Go.Proofs.YtejjlkbbnhpbdaaW.PrintLast Go.Proofs.YtejjlkbbnhpbdaaW.PrintMore
attribute [local go_sem] max2_int min2_int max_two min_two max_three min_three max_four min_four
set_option linter.unusedVariables false
set_option linter.unusedSimpArgs false
def impl_Rule_positives.l0 : Nat → Int → List (S59) → Int → Int → Option (Int)
 | 0, _, _, _, _ => none
 | k + 1, x3, x7, x8, x9 => if x9 < x8 then (if 0 ≤ x9 then (if x9 < (x7.length : Int) then (if ((rd_T59 x7 x9).f0 = true) then (impl_Rule_positives.l0 k x3 x7 x8 (wrap64 (x9 + 1))) else (impl_Rule_positives.l0 k (wrap64 (x3 + 1)) x7 x8 (wrap64 (x9 + 1)))) else (none)) else (none)) else (some x3)
def impl_Rule_positives.f (k : Nat) (a0_0 : ByteArray) (a0_1 : Int) (l0_2 : List (S59)) (l0_3 : List (S72)) (l0_4 : List (S46)) : Option (Int) := impl_Rule_positives.l0 k 0 l0_2 (l0_2.length : Int) 0
theorem impl_Rule_positives.mono_l : ∀ k, (∀ y0 y1 y2 y3, LeO (impl_Rule_positives.l0 k y0 y1 y2 y3) (impl_Rule_positives.l0 (k + 1) y0 y1 y2 y3))
 | 0 => fun _ _ _ _ r h => by simp [impl_Rule_positives.l0] at h
 | k + 1 => by
  have ih0 := impl_Rule_positives.mono_l k
  ·intro y0 y1 y2 y3; unfold impl_Rule_positives.l0
   repeat' with_reducible first | apply ih0 | apply LeO.refl | apply LeO.none | refine LeO.ite ?_ ?_ | refine LeO.bind ?_ (fun _ => ?_)
theorem impl_Rule_positives.mono : ∀ a0 a1 a2 a3 a4 k, LeO (impl_Rule_positives.f k a0 a1 a2 a3 a4) (impl_Rule_positives.f (k + 1) a0 a1 a2 a3 a4) := by
 intro a0 a1 a2 a3 a4 k; have ih0 := impl_Rule_positives.mono_l k; unfold impl_Rule_positives.f
 repeat' with_reducible first | apply ih0 | apply LeO.refl | apply LeO.none | refine LeO.ite ?_ ?_ | refine LeO.bind ?_ (fun _ => ?_)
set_option maxHeartbeats 8000000 in
set_option maxRecDepth 100000 in
theorem impl_Rule_positives.calls (k : Nat) (a0_0 : ByteArray) (a0_1 : Int) (A0_2 : Option Addr) (c0_2 : Nat) (l0_2 : List (S59)) (A0_3 : Option Addr) (c0_3 : Nat) (l0_3 : List (S72)) (A0_4 : Option Addr) (c0_4 : Nat) (l0_4 : List (S46)) (r : Int) (w : World) (hr0_2 : Kd.C k59 w A0_2 l0_2.length l0_2) (hc0_2 : l0_2.length ≤ c0_2) (hr0_3 : Kd.C k72 w A0_3 l0_3.length l0_3) (hc0_3 : l0_3.length ≤ c0_3) (hr0_4 : Kd.C k46 w A0_4 l0_4.length l0_4) (hc0_4 : l0_4.length ≤ c0_4) (h : impl_Rule_positives.f k a0_0 a0_1 l0_2 l0_3 l0_4 = some r) :
  Calls Try.prog 17 #[.agg #[.string a0_0, .int .i64 a0_1, .slice A0_2 l0_2.length c0_2, .slice A0_3 l0_3.length c0_3, .slice A0_4 l0_4.length c0_4]] w fun e w' => e = .returned (.int .i64 r) ∧ Below w.heap.size w w' := by
 have hu42 := Try.underlying42; have hu59 := Try.underlying59; have HR0_2 := a_ hr0_2; have HC0_2 := a_ hc0_2; clear hr0_2 hc0_2; have HR0_3 := a_ hr0_3; have HC0_3 := a_ hc0_3; clear hr0_3 hc0_3; have HR0_4 := a_ hr0_4; have HC0_4 := a_ hc0_4; clear hr0_4 hc0_4; have HB := a_ (Below.refl w.heap.size w); have H : (impl_Rule_positives.l0 k 0 l0_2 (l0_2.length : Int) 0) = some r := h
 clear h; have H' := a_ H; clear H; go_enter Try.func17, Try.ntmps17; go_wp2_with (first | ((with_reducible refine gate_dst (N := 1) rfl ?_); refine bx_ 1 #[.string a0_0, .int .i64 a0_1, .slice A0_2 l0_2.length c0_2, .slice A0_3 l0_3.length c0_3, .slice A0_4 l0_4.length c0_4] 42 ?_; intro gb315 hg w2 hbox hb; have BK315 := a_ (hbox); have GE315 := mg_ HB hg; replace HB := ms_ HB hb; clear hb hbox hg; obtain ⟨z3_0, z3_1, z3_2, z3_3, z3_4, zf3_0, zf3_1, zf3_2, zf3_3, zf3_4⟩ := cz5 BK315)); go_loopg [3, 9] k (fun kq v3 v9 w' => ∃ (x3_1 : Int) (x9_1 : Int), v3 = .int .i64 x3_1 ∧ v9 = .int .i64 x9_1 ∧ Aside0 (impl_Rule_positives.l0 kq x3_1 l0_2 (l0_2.length : Int) x9_1 = some r) ∧ Aside0 (kq ≤ k) ∧ Aside0 (w'.heap[gb315]? = some (.cells #[.string a0_0, .int .i64 a0_1, (.slice A0_2 l0_2.length c0_2), (.slice A0_3 l0_3.length c0_3), (.slice A0_4 l0_4.length c0_4)] 42 (0, 0))) ∧ Aside0 (Below w.heap.size w w'))
 case atStart => exact ⟨(0), (0), mq_, mq_, H', ⟨Nat.le_refl _⟩, ⟨mc_ BK315⟩, ⟨mb_ HB⟩⟩
 clear H'; (try clear z3_0 z3_1 z3_2 z3_3 z3_4 zf3_0 zf3_1 zf3_2 zf3_3 zf3_4); obtain ⟨x3_1, x9_1, rfl, rfl, HA, HK1, BK315, HB⟩ := hrel; obtain _ | k1 := gk
 ·exact absurd HA.out (by simp [impl_Rule_positives.l0])
 have H := HA.out; clear HA; simp only [impl_Rule_positives.l0] at H; by_cases c4 : x9_1 < (l0_2.length : Int)
 ·rw [if_pos c4] at H; have c4b0 := decide_eq_true c4; clear c4; by_cases c5 : 0 ≤ x9_1
  case neg => rw [if_neg c5] at H; cases H
  rw [if_pos c5] at H; have c5b0 := decide_eq_true c5; clear c5; by_cases c6 : x9_1 < (l0_2.length : Int)
  case neg => rw [if_neg c6] at H; cases H
  rw [if_pos c6] at H; have c6b0 := decide_eq_true c6; clear c6; obtain ⟨bq7, hbq7⟩ : ∃ b_ : Bool, b_ = ((rd_T59 l0_2 x9_1).f0) := ⟨_, rfl⟩; replace H : (if (bq7 = true) then (impl_Rule_positives.l0 k1 x3_1 l0_2 (l0_2.length : Int) (wrap64 (x9_1 + 1))) else (impl_Rule_positives.l0 k1 (wrap64 (x3_1 + 1)) l0_2 (l0_2.length : Int) (wrap64 (x9_1 + 1)))) = some r := by rw [← hbq7] at H; exact H
  have Nbq7 := a_ hbq7; clear hbq7; by_cases c8 : (bq7 = true)
  ·subst c8; rw [if_pos rfl] at H; have H' := a_ H; clear H; have p316 : 0 ≤ (x9_1 : Int) := md_
   have q316 : x9_1 < (l0_2.length : Int) := md_
   obtain ⟨ad316, A316_2, c316_2, e316, hx316_0, hx316_1, hx316_2, hl316_2, hi316_2⟩ := at_T59 HR0_2.out x9_1 p316 q316; (try rw [← Nbq7.out] at hx316_0); cases e316; replace hx316_0 := mx_ HB hx316_0; replace hx316_1 := mx_ HB hx316_1; replace hx316_2 := mx_ HB hx316_2; have HR316_2 := a_ hi316_2; have HC316_2 := a_ hl316_2; clear hi316_2 hl316_2; replace p316 := eq_true p316; replace q316 := eq_true q316; go_wp2_with (first | ((with_reducible refine gate_dst (N := 5) rfl ?_); refine bx_ 5 #[.bool false, .string (⟨#[]⟩ : ByteArray), .slice none 0 0] 59 ?_; intro gb317 hg w9 hbox hb; have BK317 := a_ (hbox); have GE317 := mg_ HB hg; have NB315_317 := ml_ BK315 hg; have NB317_315 := mr_ BK315 hg; replace BK315 := mk_ BK315 hb; replace HB := ms_ HB hb; clear hb hbox hg; have hnb10 := NB317_315.out; have hnc10 := NB315_317.out; obtain ⟨z11_0, z11_1, z11_2, zf11_0, zf11_1, zf11_2⟩ := cz3 BK317)); go_roundg k1
   case measure => have := HK1.out; omega
   case rel => exact ⟨(x3_1), (wrap64 (x9_1 + 1)), mq_, mq_, H', ⟨by have := HK1.out; omega⟩, ⟨mc_ BK315⟩, ⟨mb_ HB⟩⟩
  ·replace c8 := Bool.eq_false_iff.mpr c8; subst c8; rw [if_neg (show ¬ (false = true) by decide)] at H; have H' := a_ H; clear H; have p316 : 0 ≤ (x9_1 : Int) := md_
   have q316 : x9_1 < (l0_2.length : Int) := md_
   obtain ⟨ad316, A316_2, c316_2, e316, hx316_0, hx316_1, hx316_2, hl316_2, hi316_2⟩ := at_T59 HR0_2.out x9_1 p316 q316; (try rw [← Nbq7.out] at hx316_0); cases e316; replace hx316_0 := mx_ HB hx316_0; replace hx316_1 := mx_ HB hx316_1; replace hx316_2 := mx_ HB hx316_2; have HR316_2 := a_ hi316_2; have HC316_2 := a_ hl316_2; clear hi316_2 hl316_2; replace p316 := eq_true p316; replace q316 := eq_true q316; go_wp2_with (first | ((with_reducible refine gate_dst (N := 5) rfl ?_); refine bx_ 5 #[.bool false, .string (⟨#[]⟩ : ByteArray), .slice none 0 0] 59 ?_; intro gb317 hg w12 hbox hb; have BK317 := a_ (hbox); have GE317 := mg_ HB hg; have NB315_317 := ml_ BK315 hg; have NB317_315 := mr_ BK315 hg; replace BK315 := mk_ BK315 hb; replace HB := ms_ HB hb; clear hb hbox hg; have hnb13 := NB317_315.out; have hnc13 := NB315_317.out; obtain ⟨z14_0, z14_1, z14_2, zf14_0, zf14_1, zf14_2⟩ := cz3 BK317)); go_roundg k1
   case measure => have := HK1.out; omega
   case rel => exact ⟨(wrap64 (x3_1 + 1)), (wrap64 (x9_1 + 1)), mq_, mq_, H', ⟨by have := HK1.out; omega⟩, ⟨mc_ BK315⟩, ⟨mb_ HB⟩⟩
 ·rw [if_neg c4] at H; have c4b0 := decide_eq_false c4; clear c4; obtain rfl := Option.some.inj H; go_wp2; go_ret; exact ⟨me_, mb_ HB⟩
end Go.Proofs.Ytejjlkbbnhpbdaa.P
namespace Go.Proofs.YtejjlkbbnhpbdaaX
open Go Go.RowKit Go.Maps Go.ChangeMaps Go.WideMaps
theorem SetS.mono {w : World} {b n n' : Nat} {ss : List ByteArray} (h : SetS w b n ss) (hn : n ≤ n') : SetS w b n' ss := by
  obtain ⟨D, h1, h2, h3⟩ := h
  exact ⟨D, h1.mono hn, h2, h3⟩
theorem SetS.ext {w : World} {b n : Nat} {ss ss' : List ByteArray} (h : SetS w b n ss) (he : ∀ s, memS s ss = memS s ss') : SetS w b n ss' := by
  obtain ⟨D, h1, h2, h3⟩ := h
  exact ⟨D, h1, h2, fun s => (h3 s).trans (he s)⟩
theorem memS_append (s : ByteArray) : ∀ a b : List ByteArray, memS s (a ++ b) = (memS s a || memS s b)
  | [], b => by simp [memS]
  | x :: a, b => by simp [memS, memS_append s a b, Bool.or_assoc]
theorem memS_cons_self (s : ByteArray) (ss : List ByteArray) : memS s (s :: ss) = true := by simp [memS]
theorem memS_cons_ne {s t : ByteArray} (h : t ≠ s) (ss : List ByteArray) : memS s (t :: ss) = memS s ss := by
  simp only [memS]
  rw [Bool.eq_false_iff.2 (fun e => h (ba_same.1 e)), Bool.false_or]
theorem has_of_at {D : DataW Unit} {kl : Lit} {d : DataW Unit} (hm : IsMap D) (h : ∀ zd, D.atKey kl zd = d) : has D kl = true := by
  obtain ⟨es, rfl⟩ := hm
  rw [has_eq]
  have h1 := h (.lit (.bool true))
  have h2 := h (.lit (.bool false))
  simp only [DataW.atKey] at h1 h2
  cases hf : es.find? (fun p => p.1.sameKey kl) with
  | none => rw [hf] at h1 h2; rw [← h2] at h1; cases h1
  | some p => exact List.any_eq_true.2 ⟨p, List.mem_of_find?_eq_some hf, by have := List.find?_some hf; simpa using this⟩
theorem string_key_inv {key : Value} {kl : Lit} (h : keyOf Try.prog 9 key = some kl) : ∃ s : ByteArray, key = .string s ∧ s.size ≤ maxLen ∧ kl = .string s.data.toList := by
  cases key <;> simp [keyOf, Try.underlying9, mapKey] at h
  exact ⟨_, rfl, h.1, h.2.symm⟩
theorem same_self (l : List UInt8) : (Lit.string l).sameKey (.string l) = true := by simp [Lit.sameKey]
def URel (w : World) (bL r nL : Nat) (L : List ByteArray) (bK nK : Nat) (K : List ByteArray) (cnt : Nat) : Prop :=
  ∃ (D : DataW Unit) (left : Lit → Bool) (ss : List ByteArray), IsMap D ∧ (∀ s : ByteArray, has D (.string s.data.toList) = memS s L) ∧ w.ranges Try.prog 9 unitElem bL r nL D left cnt ∧ cnt ≤ nL ∧ SetS w bK (nK + (nL - cnt)) ss ∧
    ∀ s : ByteArray, memS s ss = (memS s K || (memS s L && !left (.string s.data.toList)))
def UMid (w : World) (bL r nL : Nat) (L : List ByteArray) (bK nK : Nat) (K : List ByteArray) (cnt : Nat) (x : ByteArray) : Prop :=
  ∃ (D : DataW Unit) (left : Lit → Bool) (ss : List ByteArray), IsMap D ∧ (∀ s : ByteArray, has D (.string s.data.toList) = memS s L) ∧ w.ranges Try.prog 9 unitElem bL r nL D left cnt ∧ cnt < nL ∧ SetS w bK (nK + (nL - cnt - 1)) ss ∧
    ∀ s : ByteArray, memS s (x :: ss) = (memS s K || (memS s L && !left (.string s.data.toList)))
theorem ranges_ne_set {w : World} {bL r nL n : Nat} {D : DataW Unit} {left : Lit → Bool} {cnt bK : Nat} {ss : List ByteArray} (h : w.ranges Try.prog 9 unitElem bL r nL D left cnt) (k : SetS w bK n ss) : bK ≠ r := by
  obtain ⟨es, clock, since, seen, c0, _, _, _, _, hr, _⟩ := h
  obtain ⟨D', ⟨es', clock', hb, _⟩, _⟩ := k
  intro e
  subst e
  rw [hr] at hb
  cases hb
section
variable {w : World} {ops : Array Oper} {rest : List Oper} {o : Oper} {a : Act} {Q : Exit → Act → World → Prop}
theorem wpList_rangeU (hg : o.guard = none) (m : Operand) (t eT : TypeId) (ht : Try.prog.underlying t = some (.map 9 eT)) (hop : o.op = Op.range t m) (bL nL : Nat) (L : List ByteArray) (hL : SetS w bL nL L) (bK nK : Nat) (K : List ByteArray) (hK : SetS w bK nK K)
    (hm : a.eval m = .map (some bL))
    (h : ∀ w' cnt, URel w' bL w.heap.size nL L bK nK K cnt → w.grownBy w' none → w'.heap.size = w.heap.size + 1 → wpList Try.prog ops Q rest (a.put o.dst (.pointer (some ⟨w.heap.size, 0, none⟩))) w') :
    wpList Try.prog ops Q (o :: rest) a w := by
  obtain ⟨D, h1, h2, h3⟩ := hL
  refine wpList_range_own w hg m t hop _ eT lawS ht unitElem bL nL D hm h1 ?_
  intro w' hr hgr hs
  exact h w' (Maps.size D) ⟨D, has D, K, h2, h3, hr, h1.size_le, (hK.kept hgr (by simp)).mono (by omega), fun s => by rw [h3 s]; cases memS s K <;> cases memS s L <;> rfl⟩ hgr hs
theorem wpList_nextU (hg : o.guard = none) (it : Operand) (hop : o.op = Op.next it false) (bL r nL : Nat) (L : List ByteArray) (bK nK : Nat) (K : List ByteArray) (cnt : Nat) (hit : a.eval it = .pointer (some ⟨r, 0, none⟩)) (hU : URel w bL r nL L bK nK K cnt)
    (hDone : SetS w bK (nK + nL) (L ++ K) → wpList Try.prog ops Q rest (a.put o.dst (.tuple #[.bool false])) w)
    (hMore : ∀ (x : ByteArray) (w' : World) (cnt' : Nat), x.size ≤ maxLen → cnt' < cnt → UMid w' bL r nL L bK nK K cnt' x → w.grownBy w' (some r) → w'.heap.size = w.heap.size → (Instr.entry (.pointer (some ⟨r, 0, none⟩))).run Try.prog w' = .ok (.tuple #[.string x, .agg #[]]) w' →
      wpList Try.prog ops Q rest (a.put o.dst (.tuple #[.bool true, .string x, .agg #[]])) w') :
    wpList Try.prog ops Q (o :: rest) a w := by
  obtain ⟨D, left, ss, hm, hL, hr, hc, hS, hss⟩ := hU
  refine wpList_next_ranges w hg it hop _ lawS unitElem Value.string (fun _ : Unit => .agg #[]) (fun key kl hk => by obtain ⟨s, e, _⟩ := string_key_inv hk; exact ⟨s, e⟩) (fun v y hv => ⟨(), (unitElem_inv hv).1⟩) bL r nL D left cnt hit hr ?_ ?_
  · intro h0 hl
    refine hDone ((hS.mono (by omega)).ext fun s => ?_)
    rw [hss s, hl, memS_append]
    cases memS s K <;> cases memS s L <;> rfl
  · intro x c kl y w' cnt' hkey hlk _ hat hrg hlt hgr hsz hen
    obtain ⟨s', e1, e2, e3⟩ := string_key_inv hkey
    cases e1
    subst e3
    have hx : memS x L = true := by rw [← hL x]; exact has_of_at hm hat
    refine hMore x w' cnt' e2 hlt ⟨D, _, ss, hm, hL, hrg, by omega, (hS.kept hgr (fun e => ranges_ne_set hr hS (by injection e))).mono (by omega), fun s => ?_⟩ hgr hsz hen
    by_cases e : x = s
    · subst e
      rw [memS_cons_self, hx, same_self]
      simp
    · rw [memS_cons_ne e, hss s, sameKey_ne (data_ne (Ne.symm e))]
      simp
theorem wpList_addU (hg : o.guard = none) (m x v : Operand) (t eT : TypeId) (ht : Try.prog.underlying t = some (.map 9 eT)) (hop : o.op = Op.mapUpdate t m x v) (bL r nL : Nat) (L : List ByteArray) (bK nK : Nat) (K : List ByteArray) (cnt : Nat) (s : ByteArray)
    (hU : UMid w bL r nL L bK nK K cnt s) (hne : bL ≠ bK) (hn : nK + nL < maxLen) (hm : a.eval m = .map (some bK)) (hs : s.size ≤ maxLen) (hx : a.eval x = .string s) (hv : a.eval v = .agg #[])
    (h : ∀ w', URel w' bL r nL L bK nK K cnt → w.grownBy w' (some bK) → wpList Try.prog ops Q rest (a.put o.dst undef) w') :
    wpList Try.prog ops Q (o :: rest) a w := by
  obtain ⟨D, left, ss, hmap, hL, hr, hc, hS, hss⟩ := hU
  have hrK : bK ≠ r := ranges_ne_set hr hS
  refine wpList_addS hg m x v t eT ht hop bK _ ss hS (Nat.lt_of_le_of_lt (Nat.add_le_add_left (Nat.le_trans (Nat.sub_le _ _) (Nat.sub_le _ _)) _) hn) hm s hs hx hv ?_
  intro w' h1 h2
  exact h w' ⟨D, left, s :: ss, hmap, hL, hr.kept h2 (fun e => hne (Option.some.inj e)) (fun e => hrK (Option.some.inj e).symm), Nat.le_of_lt hc, h1.mono (Nat.le_of_eq (by clear hn hss h; omega)), hss⟩ h2
end
end Go.Proofs.YtejjlkbbnhpbdaaX
namespace Go.Proofs.Ytejjlkbbnhpbdaa.P
open Go.Proofs.YtejjlkbbnhpbdaaX
open Go.RowKit Go.Proofs.YtejjlkbbnhpbdaaW.PrintWords Go.Proofs.YtejjlkbbnhpbdaaW.PrintLast Go.Proofs.YtejjlkbbnhpbdaaW.PrintMore
attribute [local go_sem] max2_int min2_int max_two min_two max_three min_three max_four min_four
set_option linter.unusedVariables false
set_option linter.unusedSimpArgs false
open Go.Proofs.YtejjlkbbnhpbdaaX
def sc_t (K : List ByteArray) : List S68 → List ByteArray → Option (Bool × List ByteArray)
 | [], L => some (true, L)
 | t :: ts, L => if t.f2.size ≤ maxLen then (if t.f0 = 3 ∧ t.f2.toList.isEmpty = false ∧ memS t.f2 K = false ∧ memS t.f2 L = false then some (false, L) else if t.f0 = 2 then sc_t K ts (t.f2 :: L) else sc_t K ts L) else none
def sc_p : List S59 → Nat → List ByteArray → Option (Int × List ByteArray)
 | [], _, K => some (-1, K)
 | p :: ps, i, K => if p.f2.length ≤ 6 then (sc_t K p.f2 []).bind fun y => (if y.1 = true then sc_p ps (i + 1) (if p.f0 = true then K else y.2 ++ K) else some ((i : Int) + 1, K)) else none
def sc_e (es : List S72) (K : List ByteArray) : Nat → Int → Int → Option (Bool × Int)
 | 0, k, x => if k ≤ x then none else some (true, k)
 | m + 1, k, x => if k ≤ x then (if 0 ≤ k ∧ k < (es.length : Int) ∧ (rd_T72 es k).f2.size ≤ maxLen then (if (rd_T72 es k).f0 = 1 ∧ memS (rd_T72 es k).f2 K = false then some (false, k) else sc_e es K m (k + 1) x) else none) else some (true, k)
def sc_args (es : List S72) (K : List ByteArray) : List Int → Int → Option (Bool × Int)
 | [], k => some (true, k)
 | x :: xs, k => (sc_e es K es.length k x).bind fun y => if y.1 = true then sc_args es K xs y.2 else some (false, y.2)
def sc_acts (es : List S72) (K : List ByteArray) (lp : Nat) : List S46 → Nat → Int → Option Int
 | [], _, _ => some (-1)
 | a :: as_, i, k => (sc_args es K a.f3 k).bind fun y => if y.1 = true then sc_acts es K lp as_ (i + 1) y.2 else some ((lp : Int) + (i : Int) + 1)
def impl_Rule_scopeFault.f (nm : ByteArray) (sa : Int) (ps : List S59) (es : List S72) (as_ : List S46) : Option Int :=
 if ps.length ≤ 6 ∧ es.length ≤ 60 ∧ as_.length ≤ 8 then (sc_p ps 0 []).bind fun y => if y.1 = -1 then sc_acts es y.2 ps.length as_ 0 0 else some y.1 else none
theorem sc_t_cons (K : List ByteArray) (ts : List S68) (j : Nat) (h : j < ts.length) (L : List ByteArray) (y : Bool × List ByteArray) (hg : sc_t K (ts.drop j) L = some y) :
  (rd_T68 ts (j : Int)).f2.size ≤ maxLen ∧ (if (rd_T68 ts (j : Int)).f0 = 3 ∧ (rd_T68 ts (j : Int)).f2.toList.isEmpty = false ∧ memS (rd_T68 ts (j : Int)).f2 K = false ∧ memS (rd_T68 ts (j : Int)).f2 L = false then some (false, L) else if (rd_T68 ts (j : Int)).f0 = 2 then sc_t K (ts.drop (j + 1)) ((rd_T68 ts (j : Int)).f2 :: L) else sc_t K (ts.drop (j + 1)) L) = some y := by
 have e : rd_T68 ts (j : Int) = ts[j] := by
  unfold rd_T68
  simp [h]
 rw [List.drop_eq_getElem_cons h] at hg; unfold sc_t at hg
 rw [e]; split at hg
 ·exact ⟨‹_›, hg⟩
 ·cases hg
theorem sc_p_cons (ps : List S59) (i : Nat) (h : i < ps.length) (K : List ByteArray) (y : Int × List ByteArray) (hg : sc_p (ps.drop i) i K = some y) :
  (rd_T59 ps (i : Int)).f2.length ≤ 6 ∧ ((sc_t K (rd_T59 ps (i : Int)).f2 []).bind fun y => (if y.1 = true then sc_p (ps.drop (i + 1)) (i + 1) (if (rd_T59 ps (i : Int)).f0 = true then K else y.2 ++ K) else some ((i : Int) + 1, K))) = some y := by
 have e : rd_T59 ps (i : Int) = ps[i] := by
  unfold rd_T59
  simp [h]
 rw [List.drop_eq_getElem_cons h] at hg; unfold sc_p at hg
 rw [e]; split at hg
 ·exact ⟨‹_›, hg⟩
 ·cases hg
theorem sc_args_cons (es : List S72) (K : List ByteArray) (xs : List Int) (j : Nat) (h : j < xs.length) (k : Int) (y : Bool × Int) (hg : sc_args es K (xs.drop j) k = some y) :
  ((sc_e es K es.length k (rd xs (j : Int))).bind fun y => if y.1 = true then sc_args es K (xs.drop (j + 1)) y.2 else some (false, y.2)) = some y := by
 have e : rd xs (j : Int) = xs[j] := by
  unfold rd
  simp [h]
 rw [List.drop_eq_getElem_cons h] at hg; unfold sc_args at hg
 rw [e]; exact hg
theorem sc_acts_cons (es : List S72) (K : List ByteArray) (lp : Nat) (as_ : List S46) (i : Nat) (h : i < as_.length) (k : Int) (r : Int) (hg : sc_acts es K lp (as_.drop i) i k = some r) :
  ((sc_args es K (rd_T46 as_ (i : Int)).f3 k).bind fun y => if y.1 = true then sc_acts es K lp (as_.drop (i + 1)) (i + 1) y.2 else some ((lp : Int) + (i : Int) + 1)) = some r := by
 have e : rd_T46 as_ (i : Int) = as_[i] := by
  unfold rd_T46
  simp [h]
 rw [List.drop_eq_getElem_cons h] at hg; unfold sc_acts at hg
 rw [e]; exact hg
theorem lt_maxLen {n : Nat} (h : n ≤ 1000) : n < maxLen := by unfold maxLen; omega
set_option maxHeartbeats 16000000 in
set_option maxRecDepth 100000 in
theorem impl_Rule_scopeFault.walk (nm : ByteArray) (sa : Int) (A2 : Option Addr) (c2 : Nat) (ps : List S59) (A3 : Option Addr) (c3 : Nat) (es : List S72) (A4 : Option Addr) (c4 : Nat) (as_ : List S46) (r : Int) (w : World) (hr2 : Kd.C k59 w A2 ps.length ps) (hr3 : Kd.C k72 w A3 es.length es) (hr4 : Kd.C k46 w A4 as_.length as_) (h : impl_Rule_scopeFault.f nm sa ps es as_ = some r) :
  Calls Try.prog 18 #[.agg #[.string nm, .int .i64 sa, .slice A2 ps.length c2, .slice A3 es.length c3, .slice A4 as_.length c4]] w fun e w' => e = .returned (.int .i64 r) ∧ Below w.heap.size w w' := by
 have hu := Try.underlying42; have hu2 := Try.underlying46; have hu3 := Try.underlying59; have hu4 := Try.underlying68; have hu5 := Try.underlying72; have HR2 := a_ hr2; have HR3 := a_ hr3; have HR4 := a_ hr4; clear hr2 hr3 hr4; unfold impl_Rule_scopeFault.f at h
 by_cases c0 : ps.length ≤ 6 ∧ es.length ≤ 60 ∧ as_.length ≤ 8
 rotate_left
 ·rw [if_neg c0] at h; cases h
 rw [if_pos c0] at h; have C0 := a_ c0; clear c0; obtain ⟨y, hy, h⟩ := Option.bind_eq_some_iff.1 h; have HY : Aside0 (sc_p (ps.drop 0) 0 [] = some y) := ⟨hy⟩
 have HH := a_ h; clear hy h; have HB := a_ (below_alloc (below_alloc (Below.refl w.heap.size w) (.cells #[.string nm, .int .i64 sa, .slice A2 ps.length c2, .slice A3 es.length c3, .slice A4 as_.length c4] 42)) (.map #[] 0)); have BK := a_ (blk_alloc (blk_new w (.cells #[.string nm, .int .i64 sa, .slice A2 ps.length c2, .slice A3 es.length c3, .slice A4 as_.length c4] 42)) (.map #[] 0)); have SK : Aside0 (SetS ((w.alloc (.cells #[.string nm, .int .i64 sa, .slice A2 ps.length c2, .slice A3 es.length c3, .slice A4 as_.length c4] 42)).alloc (.map #[] 0)) (w.heap.size + 1) 0 []) := ⟨by have := SetS_made (w.alloc (.cells #[.string nm, .int .i64 sa, .slice A2 ps.length c2, .slice A3 es.length c3, .slice A4 as_.length c4] 42)); rwa [show (w.alloc (.cells #[.string nm, .int .i64 sa, .slice A2 ps.length c2, .slice A3 es.length c3, .slice A4 as_.length c4] 42)).heap.size = w.heap.size + 1 by simp] at this⟩
 have ha2 := (blk_cell BK.out 2).trans rfl; simp only [List.getElem?_toArray, List.getElem?_cons_zero, List.getElem?_cons_succ] at ha2; have hmm := @run_makeMap Try.prog; go_enter Try.func18, Try.ntmps18; go_wp2; go_loopg [20] ps.length (fun gg v20 wr => ∃ (i nK : Nat) (K : List ByteArray), i ≤ ps.length ∧ ps.length - i ≤ gg ∧ v20 = .int .i64 (i : Int) ∧ Aside0 (nK ≤ 6 * i) ∧ Aside0 (sc_p (ps.drop i) i K = some y) ∧ Aside0 (Below w.heap.size w wr) ∧ Aside0 (wr.heap[w.heap.size]? = some (.cells #[.string nm, .int .i64 sa, .slice A2 ps.length c2, .slice A3 es.length c3, .slice A4 as_.length c4] 42 (0, 0))) ∧ Aside0 (SetS wr (w.heap.size + 1) nK K))
 case atStart => exact ⟨0, 0, [], Nat.zero_le _, Nat.le_refl _, rfl, ⟨Nat.le_refl _⟩, HY, HB, BK, SK⟩
 clear SK BK HB ha2 HY; obtain ⟨i, nK, K, hi, hgg, rfl, HN, HY, HB, BK, SK⟩ := hrel; obtain ⟨wa, hwa⟩ : ∃ x, x = wr := ⟨_, rfl⟩; subst hwa; by_cases hlt : i < ps.length
 ·have hz : (i : Int) < (ps.length : Int) := by omega
  have hz0 : (0 : Int) ≤ (i : Int) := by omega
  obtain ⟨ad, A5, c5, e0, hx0, hx1, hx2, hl5, hC5⟩ := at_T59 HR2.out (i : Int) hz0 hz; cases e0; replace hx0 := mx_ HB hx0; replace hx1 := mx_ HB hx1; replace hx2 := mx_ HB hx2; simp only [Int.toNat_natCast] at hx0 hx1 hx2; have HC5 := a_ hC5; have hst := sc_p_cons ps i hlt K y HY.out; clear hC5 hl5; generalize rd_T59 ps (i : Int) = p5 at *; obtain ⟨hl6, hst⟩ := hst; have HL6 := a_ hl6; clear hl6; obtain ⟨yt, hyt, hst⟩ := Option.bind_eq_some_iff.1 hst; have HT : Aside0 (sc_t K (p5.f2.drop 0) [] = some yt) := ⟨hyt⟩
  have HST := a_ hst; clear hyt hst; have HS1 : Aside0 (w.heap.size + 1 < wa.heap.size) := ⟨SK.out.lt⟩
  have BP := a_ (blk_alloc (blk_new wa (.cells #[.bool p5.f0, .string p5.f1, .slice A5 p5.f2.length c5] 59)) (.map #[] 0)); have SL : Aside0 (SetS ((wa.alloc (.cells #[.bool p5.f0, .string p5.f1, .slice A5 p5.f2.length c5] 59)).alloc (.map #[] 0)) (wa.heap.size + 1) 0 []) := ⟨by have := SetS_made (wa.alloc (.cells #[.bool p5.f0, .string p5.f1, .slice A5 p5.f2.length c5] 59)); rwa [show (wa.alloc (.cells #[.bool p5.f0, .string p5.f1, .slice A5 p5.f2.length c5] 59)).heap.size = wa.heap.size + 1 by simp] at this⟩
  have hp2 := (blk_cell BP.out 2).trans rfl; simp only [List.getElem?_toArray, List.getElem?_cons_zero, List.getElem?_cons_succ] at hp2; go_wp2; go_loopg [29] p5.f2.length (fun gg v29 wr => ∃ (j nL : Nat) (L : List ByteArray), j ≤ p5.f2.length ∧ p5.f2.length - j ≤ gg ∧ v29 = .int .i64 (j : Int) ∧ Aside0 (nL ≤ j) ∧ Aside0 (sc_t K (p5.f2.drop j) L = some yt) ∧ Aside0 (Below w.heap.size w wr) ∧ Aside0 (wr.heap[w.heap.size]? = some (.cells #[.string nm, .int .i64 sa, .slice (some ad) ps.length c2, .slice A3 es.length c3, .slice A4 as_.length c4] 42 (0, 0))) ∧ Aside0 (wr.heap[wa.heap.size]? = some (.cells #[.bool p5.f0, .string p5.f1, .slice A5 p5.f2.length c5] 59 (0, 0))) ∧ Aside0 (SetS wr (w.heap.size + 1) nK K) ∧ Aside0 (SetS wr (wa.heap.size + 1) nL L))
  case atStart => exact ⟨0, 0, [], Nat.zero_le _, Nat.le_refl _, rfl, ⟨Nat.le_refl _⟩, HT, ⟨below_alloc (below_alloc HB.out _) _⟩, ⟨blk_alloc (blk_alloc BK.out _) _⟩, BP, ⟨SetS.alloc (SetS.alloc SK.out _) _⟩, SL⟩
  clear SL BP HT hp2; obtain ⟨j, nL, L, hj, hggj, rfl, HNL, HT, HB4, BK4, BP4, SK4, SL4⟩ := hrel; by_cases hltj : j < p5.f2.length
  ·have hzj : (j : Int) < (p5.f2.length : Int) := by omega
   have hzj0 : (0 : Int) ≤ (j : Int) := by omega
   have HJ6 : Aside0 (j ≤ 6) := ⟨by have := HL6.out; omega⟩
   obtain ⟨adt, e0, ht0, ht1, ht2, ht3, ht4, ht5⟩ := at_T68 HC5.out (j : Int) hzj0 hzj; cases e0; replace ht0 := (HB4.out.cell (World.block_lt_of_cell? w _ ht0)).trans ht0; replace ht1 := (HB4.out.cell (World.block_lt_of_cell? w _ ht1)).trans ht1; replace ht2 := (HB4.out.cell (World.block_lt_of_cell? w _ ht2)).trans ht2; replace ht3 := (HB4.out.cell (World.block_lt_of_cell? w _ ht3)).trans ht3; replace ht4 := (HB4.out.cell (World.block_lt_of_cell? w _ ht4)).trans ht4; replace ht5 := (HB4.out.cell (World.block_lt_of_cell? w _ ht5)).trans ht5; simp only [Int.toNat_natCast] at ht0 ht1 ht2 ht3 ht4 ht5; have hst := sc_t_cons K p5.f2 j hltj L yt HT.out; generalize rd_T68 p5.f2 (j : Int) = t at *; obtain ⟨hsz, hst⟩ := hst; have HSZ := a_ hsz; clear hsz; have hwj : wrap64 ((j : Int) + 1) = ((j + 1 : Nat) : Int) := by unfold wrap64; have := HJ6.out; omega
   have HWJ := a_ hwj; clear hwj; by_cases k3 : t.f0 = 3
   ·have p3 : (t.f0 == 3) = true := by simpa using k3
    have p2 : (t.f0 == 2) = false := by rw [k3]; rfl
    have n2 : ¬ t.f0 = 2 := by omega
    cases hemp : t.f2.toList.isEmpty with
    | true =>
     rw [if_neg (fun q => by have := q.2.1; rw [hemp] at this; cases this), if_neg n2] at hst; have HST2 := a_ hst; clear hst k3 n2; go_wp2; go_roundg (p5.f2.length - (j + 1))
     case measure => omega
     case rel => exact ⟨j + 1, nL, L, by omega, by omega, by rw [HWJ.out], ⟨by have := HNL.out; omega⟩, HST2, ⟨below_alloc HB4.out _⟩, ⟨blk_alloc BK4.out _⟩, ⟨blk_alloc BP4.out _⟩, ⟨SetS.alloc SK4.out _⟩, ⟨SetS.alloc SL4.out _⟩⟩
    | false =>
     cases hk : memS t.f2 K with
     | true =>
      rw [if_neg (fun q => by have := q.2.2.1; rw [hk] at this; cases this), if_neg n2] at hst; have HST2 := a_ hst; clear hst k3 n2; go_wp2_with fail; refine (impl_nameSet_has.calls (w.heap.size + 1) nK K t.f2 _ (SetS.alloc SK4.out (.cells #[.int .i64 t.f0, .int .i64 t.f1, .string t.f2, .int .i64 t.f3.f0, .int .i64 t.f3.f1, .string t.f3.f2] 68)) HSZ.out).mono ?_; rintro e w5 ⟨rfl, hd⟩; have HB5 := a_ (below_step (below_alloc HB4.out (.cells #[.int .i64 t.f0, .int .i64 t.f1, .string t.f2, .int .i64 t.f3.f0, .int .i64 t.f3.f1, .string t.f3.f2] 68)) hd); have BK5 := a_ (blk_below (blk_alloc BK4.out (.cells #[.int .i64 t.f0, .int .i64 t.f1, .string t.f2, .int .i64 t.f3.f0, .int .i64 t.f3.f1, .string t.f3.f2] 68)) hd); have BP5 := a_ (blk_below (blk_alloc BP4.out (.cells #[.int .i64 t.f0, .int .i64 t.f1, .string t.f2, .int .i64 t.f3.f0, .int .i64 t.f3.f1, .string t.f3.f2] 68)) hd); have SK5 := a_ ((SetS.alloc SK4.out (.cells #[.int .i64 t.f0, .int .i64 t.f1, .string t.f2, .int .i64 t.f3.f0, .int .i64 t.f3.f1, .string t.f3.f2] 68)).kept (grown_of_below hd none) (by simp)); have SL5 := a_ ((SetS.alloc SL4.out (.cells #[.int .i64 t.f0, .int .i64 t.f1, .string t.f2, .int .i64 t.f3.f0, .int .i64 t.f3.f1, .string t.f3.f2] 68)).kept (grown_of_below hd none) (by simp)); have BT5 := blk_below (blk_new wr (.cells #[.int .i64 t.f0, .int .i64 t.f1, .string t.f2, .int .i64 t.f3.f0, .int .i64 t.f3.f1, .string t.f3.f2] 68)) hd; have hq0 := (blk_cell BT5 0).trans rfl; have hq2 := (blk_cell BT5 2).trans rfl; simp only [List.getElem?_toArray, List.getElem?_cons_zero, List.getElem?_cons_succ] at hq0 hq2; clear hd BT5; go_wp2; go_roundg (p5.f2.length - (j + 1))
      case measure => omega
      case rel => exact ⟨j + 1, nL, L, by omega, by omega, by rw [HWJ.out], ⟨by have := HNL.out; omega⟩, HST2, HB5, BK5, BP5, SK5, SL5⟩
     | false =>
      cases hl : memS t.f2 L with
      | true =>
       rw [if_neg (fun q => by have := q.2.2.2; rw [hl] at this; cases this), if_neg n2] at hst; have HST2 := a_ hst; clear hst k3 n2; go_wp2_with fail; refine (impl_nameSet_has.calls (w.heap.size + 1) nK K t.f2 _ (SetS.alloc SK4.out (.cells #[.int .i64 t.f0, .int .i64 t.f1, .string t.f2, .int .i64 t.f3.f0, .int .i64 t.f3.f1, .string t.f3.f2] 68)) HSZ.out).mono ?_; rintro e w5 ⟨rfl, hd⟩; have HB5 := a_ (below_step (below_alloc HB4.out (.cells #[.int .i64 t.f0, .int .i64 t.f1, .string t.f2, .int .i64 t.f3.f0, .int .i64 t.f3.f1, .string t.f3.f2] 68)) hd); have BK5 := a_ (blk_below (blk_alloc BK4.out (.cells #[.int .i64 t.f0, .int .i64 t.f1, .string t.f2, .int .i64 t.f3.f0, .int .i64 t.f3.f1, .string t.f3.f2] 68)) hd); have BP5 := a_ (blk_below (blk_alloc BP4.out (.cells #[.int .i64 t.f0, .int .i64 t.f1, .string t.f2, .int .i64 t.f3.f0, .int .i64 t.f3.f1, .string t.f3.f2] 68)) hd); have SK5 := a_ ((SetS.alloc SK4.out (.cells #[.int .i64 t.f0, .int .i64 t.f1, .string t.f2, .int .i64 t.f3.f0, .int .i64 t.f3.f1, .string t.f3.f2] 68)).kept (grown_of_below hd none) (by simp)); have SL5 := a_ ((SetS.alloc SL4.out (.cells #[.int .i64 t.f0, .int .i64 t.f1, .string t.f2, .int .i64 t.f3.f0, .int .i64 t.f3.f1, .string t.f3.f2] 68)).kept (grown_of_below hd none) (by simp)); have BT5 := blk_below (blk_new wr (.cells #[.int .i64 t.f0, .int .i64 t.f1, .string t.f2, .int .i64 t.f3.f0, .int .i64 t.f3.f1, .string t.f3.f2] 68)) hd; have hq0 := (blk_cell BT5 0).trans rfl; have hq2 := (blk_cell BT5 2).trans rfl; simp only [List.getElem?_toArray, List.getElem?_cons_zero, List.getElem?_cons_succ] at hq0 hq2; clear hd BT5; go_wp2_with fail; refine (impl_nameSet_has.calls (wa.heap.size + 1) nL L t.f2 _ SL5.out HSZ.out).mono ?_; rintro e w6 ⟨rfl, hd⟩; have HB6 := a_ (below_step HB5.out hd); have BK6 := a_ (blk_below BK5.out hd); have BP6 := a_ (blk_below BP5.out hd); have SK6 := a_ (SK5.out.kept (grown_of_below hd none) (by simp)); have SL6 := a_ (SL5.out.kept (grown_of_below hd none) (by simp)); have hv0 := pw_cell_below hd hq0; have hv2 := pw_cell_below hd hq2; clear hd; go_wp2; go_roundg (p5.f2.length - (j + 1))
       case measure => omega
       case rel => exact ⟨j + 1, nL, L, by omega, by omega, by rw [HWJ.out], ⟨by have := HNL.out; omega⟩, HST2, HB6, BK6, BP6, SK6, SL6⟩
      | false =>
       rw [if_pos ⟨k3, hemp, hk, hl⟩] at hst; have e1 := Option.some.inj hst; have hs2 := HST.out; rw [← e1, if_neg (by simp)] at hs2; have e2 := Option.some.inj hs2; have hs3 := HH.out; rw [← e2] at hs3; have hn1 : ¬ ((i : Int) + 1 = -1) := by omega
       replace hs3 : (if (i : Int) + 1 = -1 then _ else some ((i : Int) + 1)) = some r := hs3
       rw [if_neg hn1] at hs3; have HR : Aside0 ((i : Int) + 1 = r) := ⟨Option.some.inj hs3⟩
       clear hst k3 n2 e1 hs2 e2 hs3 hn1; go_wp2_with fail; refine (impl_nameSet_has.calls (w.heap.size + 1) nK K t.f2 _ (SetS.alloc SK4.out (.cells #[.int .i64 t.f0, .int .i64 t.f1, .string t.f2, .int .i64 t.f3.f0, .int .i64 t.f3.f1, .string t.f3.f2] 68)) HSZ.out).mono ?_; rintro e w5 ⟨rfl, hd⟩; have HB5 := a_ (below_step (below_alloc HB4.out (.cells #[.int .i64 t.f0, .int .i64 t.f1, .string t.f2, .int .i64 t.f3.f0, .int .i64 t.f3.f1, .string t.f3.f2] 68)) hd); have BK5 := a_ (blk_below (blk_alloc BK4.out (.cells #[.int .i64 t.f0, .int .i64 t.f1, .string t.f2, .int .i64 t.f3.f0, .int .i64 t.f3.f1, .string t.f3.f2] 68)) hd); have BP5 := a_ (blk_below (blk_alloc BP4.out (.cells #[.int .i64 t.f0, .int .i64 t.f1, .string t.f2, .int .i64 t.f3.f0, .int .i64 t.f3.f1, .string t.f3.f2] 68)) hd); have SK5 := a_ ((SetS.alloc SK4.out (.cells #[.int .i64 t.f0, .int .i64 t.f1, .string t.f2, .int .i64 t.f3.f0, .int .i64 t.f3.f1, .string t.f3.f2] 68)).kept (grown_of_below hd none) (by simp)); have SL5 := a_ ((SetS.alloc SL4.out (.cells #[.int .i64 t.f0, .int .i64 t.f1, .string t.f2, .int .i64 t.f3.f0, .int .i64 t.f3.f1, .string t.f3.f2] 68)).kept (grown_of_below hd none) (by simp)); have BT5 := blk_below (blk_new wr (.cells #[.int .i64 t.f0, .int .i64 t.f1, .string t.f2, .int .i64 t.f3.f0, .int .i64 t.f3.f1, .string t.f3.f2] 68)) hd; have hq0 := (blk_cell BT5 0).trans rfl; have hq2 := (blk_cell BT5 2).trans rfl; simp only [List.getElem?_toArray, List.getElem?_cons_zero, List.getElem?_cons_succ] at hq0 hq2; clear hd BT5; go_wp2_with fail; refine (impl_nameSet_has.calls (wa.heap.size + 1) nL L t.f2 _ SL5.out HSZ.out).mono ?_; rintro e w6 ⟨rfl, hd⟩; have HB6 := a_ (below_step HB5.out hd); have BK6 := a_ (blk_below BK5.out hd); have BP6 := a_ (blk_below BP5.out hd); have SK6 := a_ (SK5.out.kept (grown_of_below hd none) (by simp)); have SL6 := a_ (SL5.out.kept (grown_of_below hd none) (by simp)); have hv0 := pw_cell_below hd hq0; have hv2 := pw_cell_below hd hq2; clear hd; go_wp2; go_ret; exact ⟨by rw [← HR.out, show wrap64 ((i : Int) + 1) = (i : Int) + 1 by unfold wrap64; have := C0.out.1; omega]; rfl, HB6.out⟩
   ·have p3 : (t.f0 == 3) = false := by simpa using k3
    rw [if_neg (fun q => k3 q.1)] at hst; by_cases k2 : t.f0 = 2
    ·have p2 : (t.f0 == 2) = true := by simpa using k2
     rw [if_pos k2] at hst; have HST2 := a_ hst; clear hst k3 k2; go_wp2_with (at_mapUpdate; refine wpList_addS rfl _ _ _ 49 52 Try.underlying49 rfl (wa.heap.size + 1) nL L (SetS.alloc SL4.out _) (lt_maxLen (by have := HNL.out; have := HJ6.out; omega)) rfl t.f2 HSZ.out rfl rfl ?_; intro w2 hs2 hg2; have HB5 : Aside0 (Below w.heap.size w w2) := ⟨(below_alloc HB4.out _).grown hg2 (by have := HS1.out; have := HB4.out.size; simp; omega) (by intro q e; injection e with e; have := HS1.out; omega)⟩; have BK5 := a_ (blk_grown (blk_alloc BK4.out (.cells #[.int .i64 t.f0, .int .i64 t.f1, .string t.f2, .int .i64 t.f3.f0, .int .i64 t.f3.f1, .string t.f3.f2] 68)) hg2 (by intro e; injection e with e; have := HS1.out; omega)); have BP5 := a_ (blk_grown (blk_alloc BP4.out (.cells #[.int .i64 t.f0, .int .i64 t.f1, .string t.f2, .int .i64 t.f3.f0, .int .i64 t.f3.f1, .string t.f3.f2] 68)) hg2 (by intro e; injection e with e; omega)); have SK5 := a_ ((SetS.alloc SK4.out (.cells #[.int .i64 t.f0, .int .i64 t.f1, .string t.f2, .int .i64 t.f3.f0, .int .i64 t.f3.f1, .string t.f3.f2] 68)).kept hg2 (by intro e; injection e with e; have := HS1.out; omega)); have SL5 := a_ hs2; clear hs2 hg2; go_frame); go_roundg (p5.f2.length - (j + 1))
     case measure => omega
     case rel => exact ⟨j + 1, nL + 1, t.f2 :: L, by omega, by omega, by rw [HWJ.out], ⟨by have := HNL.out; omega⟩, HST2, HB5, BK5, BP5, SK5, SL5⟩
    ·have p2 : (t.f0 == 2) = false := by simpa using k2
     rw [if_neg k2] at hst; have HST2 := a_ hst; clear hst k3 k2; go_wp2; go_roundg (p5.f2.length - (j + 1))
     case measure => omega
     case rel => exact ⟨j + 1, nL, L, by omega, by omega, by rw [HWJ.out], ⟨by have := HNL.out; omega⟩, HST2, ⟨below_alloc HB4.out _⟩, ⟨blk_alloc BK4.out _⟩, ⟨blk_alloc BP4.out _⟩, ⟨SetS.alloc SK4.out _⟩, ⟨SetS.alloc SL4.out _⟩⟩
  ·have hjl : j = p5.f2.length := by omega
   have e0 := HT.out; rw [hjl, List.drop_length] at e0; unfold sc_t at e0
   have e1 := Option.some.inj e0; have hs2 := HST.out; rw [← e1, if_pos rfl] at hs2; have HST2 := a_ hs2; have HJ6 : Aside0 (nL ≤ 6) := ⟨by have := HNL.out; have := HL6.out; omega⟩
   have HWI : Aside0 (wrap64 ((i : Int) + 1) = ((i + 1 : Nat) : Int)) := ⟨by unfold wrap64; have := C0.out.1; omega⟩
   clear e0 e1 hs2 hjl HT; obtain ⟨wb, hwb⟩ : ∃ x, x = wr := ⟨_, rfl⟩; subst hwb; have hp0 := (blk_cell BP4.out 0).trans rfl; simp only [List.getElem?_toArray, List.getElem?_cons_zero, List.getElem?_cons_succ] at hp0; cases hneg : p5.f0 with
   | true =>
    rw [hneg] at hp0; have HST3 := HST2.out; rw [hneg, if_pos rfl] at HST3; have HST4 := a_ HST3; clear HST3 hneg; go_wp2; go_roundg (ps.length - (i + 1))
    case measure => omega
    case rel => exact ⟨i + 1, nK, K, by omega, by omega, by rw [HWI.out], ⟨by have := HN.out; omega⟩, HST4, HB4, BK4, SK4⟩
   | false =>
    rw [hneg] at hp0; have HST3 := HST2.out; rw [hneg, if_neg (by simp)] at HST3; have HST4 := a_ HST3; clear HST3 hneg; have hbs : wa.heap.size + 1 < wb.heap.size := SL4.out.lt
    have HBS := a_ hbs; clear hbs; go_wp2_with (at_range; refine wpList_rangeU rfl _ 49 52 Try.underlying49 rfl (wa.heap.size + 1) nL L SL4.out (w.heap.size + 1) nK K SK4.out rfl ?_; intro w2 cnt0 hu2 hg2 hs2; have HU2 := a_ hu2; have HB5 : Aside0 (Below w.heap.size w w2) := ⟨HB4.out.grown hg2 HB4.out.size (fun _ e => by cases e)⟩; have BK5 := a_ (blk_grown BK4.out hg2 (by simp)); clear hu2 hg2 hs2; go_frame); go_loopg [9] cnt0 (fun gg v9 wr => ∃ cnt : Nat, cnt ≤ gg ∧ Aside0 (URel wr (wa.heap.size + 1) wb.heap.size nL L (w.heap.size + 1) nK K cnt) ∧ Aside0 (Below w.heap.size w wr) ∧ Aside0 (wr.heap[w.heap.size]? = some (.cells #[.string nm, .int .i64 sa, .slice (some ad) ps.length c2, .slice A3 es.length c3, .slice A4 as_.length c4] 42 (0, 0))))
    case atStart => exact ⟨cnt0, Nat.le_refl _, HU2, HB5, BK5⟩
    obtain ⟨cnt, hcg, HU, HB6, BK6⟩ := hrel; go_wp2_with (at_next; refine wpList_nextU rfl _ rfl (wa.heap.size + 1) wb.heap.size nL L (w.heap.size + 1) nK K cnt rfl HU.out ?_ ?_)
    ·intro hs; have SK7 := a_ hs; clear hs; go_wp2; go_roundg (ps.length - (i + 1))
     case measure => omega
     case rel => exact ⟨i + 1, nK + nL, L ++ K, by omega, by omega, by rw [HWI.out], ⟨by have := HN.out; have := HJ6.out; omega⟩, HST4, HB6, BK6, SK7⟩
    ·intro x w3 cnt3 hxs hlt3 hmid hg3 hs3 hen; have HM := a_ hmid; have HXS := a_ hxs; have HB7 : Aside0 (Below w.heap.size w w3) := ⟨HB6.out.grown hg3 HB6.out.size (by intro q e; injection e with e; have := HS1.out; have := HBS.out; omega)⟩
     have BK7 := a_ (blk_grown BK6.out hg3 (by intro e; injection e with e; have := HS1.out; have := HBS.out; omega)); clear hmid hxs hg3 hs3; go_wp2_with (at_mapUpdate; refine wpList_addU rfl _ _ _ 49 52 Try.underlying49 rfl (wa.heap.size + 1) wb.heap.size nL L (w.heap.size + 1) nK K cnt3 x HM.out (by have := HS1.out; omega) (lt_maxLen (by have := HN.out; have := HJ6.out; have := C0.out.1; omega)) rfl HXS.out rfl rfl ?_; intro w4 hu4 hg4; have HU4 := a_ hu4; have HB8 : Aside0 (Below w.heap.size w w4) := ⟨HB7.out.grown hg4 HB7.out.size (by intro q e; injection e with e; omega)⟩; have BK8 := a_ (blk_grown BK7.out hg4 (by intro e; injection e with e; omega)); clear hu4 hg4; go_frame); go_roundg cnt3
     case measure => omega
     case rel => exact ⟨cnt3, Nat.le_refl _, HU4, HB8, BK8⟩
 ·have hil : i = ps.length := by omega
  subst hil; have e0 := HY.out; rw [List.drop_length] at e0; unfold sc_p at e0
  have e1 := Option.some.inj e0; have h2 := HH.out; rw [← e1, if_pos rfl] at h2; have HA : Aside0 (sc_acts es K ps.length (as_.drop 0) 0 0 = some r) := ⟨h2⟩
  clear e0 e1 h2 HY HH; have ha4 := (blk_cell BK.out 4).trans rfl; simp only [List.getElem?_toArray, List.getElem?_cons_zero, List.getElem?_cons_succ] at ha4; go_wp2; go_loopg [83, 10] as_.length (fun gg v83 v10 wr => ∃ (m : Nat) (k : Int), m ≤ as_.length ∧ as_.length - m ≤ gg ∧ v83 = .int .i64 (m : Int) ∧ v10 = .int .i64 k ∧ Aside0 (sc_acts es K ps.length (as_.drop m) m k = some r) ∧ Aside0 (Below w.heap.size w wr) ∧ Aside0 (wr.heap[w.heap.size]? = some (.cells #[.string nm, .int .i64 sa, .slice A2 ps.length c2, .slice A3 es.length c3, .slice A4 as_.length c4] 42 (0, 0))) ∧ Aside0 (SetS wr (w.heap.size + 1) nK K))
  case atStart => exact ⟨0, 0, Nat.zero_le _, Nat.le_refl _, rfl, rfl, HA, HB, BK, SK⟩
  clear HA ha4 HB BK SK; obtain ⟨m, k, hm, hggm, rfl, rfl, HA, HB, BK, SK⟩ := hrel; by_cases hltm : m < as_.length
  ·have hz : (m : Int) < (as_.length : Int) := by omega
   have hz0 : (0 : Int) ≤ (m : Int) := by omega
   have HM8 : Aside0 (m ≤ 8) := ⟨by have := C0.out.2.2; omega⟩
   obtain ⟨ad, A7, c7, e0, hx0, hx1, hx2, hx3, hl7, hC7⟩ := at_T46 HR4.out (m : Int) hz0 hz; cases e0; replace hx0 := mx_ HB hx0; replace hx1 := mx_ HB hx1; replace hx2 := mx_ HB hx2; replace hx3 := mx_ HB hx3; simp only [Int.toNat_natCast] at hx0 hx1 hx2 hx3; have HC7 := a_ hC7; have hst := sc_acts_cons es K ps.length as_ m hltm k r HA.out; clear hC7 hl7; generalize rd_T46 as_ (m : Int) = a7 at *; obtain ⟨yd, hyd, hst⟩ := Option.bind_eq_some_iff.1 hst; have HD : Aside0 (sc_args es K (a7.f3.drop 0) k = some yd) := ⟨hyd⟩
   have HST := a_ hst; clear hyd hst; obtain ⟨wc, hwc⟩ : ∃ x, x = wr := ⟨_, rfl⟩; subst hwc; go_wp2; go_loopg [91, 10] a7.f3.length (fun gg v91 v10 wr => ∃ (q : Nat) (k : Int), q ≤ a7.f3.length ∧ a7.f3.length - q ≤ gg ∧ v91 = .int .i64 (q : Int) ∧ v10 = .int .i64 k ∧ Aside0 (sc_args es K (a7.f3.drop q) k = some yd) ∧ Aside0 (Below w.heap.size w wr) ∧ Aside0 (wr.heap[w.heap.size]? = some (.cells #[.string nm, .int .i64 sa, .slice A2 ps.length c2, .slice A3 es.length c3, .slice (some ad) as_.length c4] 42 (0, 0))) ∧ Aside0 (SetS wr (w.heap.size + 1) nK K))
   case atStart => exact ⟨0, k, Nat.zero_le _, Nat.le_refl _, rfl, rfl, HD, ⟨below_alloc HB.out _⟩, ⟨blk_alloc BK.out _⟩, ⟨SetS.alloc SK.out _⟩⟩
   clear HD HB BK SK; obtain ⟨q, k, hq, hggq, rfl, rfl, HD, HB, BK, SK⟩ := hrel; by_cases hltq : q < a7.f3.length
   ·have hzq : (q : Int) < (a7.f3.length : Int) := by omega
    have hzq0 : (0 : Int) ≤ (q : Int) := by omega
    have HQL : Aside0 (a7.f3.length ≤ 9223372036854775807) := ⟨HC7.out.2.1⟩
    obtain ⟨adq, eq0, hxq⟩ := Kd.at_int HC7.out (q : Int) hzq0 hzq; subst eq0; replace hxq := mx_ HB hxq; simp only [Int.toNat_natCast] at hxq; have hst := sc_args_cons es K a7.f3 q hltq k yd HD.out; generalize rd a7.f3 (q : Int) = v at *; obtain ⟨ye, hye, hst⟩ := Option.bind_eq_some_iff.1 hst; have HE := a_ hye; have HST2 := a_ hst; clear hye hst; obtain ⟨wd, hwd⟩ : ∃ x, x = wr := ⟨_, rfl⟩; subst hwd; go_wp2; go_loopg [10] es.length (fun gg v10 wr => ∃ (fu : Nat) (k : Int), fu ≤ gg ∧ v10 = .int .i64 k ∧ Aside0 (sc_e es K fu k v = some ye) ∧ Aside0 (Below w.heap.size w wr) ∧ Aside0 (wr.heap[w.heap.size]? = some (.cells #[.string nm, .int .i64 sa, .slice A2 ps.length c2, .slice A3 es.length c3, .slice (some ad) as_.length c4] 42 (0, 0))) ∧ Aside0 (SetS wr (w.heap.size + 1) nK K))
    case atStart => exact ⟨es.length, k, Nat.le_refl _, rfl, HE, HB, BK, SK⟩
    clear HE HB BK SK; obtain ⟨fu, k, hfu, rfl, HE, HB, BK, SK⟩ := hrel; by_cases hkv : k ≤ v
    ·cases fu with
     | zero =>
      have e0 := HE.out; unfold sc_e at e0
      rw [if_pos hkv] at e0; cases e0
     | succ fu =>
      have e0 := HE.out; unfold sc_e at e0
      rw [if_pos hkv] at e0; by_cases hc : 0 ≤ k ∧ k < (es.length : Int) ∧ (rd_T72 es k).f2.size ≤ maxLen
      rotate_left
      ·rw [if_neg hc] at e0; cases e0
      rw [if_pos hc] at e0; obtain ⟨hk0, hk1, hsz⟩ := hc; have HSZ := a_ hsz; clear hsz; have HK60 : Aside0 (wrap64 (k + 1) = k + 1) := ⟨by unfold wrap64; have := C0.out.2.1; omega⟩
      obtain ⟨ade, ee0, hx0, hx1, hx2, hx3, hx4, hx5, hx6, hx7⟩ := at_T72 HR3.out k hk0 hk1; cases ee0; replace hx0 := mx_ HB hx0; replace hx1 := mx_ HB hx1; replace hx2 := mx_ HB hx2; replace hx3 := mx_ HB hx3; replace hx4 := mx_ HB hx4; replace hx5 := mx_ HB hx5; replace hx6 := mx_ HB hx6; replace hx7 := mx_ HB hx7; have hb3 := (blk_cell BK.out 3).trans rfl; simp only [List.getElem?_toArray, List.getElem?_cons_zero, List.getElem?_cons_succ] at hb3; have qkv : decide (k ≤ v) = true := decide_eq_true hkv
      generalize rd_T72 es k = x at *; by_cases k1 : x.f0 = 1
      ·have p1 : (x.f0 == 1) = true := by simpa using k1
       cases hk : memS x.f2 K with
       | true =>
        rw [if_neg (fun q => by have := q.2; rw [hk] at this; cases this)] at e0; have HE2 := a_ e0; clear e0 k1 hkv; go_wp2_with fail; refine (impl_nameSet_has.calls (w.heap.size + 1) nK K x.f2 _ (SetS.alloc SK.out (.cells #[.int .i64 x.f0, .int .u8 x.f1, .string x.f2, .int .i64 x.f3.f0, .int .i64 x.f3.f1, .string x.f3.f2, .int .i64 x.f4, .int .i64 x.f5] 72)) HSZ.out).mono ?_; rintro e w5 ⟨rfl, hd⟩; have HB5 := a_ (below_step (below_alloc HB.out (.cells #[.int .i64 x.f0, .int .u8 x.f1, .string x.f2, .int .i64 x.f3.f0, .int .i64 x.f3.f1, .string x.f3.f2, .int .i64 x.f4, .int .i64 x.f5] 72)) hd); have BK5 := a_ (blk_below (blk_alloc BK.out (.cells #[.int .i64 x.f0, .int .u8 x.f1, .string x.f2, .int .i64 x.f3.f0, .int .i64 x.f3.f1, .string x.f3.f2, .int .i64 x.f4, .int .i64 x.f5] 72)) hd); have SK5 := a_ ((SetS.alloc SK.out (.cells #[.int .i64 x.f0, .int .u8 x.f1, .string x.f2, .int .i64 x.f3.f0, .int .i64 x.f3.f1, .string x.f3.f2, .int .i64 x.f4, .int .i64 x.f5] 72)).kept (grown_of_below hd none) (by simp)); clear hd; go_wp2; go_roundg fu
        case measure => omega
        case rel => exact ⟨fu, k + 1, Nat.le_refl _, by rw [HK60.out], HE2, HB5, BK5, SK5⟩
       | false =>
        rw [if_pos ⟨k1, hk⟩] at e0; have e1 := Option.some.inj e0; have h3 := HST2.out; rw [← e1, if_neg (by simp)] at h3; have e2 := Option.some.inj h3; have h4 := HST.out; rw [← e2, if_neg (by simp)] at h4; have HR : Aside0 ((ps.length : Int) + (m : Int) + 1 = r) := ⟨Option.some.inj h4⟩
        clear e0 e1 h3 e2 h4 k1 hkv; go_wp2_with fail; refine (impl_nameSet_has.calls (w.heap.size + 1) nK K x.f2 _ (SetS.alloc SK.out (.cells #[.int .i64 x.f0, .int .u8 x.f1, .string x.f2, .int .i64 x.f3.f0, .int .i64 x.f3.f1, .string x.f3.f2, .int .i64 x.f4, .int .i64 x.f5] 72)) HSZ.out).mono ?_; rintro e w5 ⟨rfl, hd⟩; have HB5 := a_ (below_step (below_alloc HB.out (.cells #[.int .i64 x.f0, .int .u8 x.f1, .string x.f2, .int .i64 x.f3.f0, .int .i64 x.f3.f1, .string x.f3.f2, .int .i64 x.f4, .int .i64 x.f5] 72)) hd); have BK5 := a_ (blk_below (blk_alloc BK.out (.cells #[.int .i64 x.f0, .int .u8 x.f1, .string x.f2, .int .i64 x.f3.f0, .int .i64 x.f3.f1, .string x.f3.f2, .int .i64 x.f4, .int .i64 x.f5] 72)) hd); have SK5 := a_ ((SetS.alloc SK.out (.cells #[.int .i64 x.f0, .int .u8 x.f1, .string x.f2, .int .i64 x.f3.f0, .int .i64 x.f3.f1, .string x.f3.f2, .int .i64 x.f4, .int .i64 x.f5] 72)).kept (grown_of_below hd none) (by simp)); clear hd; have hb2 := (blk_cell BK5.out 2).trans rfl; simp only [List.getElem?_toArray, List.getElem?_cons_zero, List.getElem?_cons_succ] at hb2; go_wp2; go_ret; exact ⟨by rw [← HR.out, show wrap64 ((ps.length : Int) + (m : Int)) = (ps.length : Int) + (m : Int) by unfold wrap64; have := C0.out.1; have := HM8.out; omega, show wrap64 ((ps.length : Int) + (m : Int) + 1) = (ps.length : Int) + (m : Int) + 1 by unfold wrap64; have := C0.out.1; have := HM8.out; omega]; rfl, HB5.out⟩
      ·have p1 : (x.f0 == 1) = false := by simpa using k1
       rw [if_neg (fun q => k1 q.1)] at e0; have HE2 := a_ e0; clear e0 k1 hkv; go_wp2; go_roundg fu
       case measure => omega
       case rel => exact ⟨fu, k + 1, Nat.le_refl _, by rw [HK60.out], HE2, ⟨below_alloc HB.out _⟩, ⟨blk_alloc BK.out _⟩, ⟨SetS.alloc SK.out _⟩⟩
    ·have qkv : decide (k ≤ v) = false := decide_eq_false hkv
     have e0 : sc_e es K fu k v = some (true, k) := by
      cases fu <;> (unfold sc_e; rw [if_neg hkv])
     rw [HE.out] at e0; have e1 := Option.some.inj e0; have h3 := HST2.out; rw [e1, if_pos rfl] at h3; have HST3 := a_ h3; clear e0 e1 h3 hkv; go_wp2; go_roundg (a7.f3.length - (q + 1))
     case measure => omega
     case rel => exact ⟨q + 1, k, by omega, by omega, by rw [show wrap64 ((q : Int) + 1) = ((q + 1 : Nat) : Int) by unfold wrap64; have := HQL.out; omega], rfl, HST3, HB, BK, SK⟩
   ·have hql : q = a7.f3.length := by omega
    have e0 := HD.out; rw [hql, List.drop_length] at e0; unfold sc_args at e0
    have e1 := Option.some.inj e0; have h3 := HST.out; rw [← e1, if_pos rfl] at h3; have HST3 := a_ h3; clear e0 e1 h3 hql; go_wp2; go_roundg (as_.length - (m + 1))
    case measure => omega
    case rel => exact ⟨m + 1, k, by omega, by omega, by rw [show wrap64 ((m : Int) + 1) = ((m + 1 : Nat) : Int) by unfold wrap64; have := HM8.out; omega], rfl, HST3, HB, BK, SK⟩
  ·have hml : m = as_.length := by omega
   have e0 := HA.out; rw [hml, List.drop_length] at e0; unfold sc_acts at e0
   have e1 := Option.some.inj e0; subst e1; clear e0 hml; go_wp2; go_ret; exact ⟨rfl, HB.out⟩
theorem impl_Rule_scopeFault.calls (a0_0 : ByteArray) (a0_1 : Int) (A0_2 : Option Addr) (c0_2 : Nat) (l0_2 : List S59) (A0_3 : Option Addr) (c0_3 : Nat) (l0_3 : List S72) (A0_4 : Option Addr) (c0_4 : Nat) (l0_4 : List S46) (r : Int) (w : World) (hr0_2 : Kd.C k59 w A0_2 l0_2.length l0_2) (hc0_2 : l0_2.length ≤ c0_2) (hr0_3 : Kd.C k72 w A0_3 l0_3.length l0_3) (hc0_3 : l0_3.length ≤ c0_3) (hr0_4 : Kd.C k46 w A0_4 l0_4.length l0_4) (hc0_4 : l0_4.length ≤ c0_4) (h : impl_Rule_scopeFault.f a0_0 a0_1 l0_2 l0_3 l0_4 = some r) :
  Calls Try.prog 18 #[.agg #[.string a0_0, .int .i64 a0_1, .slice A0_2 l0_2.length c0_2, .slice A0_3 l0_3.length c0_3, .slice A0_4 l0_4.length c0_4]] w fun e w' => e = .returned (.int .i64 r) ∧ Below w.heap.size w w' :=
 impl_Rule_scopeFault.walk a0_0 a0_1 A0_2 c0_2 l0_2 A0_3 c0_3 l0_3 A0_4 c0_4 l0_4 r w hr0_2 hr0_3 hr0_4 h
end Go.Proofs.Ytejjlkbbnhpbdaa.P
