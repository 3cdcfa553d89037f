/- The row of the law FnExactBefore: for every input the call returns true, and each argument reads behind it as it read before; no condition of ours. -/
import Derived.Laws.RangeString
import Derived.Lib.OthersKept
import Derived.Lib.DecodeN
import Derived.Lib.TrimU
import Derived.Shelf.Small.Bits
import Derived.Shelf.Small.Strs
import Derived.Shelf.Small.Wraps
import Derived.Shelf.Strconv.Itoa0
import Derived.Shelf.Strings.Search1
import Derived.Shelf.Sort.Plain
import Derived.Shelf.Slices.Reverse
import Derived.Ground.Names2Prog
import Derived.Shelf.Slices.Clone
import Derived.Shelf.Slices.SearchI
import Derived.Shelf.Slices.Cells
import Derived.Shelf.Slices.In.SortNone
import Derived.Test.YtejjlkbbnhpbdaaGreatProg
import Derived.IntWalk
import Derived.OneCell
import Derived.RangeFuncBox
import Derived.BigQuiet
import Derived.Deep.QuietTactic
import Derived.Test.YtejjlkbbnhpbdaaGreatQBe7
namespace Go.Proofs.YtejjlkbbnhpbdaaGreat.P
open Go.Proofs.YtejjlkbbnhpbdaaGreatX
open Go.RowKit Go.Proofs.YtejjlkbbnhpbdaaGreatW.PrintWords Go.Proofs.YtejjlkbbnhpbdaaGreatW.PrintLast Go.Proofs.YtejjlkbbnhpbdaaGreatW.PrintMore
attribute [local go_sem] max2_int min2_int max_two min_two max_three min_three max_four min_four
set_option linter.unusedVariables false
set_option linter.unusedSimpArgs false
def laws_toTerm.f (a0_0 : Int) (a0_1 : Int) (a0_2 : ByteArray) (a0_3 : Int) (a0_4 : Int) (a0_5 : ByteArray) : Option (Int × Int × ByteArray × Int × Int × ByteArray) := (laws_toValue.f a0_3 a0_4 a0_5).bind fun bt277 => (some (a0_0, a0_1, a0_2, bt277.1, bt277.2.1, bt277.2.2))
set_option maxHeartbeats 8000000 in
set_option maxRecDepth 100000 in
theorem laws_toTerm.calls (a0_0 : Int) (a0_1 : Int) (a0_2 : ByteArray) (a0_3 : Int) (a0_4 : Int) (a0_5 : ByteArray) (r1 : Int) (r2 : Int) (r3 : ByteArray) (r4 : Int) (r5 : Int) (r6 : ByteArray) (w : World) (h : laws_toTerm.f a0_0 a0_1 a0_2 a0_3 a0_4 a0_5 = some (r1, r2, r3, r4, r5, r6)) :
  Calls Tryz.prog 111 #[.agg #[.int .i64 a0_0, .int .i64 a0_1, .string a0_2, .int .i64 a0_3, .int .i64 a0_4, .string a0_5]] w fun e w' => e = .returned (.agg #[.int .i64 r1, .int .i64 r2, .string r3, .int .i64 r4, .int .i64 r5, .string r6]) ∧ Below w.heap.size w w' := by
 have hu160 := Tryz.underlying160; have hu134 := Tryz.underlying134; have hu114 := Tryz.underlying114; have hu104 := Tryz.underlying104; have HB := a_ (Below.refl w.heap.size w); have H : ((laws_toValue.f a0_3 a0_4 a0_5).bind fun bt277 => (some (a0_0, a0_1, a0_2, bt277.1, bt277.2.1, bt277.2.2))) = some (r1, r2, r3, r4, r5, r6) := h
 clear h; obtain ⟨⟨t277, t278, t279⟩, A2, H⟩ := ob_ H; simp only [Option.some.injEq, Prod.mk.injEq] at H; obtain ⟨rfl, rfl, rfl, rfl, rfl, rfl⟩ := H; go_enter Tryz.func111, Tryz.ntmps111; go_wp2_with (first | ((with_reducible refine gate_dst (N := 1) rfl ?_); refine bh_ 1 #[.int .i64 a0_0, .int .i64 a0_1, .string a0_2, .int .i64 a0_3, .int .i64 a0_4, .string a0_5] 160 HB ?_; intro gb274 hg w3 BK274 GE274 hb; replace HB := ms_ HB hb; clear hb hg) | ((with_reducible refine gate_dst (N := 2) rfl ?_); refine bh_ 2 #[.int .i64 0, .int .i64 0, .string (⟨#[]⟩ : ByteArray), .int .i64 0, .int .i64 0, .string (⟨#[]⟩ : ByteArray)] 134 HB ?_; intro gb275 hg w4 BK275 GE275 hb; obtain ⟨NB274_275, NB275_274⟩ := mn_ BK274 hg; replace BK274 := mk_ BK274 hb; replace HB := ms_ HB hb; clear hb hg) | ((with_reducible refine gate_dst (N := 3) rfl ?_); refine bh_ 3 #[.int .i64 0, .int .i64 0, .string (⟨#[]⟩ : ByteArray), .int .i64 0, .int .i64 0, .string (⟨#[]⟩ : ByteArray)] 134 HB ?_; intro gb276 hg w5 BK276 GE276 hb; obtain ⟨NB274_276, NB276_274⟩ := mn_ BK274 hg; obtain ⟨NB275_276, NB276_275⟩ := mn_ BK275 hg; replace BK274 := mk_ BK274 hb; replace BK275 := mk_ BK275 hb; replace HB := ms_ HB hb; clear hb hg; have hnb6 := NB274_275.out; have hnc6 := NB275_274.out; have hnb7 := NB274_276.out; have hnc7 := NB276_274.out; obtain ⟨z8_0, z8_1, z8_2, z8_3, z8_4, z8_5, zf8_0, zf8_1, zf8_2, zf8_3, zf8_4, zf8_5⟩ := cz6 BK274; have hnb9 := NB276_275.out; have hnc9 := NB275_276.out; obtain ⟨z10_0, z10_1, z10_2, z10_3, z10_4, z10_5, zf10_0, zf10_1, zf10_2, zf10_3, zf10_4, zf10_5⟩ := cz6 BK276) | ((with_reducible refine gate_callee (f := 94) rfl ?_); refine goesL_ (some 15) rfl rfl Tryz.func94 (by kernel_rfl) rfl #[.agg #[.int .i64 a0_3, .int .i64 a0_4, .string a0_5]] rfl mw_ ?_; (with_reducible refine (laws_toValue.calls a0_3 a0_4 a0_5 t277 t278 t279 _ A2.out).mono ?_); rintro e w11 ⟨rfl, hb⟩; refine ⟨_, rfl, ?_⟩; replace BK274 := mk_ BK274 hb; replace BK275 := mk_ BK275 hb; replace BK276 := a_ (blk_below (g := gb276) (o := .cells #[.int .i64 a0_0, .int .i64 a0_1, .string a0_2, .int .i64 0, .int .i64 0, .string (⟨#[]⟩ : ByteArray)] 134 (0, 0)) (mp_ BK276) hb); replace HB := ms_ HB hb; (try clear hb); obtain ⟨z12_0, z12_1, z12_2, z12_3, z12_4, z12_5, zf12_0, zf12_1, zf12_2, zf12_3, zf12_4, zf12_5⟩ := cz6 BK276; obtain ⟨z13_0, z13_1, z13_2, z13_3, z13_4, z13_5, zf13_0, zf13_1, zf13_2, zf13_3, zf13_4, zf13_5⟩ := cz6 BK275)); refine bodyPost_ret (results_cell_row rfl _ _ gb275 134 #[.int .i64 a0_0, .int .i64 a0_1, .string a0_2, .int .i64 t277, .int .i64 t278, .string t279] (0, 0) _ rfl (mp_ BK275) Tryz.underlying134 rfl (by kernel_rfl)) rfl ?_; exact ⟨me_, mb_ HB⟩
def laws_toTermS.l0 : Nat → List (S160) → List (S134) → Int → Option ((List (S134)))
 | 0, _, _, _ => none
 | k + 1, x0, x3, x4 => if x4 < (x0.length : Int) then (if 0 ≤ x4 then ((laws_toTerm.f ((rd_T160 x0 x4).f0) ((rd_T160 x0 x4).f1) ((rd_T160 x0 x4).f2) ((rd_T160 x0 x4).f3.f0) ((rd_T160 x0 x4).f3.f1) ((rd_T160 x0 x4).f3.f2)).bind fun bt284 => (if x4 < (x3.length : Int) then (laws_toTermS.l0 k x0 (x3.set (x4 : Int).toNat (⟨bt284.1, bt284.2.1, bt284.2.2.1, (⟨bt284.2.2.2.1, bt284.2.2.2.2.1, bt284.2.2.2.2.2⟩ : S104)⟩ : S134)) (wrap64 (x4 + 1))) else (none))) else (none)) else (some x3)
def laws_toTermS.f (k : Nat) (l0 : List (S160)) : Option ((List (S134))) := if 0 ≤ (l0.length : Int) then (if ((l0.length : Int) : Int).toNat ≤ 4398046511104 then (laws_toTermS.l0 k l0 (List.replicate ((l0.length : Int) : Int).toNat z134) 0) else (none)) else (none)
theorem laws_toTermS.mono_l : ∀ k, (∀ y0 y1 y2, LeO (laws_toTermS.l0 k y0 y1 y2) (laws_toTermS.l0 (k + 1) y0 y1 y2))
 | 0 => fun _ _ _ r h => by simp [laws_toTermS.l0] at h
 | k + 1 => by
  have ih0 := laws_toTermS.mono_l k
  ·intro y0 y1 y2; unfold laws_toTermS.l0
   repeat' with_reducible first | apply ih0 | apply LeO.refl | apply LeO.none | refine LeO.ite ?_ ?_ | refine LeO.bind ?_ (fun _ => ?_)
theorem laws_toTermS.mono : ∀ a0 k, LeO (laws_toTermS.f k a0) (laws_toTermS.f (k + 1) a0) := by
 intro a0 k; have ih0 := laws_toTermS.mono_l k; unfold laws_toTermS.f
 repeat' with_reducible first | apply ih0 | apply LeO.refl | apply LeO.none | refine LeO.ite ?_ ?_ | refine LeO.bind ?_ (fun _ => ?_)
set_option maxHeartbeats 8000000 in
set_option maxRecDepth 100000 in
theorem laws_toTermS.calls (k : Nat) (A0 : Option Addr) (c0 : Nat) (l0 : List (S160)) (r : List (S134)) (w : World) (hr0 : Kd.C k160 w A0 l0.length l0) (hc0 : l0.length ≤ c0) (h : laws_toTermS.f k l0 = some r) :
  Calls Tryz.prog 93 #[.slice A0 l0.length c0] w fun e w' => ∃ v0_ : Value, e = .returned (v0_) ∧ Kd.R k134 134 w' w.heap.size (fun _ => True) v0_ r ∧ Below w.heap.size w w' := by
 have hu160 := Tryz.underlying160; have hu134 := Tryz.underlying134; have HR0 := a_ hr0; have HC0 := a_ hc0; clear hr0 hc0; have HB := a_ (Below.refl w.heap.size w); have H : (if 0 ≤ (l0.length : Int) then (if ((l0.length : Int) : Int).toNat ≤ 4398046511104 then (laws_toTermS.l0 k l0 (List.replicate ((l0.length : Int) : Int).toNat z134) 0) else (none)) else (none)) = some r := h
 clear h; by_cases c2 : 0 ≤ (l0.length : Int)
 case neg => rw [if_neg c2] at H; cases H
 rw [if_pos c2] at H; have c2b0 := eq_true c2; have c2b1 := ct_ c2; clear c2; by_cases c3 : ((l0.length : Int) : Int).toNat ≤ 4398046511104
 case neg => rw [if_neg c3] at H; cases H
 rw [if_pos c3] at H; have c3b0 := eq_true c3; have c3b1 := ct_ c3; clear c3; obtain ⟨y280, hy280⟩ : ∃ y_ : List (S134), y_ = (List.replicate ((l0.length : Int) : Int).toNat z134) := ⟨_, rfl⟩; rw [← hy280] at H; (try rw [Option.bind_some] at H); have Ny280 := a_ hy280; clear hy280; have H' := a_ H; clear H; go_enter Tryz.func93, Tryz.ntmps93; go_wp2_with (first | ((with_reducible refine gate_dst (N := 7) rfl ?_); refine Kd.R_make k134 _ 134 rfl (N := 7) rfl 99 _ _ rfl (l0.length : Int) rfl rfl Tryz.underlying99 (.agg #[(.int .i64 0), (.int .i64 0), (.string ⟨#[]⟩), (.int .i64 0), (.int .i64 0), (.string ⟨#[]⟩)]) 64 info134 rfl (by decide) (by omega) z134 (ok := fun _ => True) (okp := fun _ => True) (k134_mkM _ _ _ z134 ) (fun _ hk => hk) trivial (md_) (Nat.le_trans (Nat.mul_le_mul_right _ (md_ : (l0.length : Int).toNat ≤ 4398046511104)) (by omega)) (Below.refl _ _) (Nat.le_refl _) ?_; intro v281 w4 ho5 hb hg_ hnew_; clear hg_ hnew_; (first | rw [← Ny280.out] at ho5 | (simp only [Int.reduceToNat] at ho5; rw [← Ny280.out] at ho5)); have HO282 := a_ (Kd.R_lower ho5 (below_size (mb_ HB))); replace HB := ms_ HB hb; clear hb ho5)); go_loopg [4] k (fun kq v4 w' => ∃ (x3_1 : List (S134)) (x4_1 : Int), v4 = .int .i64 x4_1 ∧ Aside0 (laws_toTermS.l0 kq l0 x3_1 x4_1 = some r) ∧ Aside0 (kq ≤ k) ∧ Aside0 (Kd.R k134 134 w' w.heap.size (fun _ => True) v281 x3_1) ∧ Aside0 (Below w.heap.size w w'))
 case atStart => exact ⟨(y280), (0), mq_, H', ⟨Nat.le_refl _⟩, ⟨mo_ HO282.out⟩, ⟨mb_ HB⟩⟩
 clear H'; (try clear c2b0); (try clear c2b1); (try clear c3b0); (try clear c3b1); obtain ⟨x3_1, x4_1, rfl, HA, HK1, HO_3, HB⟩ := hrel; obtain _ | k1 := gk
 ·exact absurd HA.out (by simp [laws_toTermS.l0])
 have H := HA.out; clear HA; simp only [laws_toTermS.l0] at H; by_cases c6 : x4_1 < (l0.length : Int)
 ·rw [if_pos c6] at H; have c6b0 := ct_ c6; clear c6; by_cases c7 : 0 ≤ x4_1
  case neg => rw [if_neg c7] at H; cases H
  rw [if_pos c7] at H; have c7b0 := ct_ c7; clear c7; obtain ⟨⟨t284, t285, t286, t287, t288, t289⟩, A8, H⟩ := ob_ H; by_cases c9 : x4_1 < (x3_1.length : Int)
  case neg => rw [if_neg c9] at H; cases H
  rw [if_pos c9] at H; have c9b0 := ct_ c9; clear c9; obtain ⟨y290, hy290⟩ : ∃ y_ : List (S134), y_ = (x3_1.set (x4_1 : Int).toNat (⟨t284, t285, t286, (⟨t287, t288, t289⟩ : S104)⟩ : S134)) := ⟨_, rfl⟩; rw [← hy290] at H; (try rw [Option.bind_some] at H); have Ny290 := a_ hy290; clear hy290; have H' := a_ H; clear H; have p283 : 0 ≤ (x4_1 : Int) := md_
  have q283 : x4_1 < (l0.length : Int) := md_
  obtain ⟨ad283, e283, hx283_0, hx283_1, hx283_2, hx283_3, hx283_4, hx283_5⟩ := at_T160 HR0.out x4_1 p283 q283; cases e283; replace hx283_0 := mx_ HB hx283_0; replace hx283_1 := mx_ HB hx283_1; replace hx283_2 := mx_ HB hx283_2; replace hx283_3 := mx_ HB hx283_3; replace hx283_4 := mx_ HB hx283_4; replace hx283_5 := mx_ HB hx283_5; replace p283 := eq_true p283; replace q283 := eq_true q283; go_wp2_with (first | ((with_reducible refine gate_callee (f := 111) rfl ?_); refine goesL_ (some 20) rfl rfl Tryz.func111 (by kernel_rfl) rfl #[.agg #[.int .i64 ((rd_T160 l0 x4_1).f0), .int .i64 ((rd_T160 l0 x4_1).f1), .string ((rd_T160 l0 x4_1).f2), .int .i64 ((rd_T160 l0 x4_1).f3.f0), .int .i64 ((rd_T160 l0 x4_1).f3.f1), .string ((rd_T160 l0 x4_1).f3.f2)]] rfl mw_ ?_; (with_reducible refine (laws_toTerm.calls ((rd_T160 l0 x4_1).f0) ((rd_T160 l0 x4_1).f1) ((rd_T160 l0 x4_1).f2) ((rd_T160 l0 x4_1).f3.f0) ((rd_T160 l0 x4_1).f3.f1) ((rd_T160 l0 x4_1).f3.f2) t284 t285 t286 t287 t288 t289 _ A8.out).mono ?_); rintro e w11 ⟨rfl, hb⟩; refine ⟨_, rfl, ?_⟩; replace HO_3 := ro_ HO_3 hb; replace HB := ms_ HB hb; (try clear hb); have p10 : 0 ≤ (x4_1 : Int) := md_; have q10 : (x4_1 : Int) < ((x3_1.length : Int) : Int) := md_; obtain ⟨go10, co10, eo10, gb10, gl10, cl10, HG10⟩ := Kd.R_form HO_3.out (by omega); (first | cases eo10 | (injection eo10 with ea_ en_ ec_; (first | subst ea_ | (injection ea_ with ea_; subst ea_)); subst ec_; clear en_)); have GB10 := a_ gb10; have GG10 := a_ HG10; clear gb10 gl10 HG10; obtain ⟨ce10, hcl10, hM10, hcc10, hfr10⟩ := Kd.R_elem HO_3.out z134 (x4_1 : Int) p10 q10; obtain rfl := k134_openM hM10; have hx10_0 : w11.cell? ⟨go10, (x4_1 : Int).toNat * 6, none⟩ = some (.int .i64 ((rd_T134 x3_1 x4_1).f0)) := hcc10 0 _ rfl; have hx10_1 : w11.cell? ⟨go10, (x4_1 : Int).toNat * 6 + 1, none⟩ = some (.int .i64 ((rd_T134 x3_1 x4_1).f1)) := hcc10 1 _ rfl; have hx10_2 : w11.cell? ⟨go10, (x4_1 : Int).toNat * 6 + 2, none⟩ = some (.string ((rd_T134 x3_1 x4_1).f2)) := hcc10 2 _ rfl; have hx10_3 : w11.cell? ⟨go10, (x4_1 : Int).toNat * 6 + 3, none⟩ = some (.int .i64 ((rd_T134 x3_1 x4_1).f3.f0)) := hcc10 3 _ rfl; have hx10_4 : w11.cell? ⟨go10, (x4_1 : Int).toNat * 6 + 4, none⟩ = some (.int .i64 ((rd_T134 x3_1 x4_1).f3.f1)) := hcc10 4 _ rfl; have hx10_5 : w11.cell? ⟨go10, (x4_1 : Int).toNat * 6 + 5, none⟩ = some (.string ((rd_T134 x3_1 x4_1).f3.f2)) := hcc10 5 _ rfl; have hf10_0 : w11.frozen? ⟨go10, (x4_1 : Int).toNat * 6, none⟩ = false := hfr10 0; have hf10_1 : w11.frozen? ⟨go10, (x4_1 : Int).toNat * 6 + 1, none⟩ = false := hfr10 1; have hf10_2 : w11.frozen? ⟨go10, (x4_1 : Int).toNat * 6 + 2, none⟩ = false := hfr10 2; have hf10_3 : w11.frozen? ⟨go10, (x4_1 : Int).toNat * 6 + 3, none⟩ = false := hfr10 3; have hf10_4 : w11.frozen? ⟨go10, (x4_1 : Int).toNat * 6 + 4, none⟩ = false := hfr10 4; have hf10_5 : w11.frozen? ⟨go10, (x4_1 : Int).toNat * 6 + 5, none⟩ = false := hfr10 5; clear hcl10 hcc10 hfr10; (try clear hM10); replace p10 := eq_true p10; replace q10 := eq_true q10; have HX12 := a_ (show Kd.R k134 134 w11 w.heap.size (fun _ => True) (.slice (some ⟨go10, 0, none⟩) x3_1.length co10) x3_1 from (mo_ HO_3.out)); obtain ⟨ce12, hcl12, hM12, hcc12, hfr12⟩ := Kd.R_elem HX12.out z134 (x4_1 : Int) (md_) (by have h_ : (x4_1 : Int) < ((x3_1.length : Int) : Int) := md_; first | exact h_ | (have e_ := (Kd.R_reads' HO_3.out).1; omega) | simpa using h_); obtain rfl := k134_openM hM12; have HP12 := Kd.R_seg HX12.out (x4_1 : Int) (md_) (by have h_ : (x4_1 : Int) < ((x3_1.length : Int) : Int) := md_; first | exact h_ | (have e_ := (Kd.R_reads' HO_3.out).1; omega) | simpa using h_) (seg := [.int .i64 t284, .int .i64 t285, .string t286, .int .i64 t287, .int .i64 t288, .string t289]) (j := 0) hcl12 hcc12 (show 6 ≤ 6 from by decide) (x' := (⟨t284, t285, t286, (⟨t287, t288, t289⟩ : S104)⟩ : S134)) (k134_mkM _ _ _ (⟨t284, t285, t286, (⟨t287, t288, t289⟩ : S104)⟩ : S134) ) (fun _ hk => hk); have hx12_0 := hcc12 0 _ rfl; (try simp only [show (k134).sz = 6 from rfl, Nat.mul_one, Nat.add_zero] at hx12_0); have hf12_0 := hfr12 0; (try simp only [show (k134).sz = 6 from rfl, Nat.mul_one, Nat.add_zero] at hf12_0); have hx12_1 := hcc12 1 _ rfl; (try simp only [show (k134).sz = 6 from rfl, Nat.mul_one, Nat.add_zero] at hx12_1); have hf12_1 := hfr12 1; (try simp only [show (k134).sz = 6 from rfl, Nat.mul_one, Nat.add_zero] at hf12_1); have hx12_2 := hcc12 2 _ rfl; (try simp only [show (k134).sz = 6 from rfl, Nat.mul_one, Nat.add_zero] at hx12_2); have hf12_2 := hfr12 2; (try simp only [show (k134).sz = 6 from rfl, Nat.mul_one, Nat.add_zero] at hf12_2); have hx12_3 := hcc12 3 _ rfl; (try simp only [show (k134).sz = 6 from rfl, Nat.mul_one, Nat.add_zero] at hx12_3); have hf12_3 := hfr12 3; (try simp only [show (k134).sz = 6 from rfl, Nat.mul_one, Nat.add_zero] at hf12_3); have hx12_4 := hcc12 4 _ rfl; (try simp only [show (k134).sz = 6 from rfl, Nat.mul_one, Nat.add_zero] at hx12_4); have hf12_4 := hfr12 4; (try simp only [show (k134).sz = 6 from rfl, Nat.mul_one, Nat.add_zero] at hf12_4); have hx12_5 := hcc12 5 _ rfl; (try simp only [show (k134).sz = 6 from rfl, Nat.mul_one, Nat.add_zero] at hx12_5); have hf12_5 := hfr12 5; (try simp only [show (k134).sz = 6 from rfl, Nat.mul_one, Nat.add_zero] at hf12_5); clear hcl12 hcc12 hfr12; (try clear hM12)) | ((with_reducible refine gate_store (t := 134) (p := 21) rfl ?_); refine store_event (t := 134) (p := 21) (v := ?vo_w13) (w1 := ((((((w11.setCell ⟨go10, (x4_1 : Int).toNat * 6, none⟩ (.int .i64 t284)).setCell ⟨go10, (x4_1 : Int).toNat * 6 + 1, none⟩ (.int .i64 t285)).setCell ⟨go10, (x4_1 : Int).toNat * 6 + 2, none⟩ (.string t286)).setCell ⟨go10, (x4_1 : Int).toNat * 6 + 3, none⟩ (.int .i64 t287)).setCell ⟨go10, (x4_1 : Int).toNat * 6 + 4, none⟩ (.int .i64 t288)).setCell ⟨go10, (x4_1 : Int).toNat * 6 + 5, none⟩ (.string t289))) ?hg ?ho ?hn ?hr ?_; (case ho => rfl); (case hg => rfl); (case hn => rfl); (case hr => first | (go_simp; done) | (go_simp; rfl)); intro w13 hw; have hg : w11.grownBy w13 (some go10) := (by rw [hw]; exact HP12.2); have hp_ : Kd.R k134 134 w13 w.heap.size (fun _ => True) (.slice (some ⟨go10, 0, none⟩) x3_1.length co10) y290 := (by rw [hw, Ny290.out]; exact HP12.1); clear HP12; replace HO_3 := a_ (hp_); replace HB := a_ ((by rw [hw]; exact below_set (below_set (below_set (below_set (below_set (below_set (HB.out) GB10.out) GB10.out) GB10.out) GB10.out) GB10.out) GB10.out : Below w.heap.size w w13)); clear hg hw hp_))
  go_roundg k1
  case measure => have := HK1.out; omega
  case rel => exact ⟨(y290), (wrap64 (x4_1 + 1)), mq_, H', ⟨by have := HK1.out; omega⟩, ⟨mo_ HO_3.out⟩, ⟨mb_ HB⟩⟩
 ·rw [if_neg c6] at H; have c6b0 := cf_ c6; clear c6; obtain rfl := oi_ H; go_wp2; go_ret; exact ⟨_, me_, mo_ HO_3.out, mb_ HB⟩
def laws_toPattern.f (k : Nat) (a0_0 : Bool) (a0_1 : ByteArray) (l0_2 : List (S160)) : Option (Bool × ByteArray × (List (S134))) := (laws_toTermS.f k l0_2).bind fun t294 => (some (a0_0, a0_1, t294))
theorem laws_toPattern.mono : ∀ a0 a1 a2 k, LeO (laws_toPattern.f k a0 a1 a2) (laws_toPattern.f (k + 1) a0 a1 a2) := by
 intro a0 a1 a2 k; unfold laws_toPattern.f
 repeat' with_reducible first | apply laws_toTermS.mono | apply LeO.refl | apply LeO.none | refine LeO.ite ?_ ?_ | refine LeO.bind ?_ (fun _ => ?_)
set_option maxHeartbeats 8000000 in
set_option maxRecDepth 100000 in
theorem laws_toPattern.calls (k : Nat) (a0_0 : Bool) (a0_1 : ByteArray) (A0_2 : Option Addr) (c0_2 : Nat) (l0_2 : List (S160)) (r1 : Bool) (r2 : ByteArray) (r3 : List (S134)) (w : World) (hr0_2 : Kd.C k160 w A0_2 l0_2.length l0_2) (hc0_2 : l0_2.length ≤ c0_2) (h : laws_toPattern.f k a0_0 a0_1 l0_2 = some (r1, r2, r3)) :
  Calls Tryz.prog 72 #[.agg #[.bool a0_0, .string a0_1, .slice A0_2 l0_2.length c0_2]] w fun e w' => ∃ v2_ : Value, e = .returned (.agg #[.bool r1, .string r2, v2_]) ∧ Kd.R k134 134 w' w.heap.size (fun _ => True) v2_ r3 ∧ Below w.heap.size w w' := by
 have hu112 := Tryz.underlying112; have hu101 := Tryz.underlying101; have HR0_2 := a_ hr0_2; have HC0_2 := a_ hc0_2; clear hr0_2 hc0_2; have HB := a_ (Below.refl w.heap.size w); have H : ((laws_toTermS.f k l0_2).bind fun t294 => (some (a0_0, a0_1, t294))) = some (r1, r2, r3) := h
 clear h; obtain ⟨t294, A2, H⟩ := ob_ H; simp only [Option.some.injEq, Prod.mk.injEq] at H; obtain ⟨rfl, rfl, rfl⟩ := H; go_enter Tryz.func72, Tryz.ntmps72; go_wp2_with (first | ((with_reducible refine gate_dst (N := 1) rfl ?_); refine bh_ 1 #[.bool a0_0, .string a0_1, .slice A0_2 l0_2.length c0_2] 112 HB ?_; intro gb291 hg w3 BK291 GE291 hb; replace HB := ms_ HB hb; clear hb hg) | ((with_reducible refine gate_dst (N := 2) rfl ?_); refine bh_ 2 #[.bool false, .string (⟨#[]⟩ : ByteArray), .slice none 0 0] 101 HB ?_; intro gb292 hg w4 BK292 GE292 hb; obtain ⟨NB291_292, NB292_291⟩ := mn_ BK291 hg; replace BK291 := mk_ BK291 hb; replace HB := ms_ HB hb; clear hb hg) | ((with_reducible refine gate_dst (N := 3) rfl ?_); refine bh_ 3 #[.bool false, .string (⟨#[]⟩ : ByteArray), .slice none 0 0] 101 HB ?_; intro gb293 hg w5 BK293 GE293 hb; obtain ⟨NB291_293, NB293_291⟩ := mn_ BK291 hg; obtain ⟨NB292_293, NB293_292⟩ := mn_ BK292 hg; replace BK291 := mk_ BK291 hb; replace BK292 := mk_ BK292 hb; replace HB := ms_ HB hb; clear hb hg; have hnb6 := NB291_292.out; have hnc6 := NB292_291.out; have hnb7 := NB291_293.out; have hnc7 := NB293_291.out; obtain ⟨z8_0, z8_1, z8_2, zf8_0, zf8_1, zf8_2⟩ := cz3 BK291; have hnb9 := NB293_292.out; have hnc9 := NB292_293.out; obtain ⟨z10_0, z10_1, z10_2, zf10_0, zf10_1, zf10_2⟩ := cz3 BK293) | ((with_reducible refine gate_callee (f := 93) rfl ?_); refine goesL_ (some 12) rfl rfl Tryz.func93 (by kernel_rfl) rfl #[.slice A0_2 l0_2.length c0_2] rfl mw_ ?_; (with_reducible refine (laws_toTermS.calls k _ _ l0_2 t294 _ ?side1 HC0_2.out A2.out).mono ?_); (case side1 => exact Kd.C_below HR0_2.out (mb_ HB)); rintro e w11 ⟨v295, rfl, ho0, hb⟩; refine ⟨_, rfl, ?_⟩; have HO296 := a_ (Kd.R_lower ho0 (below_size (mb_ HB))); replace BK291 := mk_ BK291 hb; replace BK292 := mk_ BK292 hb; replace BK293 := a_ (blk_below (g := gb293) (o := .cells #[.bool a0_0, .string a0_1, .slice none 0 0] 101 (0, 0)) (mp_ BK293) hb); replace HB := ms_ HB hb; (try clear hb ho0); obtain ⟨Ao12, co12, eo12⟩ := Kd.R_slice HO296.out; subst eo12; obtain ⟨z13_0, z13_1, z13_2, zf13_0, zf13_1, zf13_2⟩ := cz3 BK293; obtain ⟨z14_0, z14_1, z14_2, zf14_0, zf14_1, zf14_2⟩ := cz3 BK292)); refine bodyPost_ret (results_cell_row rfl _ _ gb292 101 #[.bool a0_0, .string a0_1, .slice Ao12 t294.length co12] (0, 0) _ rfl (mp_ BK292) Tryz.underlying101 rfl (by kernel_rfl)) rfl ?_; exact ⟨_, me_, mo_ (Kd.R_mono (Kd.R_far (p := ⟨gb292, 2, none⟩) (Kd.R_far (p := ⟨gb292, 1, none⟩) (Kd.R_far (p := ⟨gb292, 0, none⟩) (Kd.R_far (p := ⟨gb293, 2, none⟩) (Kd.R_types (Kd.R_types HO296.out BK293.out (by decide)) BK292.out (by decide)) (fun _ hk => hk.1.2) (.slice Ao12 t294.length co12)) (fun _ hk => hk.2) (.bool a0_0)) (fun _ hk => hk.2) (.string a0_1)) (fun _ hk => hk.2) (.slice Ao12 t294.length co12)) (fun _ hk => trivial)), mb_ HB⟩
def laws_toPatternS.l0 : Nat → List (S112) → List (S101) → Int → Option ((List (S101)))
 | 0, _, _, _ => none
 | k + 1, x0, x3, x4 => if x4 < (x0.length : Int) then (if 0 ≤ x4 then ((laws_toPattern.f k ((rd_T112 x0 x4).f0) ((rd_T112 x0 x4).f1) ((rd_T112 x0 x4).f2)).bind fun bt301 => (if x4 < (x3.length : Int) then (laws_toPatternS.l0 k x0 (x3.set (x4 : Int).toNat (⟨bt301.1, bt301.2.1, bt301.2.2⟩ : S101)) (wrap64 (x4 + 1))) else (none))) else (none)) else (some x3)
def laws_toPatternS.f (k : Nat) (l0 : List (S112)) : Option ((List (S101))) := if 0 ≤ (l0.length : Int) then (if ((l0.length : Int) : Int).toNat ≤ 5864062014805 then (laws_toPatternS.l0 k l0 (List.replicate ((l0.length : Int) : Int).toNat z101) 0) else (none)) else (none)
theorem laws_toPatternS.mono_l : ∀ k, (∀ y0 y1 y2, LeO (laws_toPatternS.l0 k y0 y1 y2) (laws_toPatternS.l0 (k + 1) y0 y1 y2))
 | 0 => fun _ _ _ r h => by simp [laws_toPatternS.l0] at h
 | k + 1 => by
  have ih0 := laws_toPatternS.mono_l k
  ·intro y0 y1 y2; unfold laws_toPatternS.l0
   repeat' with_reducible first | apply ih0 | apply laws_toPattern.mono | apply LeO.refl | apply LeO.none | refine LeO.ite ?_ ?_ | refine LeO.bind ?_ (fun _ => ?_)
theorem laws_toPatternS.mono : ∀ a0 k, LeO (laws_toPatternS.f k a0) (laws_toPatternS.f (k + 1) a0) := by
 intro a0 k; have ih0 := laws_toPatternS.mono_l k; unfold laws_toPatternS.f
 repeat' with_reducible first | apply ih0 | apply laws_toPattern.mono | apply LeO.refl | apply LeO.none | refine LeO.ite ?_ ?_ | refine LeO.bind ?_ (fun _ => ?_)
set_option maxHeartbeats 8000000 in
set_option maxRecDepth 100000 in
theorem laws_toPatternS.calls (k : Nat) (A0 : Option Addr) (c0 : Nat) (l0 : List (S112)) (r : List (S101)) (w : World) (hr0 : Kd.C k112 w A0 l0.length l0) (hc0 : l0.length ≤ c0) (h : laws_toPatternS.f k l0 = some r) :
  Calls Tryz.prog 52 #[.slice A0 l0.length c0] w fun e w' => ∃ v0_ : Value, e = .returned (v0_) ∧ Kd.S k101 101 w' w.heap.size (fun _ => True) v0_ r ∧ Below w.heap.size w w' := by
 have hu112 := Tryz.underlying112; have hu101 := Tryz.underlying101; have HR0 := a_ hr0; have HC0 := a_ hc0; clear hr0 hc0; have HB := a_ (Below.refl w.heap.size w); have H : (if 0 ≤ (l0.length : Int) then (if ((l0.length : Int) : Int).toNat ≤ 5864062014805 then (laws_toPatternS.l0 k l0 (List.replicate ((l0.length : Int) : Int).toNat z101) 0) else (none)) else (none)) = some r := h
 clear h; by_cases c2 : 0 ≤ (l0.length : Int)
 case neg => rw [if_neg c2] at H; cases H
 rw [if_pos c2] at H; have c2b0 := eq_true c2; have c2b1 := ct_ c2; clear c2; by_cases c3 : ((l0.length : Int) : Int).toNat ≤ 5864062014805
 case neg => rw [if_neg c3] at H; cases H
 rw [if_pos c3] at H; have c3b0 := eq_true c3; have c3b1 := ct_ c3; clear c3; obtain ⟨y297, hy297⟩ : ∃ y_ : List (S101), y_ = (List.replicate ((l0.length : Int) : Int).toNat z101) := ⟨_, rfl⟩; rw [← hy297] at H; (try rw [Option.bind_some] at H); have Ny297 := a_ hy297; clear hy297; have H' := a_ H; clear H; go_enter Tryz.func52, Tryz.ntmps52; go_wp2_with (first | ((with_reducible refine gate_dst (N := 7) rfl ?_); refine Kd.S_make k101 _ 101 rfl (N := 7) rfl 54 _ _ rfl (l0.length : Int) rfl rfl Tryz.underlying54 (.agg #[(.bool false), (.string ⟨#[]⟩), (.slice none 0 0)]) 48 info101 rfl (by decide) (by omega) z101 (ok := fun _ => True) (okp := fun _ => True) (k101_mkM _ _ _ z101 (Kd.R_nil _ _ _ _ _)) (fun _ hk => hk) trivial (md_) (Nat.le_trans (Nat.mul_le_mul_right _ (md_ : (l0.length : Int).toNat ≤ 5864062014805)) (by omega)) (Below.refl _ _) (Nat.le_refl _) ?_; intro v298 w4 ho5 hb hg_ hnew_; clear hg_ hnew_; (first | rw [← Ny297.out] at ho5 | (simp only [Int.reduceToNat] at ho5; rw [← Ny297.out] at ho5)); have HO299 := a_ (Kd.S_lower ho5 (below_size (mb_ HB))); replace HB := ms_ HB hb; clear hb ho5)); go_loopg [4] k (fun kq v4 w' => ∃ (x3_1 : List (S101)) (x4_1 : Int), v4 = .int .i64 x4_1 ∧ Aside0 (laws_toPatternS.l0 kq l0 x3_1 x4_1 = some r) ∧ Aside0 (kq ≤ k) ∧ Aside0 (Kd.S k101 101 w' w.heap.size (fun _ => True) v298 x3_1) ∧ Aside0 (Below w.heap.size w w'))
 case atStart => exact ⟨(y297), (0), mq_, H', ⟨Nat.le_refl _⟩, ⟨by (with_reducible repeat (first | apply Kd.S_alloc | apply Kd.S_drewN | apply Kd.S_drew)); exact HO299.out⟩, ⟨mb_ HB⟩⟩
 clear H'; (try clear c2b0); (try clear c2b1); (try clear c3b0); (try clear c3b1); obtain ⟨x3_1, x4_1, rfl, HA, HK1, HO_3, HB⟩ := hrel; obtain _ | k1 := gk
 ·exact absurd HA.out (by simp [laws_toPatternS.l0])
 have H := HA.out; clear HA; simp only [laws_toPatternS.l0] at H; by_cases c6 : x4_1 < (l0.length : Int)
 ·rw [if_pos c6] at H; have c6b0 := ct_ c6; clear c6; by_cases c7 : 0 ≤ x4_1
  case neg => rw [if_neg c7] at H; cases H
  rw [if_pos c7] at H; have c7b0 := ct_ c7; clear c7; obtain ⟨⟨t301, t302, t303⟩, A8, H⟩ := ob_ H; by_cases c9 : x4_1 < (x3_1.length : Int)
  case neg => rw [if_neg c9] at H; cases H
  rw [if_pos c9] at H; have c9b0 := ct_ c9; clear c9; obtain ⟨y306, hy306⟩ : ∃ y_ : List (S101), y_ = (x3_1.set (x4_1 : Int).toNat (⟨t301, t302, t303⟩ : S101)) := ⟨_, rfl⟩; rw [← hy306] at H; (try rw [Option.bind_some] at H); have Ny306 := a_ hy306; clear hy306; have H' := a_ H; clear H; have p300 : 0 ≤ (x4_1 : Int) := md_
  have q300 : x4_1 < (l0.length : Int) := md_
  obtain ⟨ad300, A300_2, c300_2, e300, hx300_0, hx300_1, hx300_2, hl300_2, hi300_2⟩ := at_T112 HR0.out x4_1 p300 q300; cases e300; replace hx300_0 := mx_ HB hx300_0; replace hx300_1 := mx_ HB hx300_1; replace hx300_2 := mx_ HB hx300_2; have HR300_2 := a_ hi300_2; have HC300_2 := a_ hl300_2; clear hi300_2 hl300_2; replace p300 := eq_true p300; replace q300 := eq_true q300; go_wp2_with (first | ((with_reducible refine gate_callee (f := 72) rfl ?_); refine goesL_ (some 20) rfl rfl Tryz.func72 (by kernel_rfl) rfl #[.agg #[.bool ((rd_T112 l0 x4_1).f0), .string ((rd_T112 l0 x4_1).f1), .slice A300_2 ((rd_T112 l0 x4_1).f2).length c300_2]] rfl mw_ ?_; (with_reducible refine (laws_toPattern.calls k1 ((rd_T112 l0 x4_1).f0) ((rd_T112 l0 x4_1).f1) _ _ ((rd_T112 l0 x4_1).f2) t301 t302 t303 _ ?side1 HC300_2.out A8.out).mono ?_); (case side1 => exact mt_ HR300_2 HB); rintro e w11 ⟨v304, rfl, ho0, hb⟩; refine ⟨_, rfl, ?_⟩; have HO305 := a_ (Kd.R_lower ho0 (below_size (mb_ HB))); replace HO_3 := a_ (Kd.S_elder' (by (with_reducible repeat (first | apply Kd.S_alloc | apply Kd.S_drewN | apply Kd.S_drew)); exact HO_3.out) (Kd.R_base ho0) hb); replace HB := ms_ HB hb; (try clear hb ho0); have p10 : 0 ≤ (x4_1 : Int) := md_; have q10 : (x4_1 : Int) < ((x3_1.length : Int) : Int) := md_; obtain ⟨go10, co10, eo10, gb10, gl10, cl10, HG10⟩ := Kd.S_form HO_3.out (by omega); (first | cases eo10 | (injection eo10 with ea_ en_ ec_; (first | subst ea_ | (injection ea_ with ea_; subst ea_)); subst ec_; clear en_)); have GB10 := a_ gb10; have GG10 := a_ HG10; clear gb10 gl10 HG10; obtain ⟨_, ce10, hcl10, hM10, hcc10, hfr10, _, _⟩ := Kd.S_elem HO_3.out z101 (x4_1 : Int) p10 q10; obtain ⟨ve10_2, rfl, ge10_2⟩ := k101_openM hM10; have hx10_0 : w11.cell? ⟨go10, (x4_1 : Int).toNat * 3, none⟩ = some (.bool ((rd_T101 x3_1 x4_1).f0)) := hcc10 0 _ rfl; have hx10_1 : w11.cell? ⟨go10, (x4_1 : Int).toNat * 3 + 1, none⟩ = some (.string ((rd_T101 x3_1 x4_1).f1)) := hcc10 1 _ rfl; have hx10_2 : w11.cell? ⟨go10, (x4_1 : Int).toNat * 3 + 2, none⟩ = some (ve10_2) := hcc10 2 _ rfl; have hf10_0 : w11.frozen? ⟨go10, (x4_1 : Int).toNat * 3, none⟩ = false := hfr10 0; have hf10_1 : w11.frozen? ⟨go10, (x4_1 : Int).toNat * 3 + 1, none⟩ = false := hfr10 1; have hf10_2 : w11.frozen? ⟨go10, (x4_1 : Int).toNat * 3 + 2, none⟩ = false := hfr10 2; clear hcl10 hcc10 hfr10; (try clear hM10); replace p10 := eq_true p10; replace q10 := eq_true q10; have n_ := a_ (Kd.S_mono (ok' := (fun k_ => some k_ ≠ (v304 : Value).ownBlock)) HO_3.out (fun k_ hk => hk.2)); clear HO_3; have HO_3 := n_; clear n_; have HX12 := a_ (show Kd.S k101 101 w11 w.heap.size (fun k_ => ((fun _ => True)) k_ ∧ ¬ ((fun k_ => some k_ = (v304 : Value).ownBlock)) k_) (.slice (some ⟨go10, 0, none⟩) x3_1.length co10) x3_1 from (by (with_reducible repeat (first | apply Kd.S_alloc | apply Kd.S_drewN | apply Kd.S_drew)); exact Kd.S_mono HO_3.out (fun k_ hk => ⟨trivial, fun e_ => hk e_⟩))); obtain ⟨oki12, ce12, hcl12, hM12, hcc12, hfr12, hoki12, hH12⟩ := Kd.S_elem HX12.out z101 (x4_1 : Int) (md_) (by have h_ : (x4_1 : Int) < ((x3_1.length : Int) : Int) := md_; first | exact h_ | (have e_ := (Kd.S_reads' HO_3.out).1; omega) | simpa using h_); obtain ⟨ve12_2, rfl, ge12_2⟩ := k101_openM hM12; have HP12 := Kd.S_seg hH12 (md_) (by have h_ : (x4_1 : Int) < ((x3_1.length : Int) : Int) := md_; first | exact h_ | (have e_ := (Kd.S_reads' HO_3.out).1; omega) | simpa using h_) (seg := [.bool t301, .string t302, v304]) (j := 0) (show 3 ≤ 3 from by decide) (x' := (⟨t301, t302, t303⟩ : S101)) (k101_mkM _ _ _ (⟨t301, t302, t303⟩ : S101) (Kd.R_mono (Kd.R_tight rfl (Kd.R_mono (ok' := fun k_ => ((fun _ => True)) k_ ∧ k_ ≠ go10) (Kd.R_apart' (HO305.out) (Kd.S_typed HO_3.out) (by decide)) (fun k_ hk => ⟨trivial, fun e_ => (hk.2) (by rw [e_]; rfl)⟩))) (fun _ h_ => Or.inr (h_)))) (fun _ hk => hk) (fun k_ hk_ => ((Kd.R_mono (ok' := fun k_ => ((fun _ => True)) k_ ∧ k_ ≠ go10) (Kd.R_apart' (HO305.out) (Kd.S_typed HO_3.out) (by decide)) (fun k_ hk => ⟨trivial, fun e_ => (hk.2) (by rw [e_]; rfl)⟩))).1 k_ hk_.symm); have hx12_0 := hcc12 0 _ rfl; (try simp only [show (k101).sz = 3 from rfl, Nat.mul_one, Nat.add_zero] at hx12_0); have hf12_0 := hfr12 0; (try simp only [show (k101).sz = 3 from rfl, Nat.mul_one, Nat.add_zero] at hf12_0); have hx12_1 := hcc12 1 _ rfl; (try simp only [show (k101).sz = 3 from rfl, Nat.mul_one, Nat.add_zero] at hx12_1); have hf12_1 := hfr12 1; (try simp only [show (k101).sz = 3 from rfl, Nat.mul_one, Nat.add_zero] at hf12_1); have hx12_2 := hcc12 2 _ rfl; (try simp only [show (k101).sz = 3 from rfl, Nat.mul_one, Nat.add_zero] at hx12_2); have hf12_2 := hfr12 2; (try simp only [show (k101).sz = 3 from rfl, Nat.mul_one, Nat.add_zero] at hf12_2); clear hcl12 hcc12 hfr12 hoki12 hH12; (try clear hM12)) | ((with_reducible refine gate_store (t := 101) (p := 21) rfl ?_); refine store_event (t := 101) (p := 21) (v := ?vo_w13) (w1 := (((w11.setCell ⟨go10, (x4_1 : Int).toNat * 3, none⟩ (.bool t301)).setCell ⟨go10, (x4_1 : Int).toNat * 3 + 1, none⟩ (.string t302)).setCell ⟨go10, (x4_1 : Int).toNat * 3 + 2, none⟩ (v304))) ?hg ?ho ?hn ?hr ?_; (case ho => rfl); (case hg => rfl); (case hn => rfl); (case hr => first | (go_simp; done) | (go_simp; rfl) | ((obtain ⟨As0_, cs0_, es0_⟩ := (by first | exact Kd.R_slice (Kd.S_R (Aside0.out (by with_reducible assumption : Aside0 (Kd.S _ _ _ _ _ v304 _)))) | exact Kd.R_slice (Aside0.out (by with_reducible assumption : Aside0 (Kd.R _ _ _ _ _ v304 _))) | exact Kd.R_slice (Aside0.out ‹Aside0 (Kd.R _ _ _ _ _ v304 _)›) : ∃ A_ c_, v304 = Value.slice A_ _ c_)); subst es0_; go_simp; done) | ((obtain ⟨As0_, cs0_, es0_⟩ := (by first | exact Kd.R_slice (Kd.S_R (Aside0.out (by with_reducible assumption : Aside0 (Kd.S _ _ _ _ _ v304 _)))) | exact Kd.R_slice (Aside0.out (by with_reducible assumption : Aside0 (Kd.R _ _ _ _ _ v304 _))) | exact Kd.R_slice (Aside0.out ‹Aside0 (Kd.R _ _ _ _ _ v304 _)›) : ∃ A_ c_, v304 = Value.slice A_ _ c_)); subst es0_; go_simp; rfl)); intro w13 hw; have hg : w11.grownBy w13 (some go10) := (by rw [hw]; exact HP12.2); have hp_ : Kd.S k101 101 w13 w.heap.size (fun _ => True) (.slice (some ⟨go10, 0, none⟩) x3_1.length co10) y306 := (by rw [hw, Ny306.out]; exact HP12.1); clear HP12; replace HO_3 := a_ (hp_); replace HB := a_ ((by rw [hw]; exact below_set (below_set (below_set (HB.out) GB10.out) GB10.out) GB10.out : Below w.heap.size w w13)); clear HO305; clear hg hw hp_))
  go_roundg k1
  case measure => have := HK1.out; omega
  case rel => exact ⟨(y306), (wrap64 (x4_1 + 1)), mq_, H', ⟨by have := HK1.out; omega⟩, ⟨by (with_reducible repeat (first | apply Kd.S_alloc | apply Kd.S_drewN | apply Kd.S_drew)); exact HO_3.out⟩, ⟨mb_ HB⟩⟩
 ·rw [if_neg c6] at H; have c6b0 := cf_ c6; clear c6; obtain rfl := oi_ H; go_wp2; go_ret; exact ⟨_, me_, by (with_reducible repeat (first | apply Kd.S_alloc | apply Kd.S_drewN | apply Kd.S_drew)); exact HO_3.out, mb_ HB⟩
def laws_toExpr.f (a0_0 : Int) (a0_1 : Int) (a0_2 : ByteArray) (a0_3 : Int) (a0_4 : Int) (a0_5 : ByteArray) (a0_6 : Int) (a0_7 : Int) : Option (Int × Int × ByteArray × Int × Int × ByteArray × Int × Int) := (laws_toValue.f a0_3 a0_4 a0_5).bind fun bt310 => (some (a0_0, a0_1, a0_2, bt310.1, bt310.2.1, bt310.2.2, a0_6, a0_7))
set_option maxHeartbeats 8000000 in
set_option maxRecDepth 100000 in
theorem laws_toExpr.calls (a0_0 : Int) (a0_1 : Int) (a0_2 : ByteArray) (a0_3 : Int) (a0_4 : Int) (a0_5 : ByteArray) (a0_6 : Int) (a0_7 : Int) (r1 : Int) (r2 : Int) (r3 : ByteArray) (r4 : Int) (r5 : Int) (r6 : ByteArray) (r7 : Int) (r8 : Int) (w : World) (h : laws_toExpr.f a0_0 a0_1 a0_2 a0_3 a0_4 a0_5 a0_6 a0_7 = some (r1, r2, r3, r4, r5, r6, r7, r8)) :
  Calls Tryz.prog 73 #[.agg #[.int .i64 a0_0, .int .u8 a0_1, .string a0_2, .int .i64 a0_3, .int .i64 a0_4, .string a0_5, .int .i64 a0_6, .int .i64 a0_7]] w fun e w' => e = .returned (.agg #[.int .i64 r1, .int .u8 r2, .string r3, .int .i64 r4, .int .i64 r5, .string r6, .int .i64 r7, .int .i64 r8]) ∧ Below w.heap.size w w' := by
 have hu116 := Tryz.underlying116; have hu106 := Tryz.underlying106; have hu114 := Tryz.underlying114; have hu104 := Tryz.underlying104; have HB := a_ (Below.refl w.heap.size w); have H : ((laws_toValue.f a0_3 a0_4 a0_5).bind fun bt310 => (some (a0_0, a0_1, a0_2, bt310.1, bt310.2.1, bt310.2.2, a0_6, a0_7))) = some (r1, r2, r3, r4, r5, r6, r7, r8) := h
 clear h; obtain ⟨⟨t310, t311, t312⟩, A2, H⟩ := ob_ H; simp only [Option.some.injEq, Prod.mk.injEq] at H; obtain ⟨rfl, rfl, rfl, rfl, rfl, rfl, rfl, rfl⟩ := H; go_enter Tryz.func73, Tryz.ntmps73; go_wp2_with (first | ((with_reducible refine gate_dst (N := 1) rfl ?_); refine bh_ 1 #[.int .i64 a0_0, .int .u8 a0_1, .string a0_2, .int .i64 a0_3, .int .i64 a0_4, .string a0_5, .int .i64 a0_6, .int .i64 a0_7] 116 HB ?_; intro gb307 hg w3 BK307 GE307 hb; replace HB := ms_ HB hb; clear hb hg) | ((with_reducible refine gate_dst (N := 2) rfl ?_); refine bh_ 2 #[.int .i64 0, .int .u8 0, .string (⟨#[]⟩ : ByteArray), .int .i64 0, .int .i64 0, .string (⟨#[]⟩ : ByteArray), .int .i64 0, .int .i64 0] 106 HB ?_; intro gb308 hg w4 BK308 GE308 hb; obtain ⟨NB307_308, NB308_307⟩ := mn_ BK307 hg; replace BK307 := mk_ BK307 hb; replace HB := ms_ HB hb; clear hb hg) | ((with_reducible refine gate_dst (N := 3) rfl ?_); refine bh_ 3 #[.int .i64 0, .int .u8 0, .string (⟨#[]⟩ : ByteArray), .int .i64 0, .int .i64 0, .string (⟨#[]⟩ : ByteArray), .int .i64 0, .int .i64 0] 106 HB ?_; intro gb309 hg w5 BK309 GE309 hb; obtain ⟨NB307_309, NB309_307⟩ := mn_ BK307 hg; obtain ⟨NB308_309, NB309_308⟩ := mn_ BK308 hg; replace BK307 := mk_ BK307 hb; replace BK308 := mk_ BK308 hb; replace HB := ms_ HB hb; clear hb hg; have hnb6 := NB307_308.out; have hnc6 := NB308_307.out; have hnb7 := NB307_309.out; have hnc7 := NB309_307.out; obtain ⟨z8_0, z8_1, z8_2, z8_3, z8_4, z8_5, z8_6, z8_7, zf8_0, zf8_1, zf8_2, zf8_3, zf8_4, zf8_5, zf8_6, zf8_7⟩ := cz8 BK307; have hnb9 := NB309_308.out; have hnc9 := NB308_309.out; obtain ⟨z10_0, z10_1, z10_2, z10_3, z10_4, z10_5, z10_6, z10_7, zf10_0, zf10_1, zf10_2, zf10_3, zf10_4, zf10_5, zf10_6, zf10_7⟩ := cz8 BK309) | ((with_reducible refine gate_callee (f := 94) rfl ?_); refine goesL_ (some 15) rfl rfl Tryz.func94 (by kernel_rfl) rfl #[.agg #[.int .i64 a0_3, .int .i64 a0_4, .string a0_5]] rfl mw_ ?_; (with_reducible refine (laws_toValue.calls a0_3 a0_4 a0_5 t310 t311 t312 _ A2.out).mono ?_); rintro e w11 ⟨rfl, hb⟩; refine ⟨_, rfl, ?_⟩; replace BK307 := mk_ BK307 hb; replace BK308 := mk_ BK308 hb; replace BK309 := a_ (blk_below (g := gb309) (o := .cells #[.int .i64 a0_0, .int .u8 a0_1, .string a0_2, .int .i64 0, .int .i64 0, .string (⟨#[]⟩ : ByteArray), .int .i64 0, .int .i64 0] 106 (0, 0)) (mp_ BK309) hb); replace HB := ms_ HB hb; (try clear hb); obtain ⟨z12_0, z12_1, z12_2, z12_3, z12_4, z12_5, z12_6, z12_7, zf12_0, zf12_1, zf12_2, zf12_3, zf12_4, zf12_5, zf12_6, zf12_7⟩ := cz8 BK309; obtain ⟨z13_0, z13_1, z13_2, z13_3, z13_4, z13_5, z13_6, z13_7, zf13_0, zf13_1, zf13_2, zf13_3, zf13_4, zf13_5, zf13_6, zf13_7⟩ := cz8 BK307; obtain ⟨z14_0, z14_1, z14_2, z14_3, z14_4, z14_5, z14_6, z14_7, zf14_0, zf14_1, zf14_2, zf14_3, zf14_4, zf14_5, zf14_6, zf14_7⟩ := cz8 BK308)); refine bodyPost_ret (results_cell_row rfl _ _ gb308 106 #[.int .i64 a0_0, .int .u8 a0_1, .string a0_2, .int .i64 t310, .int .i64 t311, .string t312, .int .i64 a0_6, .int .i64 a0_7] (0, 0) _ rfl (mp_ BK308) Tryz.underlying106 rfl (by kernel_rfl)) rfl ?_
 exact ⟨me_, mb_ HB⟩
def laws_toExprS.l0 : Nat → List (S116) → List (S106) → Int → Option ((List (S106)))
 | 0, _, _, _ => none
 | k + 1, x0, x3, x4 => if x4 < (x0.length : Int) then (if 0 ≤ x4 then ((laws_toExpr.f ((rd_T116 x0 x4).f0) ((rd_T116 x0 x4).f1) ((rd_T116 x0 x4).f2) ((rd_T116 x0 x4).f3.f0) ((rd_T116 x0 x4).f3.f1) ((rd_T116 x0 x4).f3.f2) ((rd_T116 x0 x4).f4) ((rd_T116 x0 x4).f5)).bind fun bt317 => (if x4 < (x3.length : Int) then (laws_toExprS.l0 k x0 (x3.set (x4 : Int).toNat (⟨bt317.1, bt317.2.1, bt317.2.2.1, (⟨bt317.2.2.2.1, bt317.2.2.2.2.1, bt317.2.2.2.2.2.1⟩ : S104), bt317.2.2.2.2.2.2.1, bt317.2.2.2.2.2.2.2⟩ : S106)) (wrap64 (x4 + 1))) else (none))) else (none)) else (some x3)
def laws_toExprS.f (k : Nat) (l0 : List (S116)) : Option ((List (S106))) := if 0 ≤ (l0.length : Int) then (if ((l0.length : Int) : Int).toNat ≤ 3518437208883 then (laws_toExprS.l0 k l0 (List.replicate ((l0.length : Int) : Int).toNat z106) 0) else (none)) else (none)
theorem laws_toExprS.mono_l : ∀ k, (∀ y0 y1 y2, LeO (laws_toExprS.l0 k y0 y1 y2) (laws_toExprS.l0 (k + 1) y0 y1 y2))
 | 0 => fun _ _ _ r h => by simp [laws_toExprS.l0] at h
 | k + 1 => by
  have ih0 := laws_toExprS.mono_l k
  ·intro y0 y1 y2; unfold laws_toExprS.l0
   repeat' with_reducible first | apply ih0 | apply LeO.refl | apply LeO.none | refine LeO.ite ?_ ?_ | refine LeO.bind ?_ (fun _ => ?_)
theorem laws_toExprS.mono : ∀ a0 k, LeO (laws_toExprS.f k a0) (laws_toExprS.f (k + 1) a0) := by
 intro a0 k; have ih0 := laws_toExprS.mono_l k; unfold laws_toExprS.f
 repeat' with_reducible first | apply ih0 | apply LeO.refl | apply LeO.none | refine LeO.ite ?_ ?_ | refine LeO.bind ?_ (fun _ => ?_)
set_option maxHeartbeats 8000000 in
set_option maxRecDepth 100000 in
theorem laws_toExprS.calls (k : Nat) (A0 : Option Addr) (c0 : Nat) (l0 : List (S116)) (r : List (S106)) (w : World) (hr0 : Kd.C k116 w A0 l0.length l0) (hc0 : l0.length ≤ c0) (h : laws_toExprS.f k l0 = some r) :
  Calls Tryz.prog 53 #[.slice A0 l0.length c0] w fun e w' => ∃ v0_ : Value, e = .returned (v0_) ∧ Kd.R k106 106 w' w.heap.size (fun _ => True) v0_ r ∧ Below w.heap.size w w' := by
 have hu116 := Tryz.underlying116; have hu106 := Tryz.underlying106; have HR0 := a_ hr0; have HC0 := a_ hc0; clear hr0 hc0; have HB := a_ (Below.refl w.heap.size w); have H : (if 0 ≤ (l0.length : Int) then (if ((l0.length : Int) : Int).toNat ≤ 3518437208883 then (laws_toExprS.l0 k l0 (List.replicate ((l0.length : Int) : Int).toNat z106) 0) else (none)) else (none)) = some r := h
 clear h; by_cases c2 : 0 ≤ (l0.length : Int)
 case neg => rw [if_neg c2] at H; cases H
 rw [if_pos c2] at H; have c2b0 := eq_true c2; have c2b1 := ct_ c2; clear c2; by_cases c3 : ((l0.length : Int) : Int).toNat ≤ 3518437208883
 case neg => rw [if_neg c3] at H; cases H
 rw [if_pos c3] at H; have c3b0 := eq_true c3; have c3b1 := ct_ c3; clear c3; obtain ⟨y313, hy313⟩ : ∃ y_ : List (S106), y_ = (List.replicate ((l0.length : Int) : Int).toNat z106) := ⟨_, rfl⟩; rw [← hy313] at H; (try rw [Option.bind_some] at H); have Ny313 := a_ hy313; clear hy313; have H' := a_ H; clear H; go_enter Tryz.func53, Tryz.ntmps53; go_wp2_with (first | ((with_reducible refine gate_dst (N := 7) rfl ?_); refine Kd.R_make k106 _ 106 rfl (N := 7) rfl 55 _ _ rfl (l0.length : Int) rfl rfl Tryz.underlying55 (.agg #[(.int .i64 0), (.int .u8 0), (.string ⟨#[]⟩), (.int .i64 0), (.int .i64 0), (.string ⟨#[]⟩), (.int .i64 0), (.int .i64 0)]) 80 info106 rfl (by decide) (by omega) z106 (ok := fun _ => True) (okp := fun _ => True) (k106_mkM _ _ _ z106 ) (fun _ hk => hk) trivial (md_) (Nat.le_trans (Nat.mul_le_mul_right _ (md_ : (l0.length : Int).toNat ≤ 3518437208883)) (by omega)) (Below.refl _ _) (Nat.le_refl _) ?_; intro v314 w4 ho5 hb hg_ hnew_; clear hg_ hnew_; (first | rw [← Ny313.out] at ho5 | (simp only [Int.reduceToNat] at ho5; rw [← Ny313.out] at ho5)); have HO315 := a_ (Kd.R_lower ho5 (below_size (mb_ HB))); replace HB := ms_ HB hb; clear hb ho5)); go_loopg [4] k (fun kq v4 w' => ∃ (x3_1 : List (S106)) (x4_1 : Int), v4 = .int .i64 x4_1 ∧ Aside0 (laws_toExprS.l0 kq l0 x3_1 x4_1 = some r) ∧ Aside0 (kq ≤ k) ∧ Aside0 (Kd.R k106 106 w' w.heap.size (fun _ => True) v314 x3_1) ∧ Aside0 (Below w.heap.size w w'))
 case atStart => exact ⟨(y313), (0), mq_, H', ⟨Nat.le_refl _⟩, ⟨mo_ HO315.out⟩, ⟨mb_ HB⟩⟩
 clear H'; (try clear c2b0); (try clear c2b1); (try clear c3b0); (try clear c3b1); obtain ⟨x3_1, x4_1, rfl, HA, HK1, HO_3, HB⟩ := hrel; obtain _ | k1 := gk
 ·exact absurd HA.out (by simp [laws_toExprS.l0])
 have H := HA.out; clear HA; simp only [laws_toExprS.l0] at H; by_cases c6 : x4_1 < (l0.length : Int)
 ·rw [if_pos c6] at H; have c6b0 := ct_ c6; clear c6; by_cases c7 : 0 ≤ x4_1
  case neg => rw [if_neg c7] at H; cases H
  rw [if_pos c7] at H; have c7b0 := ct_ c7; clear c7; obtain ⟨⟨t317, t318, t319, t320, t321, t322, t323, t324⟩, A8, H⟩ := ob_ H; by_cases c9 : x4_1 < (x3_1.length : Int)
  case neg => rw [if_neg c9] at H; cases H
  rw [if_pos c9] at H; have c9b0 := ct_ c9; clear c9; obtain ⟨y325, hy325⟩ : ∃ y_ : List (S106), y_ = (x3_1.set (x4_1 : Int).toNat (⟨t317, t318, t319, (⟨t320, t321, t322⟩ : S104), t323, t324⟩ : S106)) := ⟨_, rfl⟩; rw [← hy325] at H; (try rw [Option.bind_some] at H); have Ny325 := a_ hy325; clear hy325; have H' := a_ H; clear H; have p316 : 0 ≤ (x4_1 : Int) := md_
  have q316 : x4_1 < (l0.length : Int) := md_
  obtain ⟨ad316, e316, hx316_0, hx316_1, hx316_2, hx316_3, hx316_4, hx316_5, hx316_6, hx316_7⟩ := at_T116 HR0.out x4_1 p316 q316; cases e316; replace hx316_0 := mx_ HB hx316_0; replace hx316_1 := mx_ HB hx316_1; replace hx316_2 := mx_ HB hx316_2; replace hx316_3 := mx_ HB hx316_3; replace hx316_4 := mx_ HB hx316_4; replace hx316_5 := mx_ HB hx316_5; replace hx316_6 := mx_ HB hx316_6; replace hx316_7 := mx_ HB hx316_7; replace p316 := eq_true p316; replace q316 := eq_true q316; go_wp2_with (first | ((with_reducible refine gate_callee (f := 73) rfl ?_); refine goesL_ (some 20) rfl rfl Tryz.func73 (by kernel_rfl) rfl #[.agg #[.int .i64 ((rd_T116 l0 x4_1).f0), .int .u8 ((rd_T116 l0 x4_1).f1), .string ((rd_T116 l0 x4_1).f2), .int .i64 ((rd_T116 l0 x4_1).f3.f0), .int .i64 ((rd_T116 l0 x4_1).f3.f1), .string ((rd_T116 l0 x4_1).f3.f2), .int .i64 ((rd_T116 l0 x4_1).f4), .int .i64 ((rd_T116 l0 x4_1).f5)]] rfl mw_ ?_; (with_reducible refine (laws_toExpr.calls ((rd_T116 l0 x4_1).f0) ((rd_T116 l0 x4_1).f1) ((rd_T116 l0 x4_1).f2) ((rd_T116 l0 x4_1).f3.f0) ((rd_T116 l0 x4_1).f3.f1) ((rd_T116 l0 x4_1).f3.f2) ((rd_T116 l0 x4_1).f4) ((rd_T116 l0 x4_1).f5) t317 t318 t319 t320 t321 t322 t323 t324 _ A8.out).mono ?_); rintro e w11 ⟨rfl, hb⟩; refine ⟨_, rfl, ?_⟩; replace HO_3 := ro_ HO_3 hb; replace HB := ms_ HB hb; (try clear hb); have p10 : 0 ≤ (x4_1 : Int) := md_; have q10 : (x4_1 : Int) < ((x3_1.length : Int) : Int) := md_; obtain ⟨go10, co10, eo10, gb10, gl10, cl10, HG10⟩ := Kd.R_form HO_3.out (by omega); (first | cases eo10 | (injection eo10 with ea_ en_ ec_; (first | subst ea_ | (injection ea_ with ea_; subst ea_)); subst ec_; clear en_)); have GB10 := a_ gb10; have GG10 := a_ HG10; clear gb10 gl10 HG10; obtain ⟨ce10, hcl10, hM10, hcc10, hfr10⟩ := Kd.R_elem HO_3.out z106 (x4_1 : Int) p10 q10; obtain rfl := k106_openM hM10; have hx10_0 : w11.cell? ⟨go10, (x4_1 : Int).toNat * 8, none⟩ = some (.int .i64 ((rd_T106 x3_1 x4_1).f0)) := hcc10 0 _ rfl; have hx10_1 : w11.cell? ⟨go10, (x4_1 : Int).toNat * 8 + 1, none⟩ = some (.int .u8 ((rd_T106 x3_1 x4_1).f1)) := hcc10 1 _ rfl; have hx10_2 : w11.cell? ⟨go10, (x4_1 : Int).toNat * 8 + 2, none⟩ = some (.string ((rd_T106 x3_1 x4_1).f2)) := hcc10 2 _ rfl; have hx10_3 : w11.cell? ⟨go10, (x4_1 : Int).toNat * 8 + 3, none⟩ = some (.int .i64 ((rd_T106 x3_1 x4_1).f3.f0)) := hcc10 3 _ rfl; have hx10_4 : w11.cell? ⟨go10, (x4_1 : Int).toNat * 8 + 4, none⟩ = some (.int .i64 ((rd_T106 x3_1 x4_1).f3.f1)) := hcc10 4 _ rfl; have hx10_5 : w11.cell? ⟨go10, (x4_1 : Int).toNat * 8 + 5, none⟩ = some (.string ((rd_T106 x3_1 x4_1).f3.f2)) := hcc10 5 _ rfl; have hx10_6 : w11.cell? ⟨go10, (x4_1 : Int).toNat * 8 + 6, none⟩ = some (.int .i64 ((rd_T106 x3_1 x4_1).f4)) := hcc10 6 _ rfl; have hx10_7 : w11.cell? ⟨go10, (x4_1 : Int).toNat * 8 + 7, none⟩ = some (.int .i64 ((rd_T106 x3_1 x4_1).f5)) := hcc10 7 _ rfl; have hf10_0 : w11.frozen? ⟨go10, (x4_1 : Int).toNat * 8, none⟩ = false := hfr10 0; have hf10_1 : w11.frozen? ⟨go10, (x4_1 : Int).toNat * 8 + 1, none⟩ = false := hfr10 1; have hf10_2 : w11.frozen? ⟨go10, (x4_1 : Int).toNat * 8 + 2, none⟩ = false := hfr10 2; have hf10_3 : w11.frozen? ⟨go10, (x4_1 : Int).toNat * 8 + 3, none⟩ = false := hfr10 3; have hf10_4 : w11.frozen? ⟨go10, (x4_1 : Int).toNat * 8 + 4, none⟩ = false := hfr10 4; have hf10_5 : w11.frozen? ⟨go10, (x4_1 : Int).toNat * 8 + 5, none⟩ = false := hfr10 5; have hf10_6 : w11.frozen? ⟨go10, (x4_1 : Int).toNat * 8 + 6, none⟩ = false := hfr10 6; have hf10_7 : w11.frozen? ⟨go10, (x4_1 : Int).toNat * 8 + 7, none⟩ = false := hfr10 7; clear hcl10 hcc10 hfr10; (try clear hM10); replace p10 := eq_true p10; replace q10 := eq_true q10; have HX12 := a_ (show Kd.R k106 106 w11 w.heap.size (fun _ => True) (.slice (some ⟨go10, 0, none⟩) x3_1.length co10) x3_1 from (mo_ HO_3.out)); obtain ⟨ce12, hcl12, hM12, hcc12, hfr12⟩ := Kd.R_elem HX12.out z106 (x4_1 : Int) (md_) (by have h_ : (x4_1 : Int) < ((x3_1.length : Int) : Int) := md_; first | exact h_ | (have e_ := (Kd.R_reads' HO_3.out).1; omega) | simpa using h_); obtain rfl := k106_openM hM12; have HP12 := Kd.R_seg HX12.out (x4_1 : Int) (md_) (by have h_ : (x4_1 : Int) < ((x3_1.length : Int) : Int) := md_; first | exact h_ | (have e_ := (Kd.R_reads' HO_3.out).1; omega) | simpa using h_) (seg := [.int .i64 t317, .int .u8 t318, .string t319, .int .i64 t320, .int .i64 t321, .string t322, .int .i64 t323, .int .i64 t324]) (j := 0) hcl12 hcc12 (show 8 ≤ 8 from by decide) (x' := (⟨t317, t318, t319, (⟨t320, t321, t322⟩ : S104), t323, t324⟩ : S106)) (k106_mkM _ _ _ (⟨t317, t318, t319, (⟨t320, t321, t322⟩ : S104), t323, t324⟩ : S106) ) (fun _ hk => hk); have hx12_0 := hcc12 0 _ rfl; (try simp only [show (k106).sz = 8 from rfl, Nat.mul_one, Nat.add_zero] at hx12_0); have hf12_0 := hfr12 0; (try simp only [show (k106).sz = 8 from rfl, Nat.mul_one, Nat.add_zero] at hf12_0); have hx12_1 := hcc12 1 _ rfl; (try simp only [show (k106).sz = 8 from rfl, Nat.mul_one, Nat.add_zero] at hx12_1); have hf12_1 := hfr12 1; (try simp only [show (k106).sz = 8 from rfl, Nat.mul_one, Nat.add_zero] at hf12_1); have hx12_2 := hcc12 2 _ rfl; (try simp only [show (k106).sz = 8 from rfl, Nat.mul_one, Nat.add_zero] at hx12_2); have hf12_2 := hfr12 2; (try simp only [show (k106).sz = 8 from rfl, Nat.mul_one, Nat.add_zero] at hf12_2); have hx12_3 := hcc12 3 _ rfl; (try simp only [show (k106).sz = 8 from rfl, Nat.mul_one, Nat.add_zero] at hx12_3); have hf12_3 := hfr12 3; (try simp only [show (k106).sz = 8 from rfl, Nat.mul_one, Nat.add_zero] at hf12_3); have hx12_4 := hcc12 4 _ rfl; (try simp only [show (k106).sz = 8 from rfl, Nat.mul_one, Nat.add_zero] at hx12_4); have hf12_4 := hfr12 4; (try simp only [show (k106).sz = 8 from rfl, Nat.mul_one, Nat.add_zero] at hf12_4); have hx12_5 := hcc12 5 _ rfl; (try simp only [show (k106).sz = 8 from rfl, Nat.mul_one, Nat.add_zero] at hx12_5); have hf12_5 := hfr12 5; (try simp only [show (k106).sz = 8 from rfl, Nat.mul_one, Nat.add_zero] at hf12_5); have hx12_6 := hcc12 6 _ rfl; (try simp only [show (k106).sz = 8 from rfl, Nat.mul_one, Nat.add_zero] at hx12_6); have hf12_6 := hfr12 6; (try simp only [show (k106).sz = 8 from rfl, Nat.mul_one, Nat.add_zero] at hf12_6); have hx12_7 := hcc12 7 _ rfl; (try simp only [show (k106).sz = 8 from rfl, Nat.mul_one, Nat.add_zero] at hx12_7); have hf12_7 := hfr12 7; (try simp only [show (k106).sz = 8 from rfl, Nat.mul_one, Nat.add_zero] at hf12_7); clear hcl12 hcc12 hfr12; (try clear hM12)) | ((with_reducible refine gate_store (t := 106) (p := 21) rfl ?_); refine store_event (t := 106) (p := 21) (v := ?vo_w13) (w1 := ((((((((w11.setCell ⟨go10, (x4_1 : Int).toNat * 8, none⟩ (.int .i64 t317)).setCell ⟨go10, (x4_1 : Int).toNat * 8 + 1, none⟩ (.int .u8 t318)).setCell ⟨go10, (x4_1 : Int).toNat * 8 + 2, none⟩ (.string t319)).setCell ⟨go10, (x4_1 : Int).toNat * 8 + 3, none⟩ (.int .i64 t320)).setCell ⟨go10, (x4_1 : Int).toNat * 8 + 4, none⟩ (.int .i64 t321)).setCell ⟨go10, (x4_1 : Int).toNat * 8 + 5, none⟩ (.string t322)).setCell ⟨go10, (x4_1 : Int).toNat * 8 + 6, none⟩ (.int .i64 t323)).setCell ⟨go10, (x4_1 : Int).toNat * 8 + 7, none⟩ (.int .i64 t324))) ?hg ?ho ?hn ?hr ?_; (case ho => rfl); (case hg => rfl); (case hn => rfl); (case hr => first | (go_simp; done) | (go_simp; rfl)); intro w13 hw; have hg : w11.grownBy w13 (some go10) := (by rw [hw]; exact HP12.2); have hp_ : Kd.R k106 106 w13 w.heap.size (fun _ => True) (.slice (some ⟨go10, 0, none⟩) x3_1.length co10) y325 := (by rw [hw, Ny325.out]; exact HP12.1); clear HP12; replace HO_3 := a_ (hp_); replace HB := a_ ((by rw [hw]; exact below_set (below_set (below_set (below_set (below_set (below_set (below_set (below_set (HB.out) GB10.out) GB10.out) GB10.out) GB10.out) GB10.out) GB10.out) GB10.out) GB10.out : Below w.heap.size w w13)); clear hg hw hp_))
  go_roundg k1
  case measure => have := HK1.out; omega
  case rel => exact ⟨(y325), (wrap64 (x4_1 + 1)), mq_, H', ⟨by have := HK1.out; omega⟩, ⟨mo_ HO_3.out⟩, ⟨mb_ HB⟩⟩
 ·rw [if_neg c6] at H; have c6b0 := cf_ c6; clear c6; obtain rfl := oi_ H; go_wp2; go_ret; exact ⟨_, me_, mo_ HO_3.out, mb_ HB⟩
def laws_toIntS.l0 : Nat → List Int → List Int → Int → Option (List Int)
 | 0, _, _, _ => none
 | k + 1, x0, x3, x4 => if x4 < (x0.length : Int) then (if 0 ≤ x4 then (if x4 < (x3.length : Int) then (laws_toIntS.l0 k x0 (x3.set (x4 : Int).toNat (rd x0 x4)) (wrap64 (x4 + 1))) else (none)) else (none)) else (some x3)
def laws_toIntS.f (k : Nat) (l0 : List Int) : Option (List Int) := if 0 ≤ (l0.length : Int) then (if ((l0.length : Int) : Int).toNat ≤ 35184372088832 then (laws_toIntS.l0 k l0 (List.replicate ((l0.length : Int) : Int).toNat 0) 0) else (none)) else (none)
theorem laws_toIntS.mono_l : ∀ k, (∀ y0 y1 y2, LeO (laws_toIntS.l0 k y0 y1 y2) (laws_toIntS.l0 (k + 1) y0 y1 y2))
 | 0 => fun _ _ _ r h => by simp [laws_toIntS.l0] at h
 | k + 1 => by
  have ih0 := laws_toIntS.mono_l k
  ·intro y0 y1 y2; unfold laws_toIntS.l0
   repeat' with_reducible first | apply ih0 | apply LeO.refl | apply LeO.none | refine LeO.ite ?_ ?_ | refine LeO.bind ?_ (fun _ => ?_)
theorem laws_toIntS.mono : ∀ a0 k, LeO (laws_toIntS.f k a0) (laws_toIntS.f (k + 1) a0) := by
 intro a0 k; have ih0 := laws_toIntS.mono_l k; unfold laws_toIntS.f
 repeat' with_reducible first | apply ih0 | apply LeO.refl | apply LeO.none | refine LeO.ite ?_ ?_ | refine LeO.bind ?_ (fun _ => ?_)
set_option maxHeartbeats 8000000 in
set_option maxRecDepth 100000 in
theorem laws_toIntS.calls (k : Nat) (A0 : Option Addr) (c0 : Nat) (l0 : List Int) (r : List Int) (w : World) (hr0 : Kd.C (Kd.int .i64) w A0 l0.length l0) (hc0 : l0.length ≤ c0) (h : laws_toIntS.f k l0 = some r) :
  Calls Tryz.prog 27 #[.slice A0 l0.length c0] w fun e w' => ∃ v0_ : Value, e = .returned (v0_) ∧ Kd.R (Kd.int .i64) 3 w' w.heap.size (fun _ => True) v0_ r ∧ Below w.heap.size w w' := by
 have HR0 := a_ hr0; have HC0 := a_ hc0; clear hr0 hc0; have HB := a_ (Below.refl w.heap.size w); have H : (if 0 ≤ (l0.length : Int) then (if ((l0.length : Int) : Int).toNat ≤ 35184372088832 then (laws_toIntS.l0 k l0 (List.replicate ((l0.length : Int) : Int).toNat 0) 0) else (none)) else (none)) = some r := h
 clear h; by_cases c2 : 0 ≤ (l0.length : Int)
 case neg => rw [if_neg c2] at H; cases H
 rw [if_pos c2] at H; have c2b0 := eq_true c2; have c2b1 := ct_ c2; clear c2; by_cases c3 : ((l0.length : Int) : Int).toNat ≤ 35184372088832
 case neg => rw [if_neg c3] at H; cases H
 rw [if_pos c3] at H; have c3b0 := eq_true c3; have c3b1 := ct_ c3; clear c3; obtain ⟨y326, hy326⟩ : ∃ y_ : List Int, y_ = (List.replicate ((l0.length : Int) : Int).toNat 0) := ⟨_, rfl⟩; rw [← hy326] at H; (try rw [Option.bind_some] at H); have Ny326 := a_ hy326; clear hy326; have H' := a_ H; clear H; go_enter Tryz.func27, Tryz.ntmps27; go_wp2_with (first | ((with_reducible refine gate_dst (N := 7) rfl ?_); refine Kd.R_make (Kd.int .i64) _ 3 rfl (N := 7) rfl 23 _ _ rfl (l0.length : Int) rfl rfl Tryz.underlying23 (.int .i64 0) 8 info3 rfl (by decide) (by omega) 0 (ok := fun _ => True) (okp := fun _ => True) rfl (fun _ hk => hk) trivial (md_) (Nat.le_trans (Nat.mul_le_mul_right _ (md_ : (l0.length : Int).toNat ≤ 35184372088832)) (by omega)) (Below.refl _ _) (Nat.le_refl _) ?_; intro v327 w4 ho5 hb hg_ hnew_; clear hg_ hnew_; (first | rw [← Ny326.out] at ho5 | (simp only [Int.reduceToNat] at ho5; rw [← Ny326.out] at ho5)); have HO328 := a_ (Kd.R_lower ho5 (below_size (mb_ HB))); replace HB := ms_ HB hb; clear hb ho5)); go_loopg [4] k (fun kq v4 w' => ∃ (x3_1 : List Int) (x4_1 : Int), v4 = .int .i64 x4_1 ∧ Aside0 (laws_toIntS.l0 kq l0 x3_1 x4_1 = some r) ∧ Aside0 (kq ≤ k) ∧ Aside0 (Kd.R (Kd.int .i64) 3 w' w.heap.size (fun _ => True) v327 x3_1) ∧ Aside0 (Below w.heap.size w w'))
 case atStart => exact ⟨(y326), (0), mq_, H', ⟨Nat.le_refl _⟩, ⟨mo_ HO328.out⟩, ⟨mb_ HB⟩⟩
 clear H'; (try clear c2b0); (try clear c2b1); (try clear c3b0); (try clear c3b1); obtain ⟨x3_1, x4_1, rfl, HA, HK1, HO_3, HB⟩ := hrel; obtain _ | k1 := gk
 ·exact absurd HA.out (by simp [laws_toIntS.l0])
 have H := HA.out; clear HA; simp only [laws_toIntS.l0] at H; by_cases c6 : x4_1 < (l0.length : Int)
 ·rw [if_pos c6] at H; have c6b0 := ct_ c6; clear c6; by_cases c7 : 0 ≤ x4_1
  case neg => rw [if_neg c7] at H; cases H
  rw [if_pos c7] at H; have c7b0 := ct_ c7; clear c7; by_cases c8 : x4_1 < (x3_1.length : Int)
  case neg => rw [if_neg c8] at H; cases H
  rw [if_pos c8] at H; have c8b0 := ct_ c8; clear c8; obtain ⟨y330, hy330⟩ : ∃ y_ : List Int, y_ = (x3_1.set (x4_1 : Int).toNat (rd l0 x4_1)) := ⟨_, rfl⟩; rw [← hy330] at H; (try rw [Option.bind_some] at H); have Ny330 := a_ hy330; clear hy330; have H' := a_ H; clear H; have p329 : 0 ≤ (x4_1 : Int) := md_
  have q329 : x4_1 < (l0.length : Int) := md_
  obtain ⟨ad329, e329, hx329_0⟩ := Kd.at_int HR0.out x4_1 p329 q329; cases e329; replace hx329_0 := mx_ HB hx329_0; replace p329 := eq_true p329; replace q329 := eq_true q329; have p9 : 0 ≤ (x4_1 : Int) := md_
  have q9 : (x4_1 : Int) < ((x3_1.length : Int) : Int) := md_
  obtain ⟨go9, co9, eo9, gb9, gl9, cl9, HG9⟩ := Kd.R_form HO_3.out (by omega); (first | cases eo9 | (injection eo9 with ea_ en_ ec_; (first | subst ea_ | (injection ea_ with ea_; subst ea_)); subst ec_; clear en_)); have GB9 := a_ gb9; have GG9 := a_ HG9; clear gb9 gl9 HG9; obtain ⟨hx9_0, hf9_0⟩ := Kd.R_celln 0 HO_3.out (x4_1 : Int) p9 q9; replace p9 := eq_true p9; replace q9 := eq_true q9; have HP10 := Kd.R_putg HO_3.out (x4_1 : Int) (rd l0 x4_1); go_wp2_with (first | ((with_reducible refine gate_store (t := 3) (p := 20) rfl ?_); refine store_event (t := 3) (p := 20) (v := ?vo_w11) (w1 := (wr.setCell ⟨go9, (x4_1 : Int).toNat, none⟩ (.int .i64 (rd l0 x4_1)))) ?hg ?ho ?hn ?hr ?_; (case ho => rfl); (case hg => rfl); (case hn => rfl); (case hr => first | (go_simp; done) | (go_simp; rfl)); intro w11 hw; have hg : wr.grownBy w11 (some go9) := (by rw [hw]; exact HP10.2); have hp_ : Kd.R (Kd.int .i64) 3 w11 w.heap.size (fun _ => True) (.slice (some ⟨go9, 0, none⟩) x3_1.length co9) y330 := (by rw [hw, Ny330.out]; exact HP10.1); clear HP10; replace HO_3 := a_ (hp_); replace HB := a_ ((by rw [hw]; exact below_set (HB.out) GB9.out : Below w.heap.size w w11)); clear hg hw hp_)); go_roundg k1
  case measure => have := HK1.out; omega
  case rel => exact ⟨(y330), (wrap64 (x4_1 + 1)), mq_, H', ⟨by have := HK1.out; omega⟩, ⟨mo_ HO_3.out⟩, ⟨mb_ HB⟩⟩
 ·rw [if_neg c6] at H; have c6b0 := cf_ c6; clear c6; obtain rfl := oi_ H; go_wp2; go_ret; exact ⟨_, me_, mo_ HO_3.out, mb_ HB⟩
def laws_toAction.f (k : Nat) (a0_0 : Int) (a0_1 : Int) (a0_2 : ByteArray) (l0_3 : List Int) : Option (Int × Int × ByteArray × List Int) := (laws_toIntS.f k l0_3).bind fun t334 => (some (a0_0, a0_1, a0_2, t334))
theorem laws_toAction.mono : ∀ a0 a1 a2 a3 k, LeO (laws_toAction.f k a0 a1 a2 a3) (laws_toAction.f (k + 1) a0 a1 a2 a3) := by
 intro a0 a1 a2 a3 k; unfold laws_toAction.f
 repeat' with_reducible first | apply laws_toIntS.mono | apply LeO.refl | apply LeO.none | refine LeO.ite ?_ ?_ | refine LeO.bind ?_ (fun _ => ?_)
set_option maxHeartbeats 8000000 in
set_option maxRecDepth 100000 in
theorem laws_toAction.calls (k : Nat) (a0_0 : Int) (a0_1 : Int) (a0_2 : ByteArray) (A0_3 : Option Addr) (c0_3 : Nat) (l0_3 : List Int) (r1 : Int) (r2 : Int) (r3 : ByteArray) (r4 : List Int) (w : World) (hr0_3 : Kd.C (Kd.int .i64) w A0_3 l0_3.length l0_3) (hc0_3 : l0_3.length ≤ c0_3) (h : laws_toAction.f k a0_0 a0_1 a0_2 l0_3 = some (r1, r2, r3, r4)) :
  Calls Tryz.prog 74 #[.agg #[.int .i64 a0_0, .int .i64 a0_1, .string a0_2, .slice A0_3 l0_3.length c0_3]] w fun e w' => ∃ v3_ : Value, e = .returned (.agg #[.int .i64 r1, .int .i64 r2, .string r3, v3_]) ∧ Kd.R (Kd.int .i64) 3 w' w.heap.size (fun _ => True) v3_ r4 ∧ Below w.heap.size w w' := by
 have hu118 := Tryz.underlying118; have hu108 := Tryz.underlying108; have HR0_3 := a_ hr0_3; have HC0_3 := a_ hc0_3; clear hr0_3 hc0_3; have HB := a_ (Below.refl w.heap.size w); have H : ((laws_toIntS.f k l0_3).bind fun t334 => (some (a0_0, a0_1, a0_2, t334))) = some (r1, r2, r3, r4) := h
 clear h; obtain ⟨t334, A2, H⟩ := ob_ H; simp only [Option.some.injEq, Prod.mk.injEq] at H; obtain ⟨rfl, rfl, rfl, rfl⟩ := H; go_enter Tryz.func74, Tryz.ntmps74; go_wp2_with (first | ((with_reducible refine gate_dst (N := 1) rfl ?_); refine bh_ 1 #[.int .i64 a0_0, .int .i64 a0_1, .string a0_2, .slice A0_3 l0_3.length c0_3] 118 HB ?_; intro gb331 hg w3 BK331 GE331 hb; replace HB := ms_ HB hb; clear hb hg) | ((with_reducible refine gate_dst (N := 2) rfl ?_); refine bh_ 2 #[.int .i64 0, .int .i64 0, .string (⟨#[]⟩ : ByteArray), .slice none 0 0] 108 HB ?_; intro gb332 hg w4 BK332 GE332 hb; obtain ⟨NB331_332, NB332_331⟩ := mn_ BK331 hg; replace BK331 := mk_ BK331 hb; replace HB := ms_ HB hb; clear hb hg) | ((with_reducible refine gate_dst (N := 3) rfl ?_); refine bh_ 3 #[.int .i64 0, .int .i64 0, .string (⟨#[]⟩ : ByteArray), .slice none 0 0] 108 HB ?_; intro gb333 hg w5 BK333 GE333 hb; obtain ⟨NB331_333, NB333_331⟩ := mn_ BK331 hg; obtain ⟨NB332_333, NB333_332⟩ := mn_ BK332 hg; replace BK331 := mk_ BK331 hb; replace BK332 := mk_ BK332 hb; replace HB := ms_ HB hb; clear hb hg; have hnb6 := NB331_332.out; have hnc6 := NB332_331.out; have hnb7 := NB331_333.out; have hnc7 := NB333_331.out; obtain ⟨z8_0, z8_1, z8_2, z8_3, zf8_0, zf8_1, zf8_2, zf8_3⟩ := cz4 BK331; have hnb9 := NB333_332.out; have hnc9 := NB332_333.out; obtain ⟨z10_0, z10_1, z10_2, z10_3, zf10_0, zf10_1, zf10_2, zf10_3⟩ := cz4 BK333) | ((with_reducible refine gate_callee (f := 27) rfl ?_); refine goesL_ (some 15) rfl rfl Tryz.func27 (by kernel_rfl) rfl #[.slice A0_3 l0_3.length c0_3] rfl mw_ ?_; (with_reducible refine (laws_toIntS.calls k _ _ l0_3 t334 _ ?side1 HC0_3.out A2.out).mono ?_); (case side1 => exact Kd.C_below HR0_3.out (mb_ HB)); rintro e w11 ⟨v335, rfl, ho0, hb⟩; refine ⟨_, rfl, ?_⟩; have HO336 := a_ (Kd.R_lower ho0 (below_size (mb_ HB))); replace BK331 := mk_ BK331 hb; replace BK332 := mk_ BK332 hb; replace BK333 := a_ (blk_below (g := gb333) (o := .cells #[.int .i64 a0_0, .int .i64 a0_1, .string a0_2, .slice none 0 0] 108 (0, 0)) (mp_ BK333) hb); replace HB := ms_ HB hb; (try clear hb ho0); obtain ⟨Ao12, co12, eo12⟩ := Kd.R_slice HO336.out; subst eo12; obtain ⟨z13_0, z13_1, z13_2, z13_3, zf13_0, zf13_1, zf13_2, zf13_3⟩ := cz4 BK333; obtain ⟨z14_0, z14_1, z14_2, z14_3, zf14_0, zf14_1, zf14_2, zf14_3⟩ := cz4 BK332)); refine bodyPost_ret (results_cell_row rfl _ _ gb332 108 #[.int .i64 a0_0, .int .i64 a0_1, .string a0_2, .slice Ao12 t334.length co12] (0, 0) _ rfl (mp_ BK332) Tryz.underlying108 rfl (by kernel_rfl)) rfl ?_; exact ⟨_, me_, mo_ (Kd.R_mono (Kd.R_far (p := ⟨gb332, 3, none⟩) (Kd.R_far (p := ⟨gb332, 2, none⟩) (Kd.R_far (p := ⟨gb332, 1, none⟩) (Kd.R_far (p := ⟨gb332, 0, none⟩) (Kd.R_far (p := ⟨gb333, 3, none⟩) (Kd.R_types (Kd.R_types HO336.out BK333.out (by decide)) BK332.out (by decide)) (fun _ hk => hk.1.2) (.slice Ao12 t334.length co12)) (fun _ hk => hk.2) (.int .i64 a0_0)) (fun _ hk => hk.2) (.int .i64 a0_1)) (fun _ hk => hk.2) (.string a0_2)) (fun _ hk => hk.2) (.slice Ao12 t334.length co12)) (fun _ hk => trivial)), mb_ HB⟩
end Go.Proofs.YtejjlkbbnhpbdaaGreat.P
namespace Go.Proofs.YtejjlkbbnhpbdaaGreat.P
open Go.Proofs.YtejjlkbbnhpbdaaGreatX
open Go.RowKit Go.Proofs.YtejjlkbbnhpbdaaGreatW.PrintWords Go.Proofs.YtejjlkbbnhpbdaaGreatW.PrintLast Go.Proofs.YtejjlkbbnhpbdaaGreatW.PrintMore
attribute [local go_sem] max2_int min2_int max_two min_two max_three min_three max_four min_four
set_option linter.unusedVariables false
set_option linter.unusedSimpArgs false
def laws_toActionS.l0 : Nat → List (S118) → List (S108) → Int → Option ((List (S108)))
 | 0, _, _, _ => none
 | k + 1, x0, x3, x4 => if x4 < (x0.length : Int) then (if 0 ≤ x4 then ((laws_toAction.f k ((rd_T118 x0 x4).f0) ((rd_T118 x0 x4).f1) ((rd_T118 x0 x4).f2) ((rd_T118 x0 x4).f3)).bind fun bt341 => (if x4 < (x3.length : Int) then (laws_toActionS.l0 k x0 (x3.set (x4 : Int).toNat (⟨bt341.1, bt341.2.1, bt341.2.2.1, bt341.2.2.2⟩ : S108)) (wrap64 (x4 + 1))) else (none))) else (none)) else (some x3)
def laws_toActionS.f (k : Nat) (l0 : List (S118)) : Option ((List (S108))) := if 0 ≤ (l0.length : Int) then (if ((l0.length : Int) : Int).toNat ≤ 5026338869833 then (laws_toActionS.l0 k l0 (List.replicate ((l0.length : Int) : Int).toNat z108) 0) else (none)) else (none)
theorem laws_toActionS.mono_l : ∀ k, (∀ y0 y1 y2, LeO (laws_toActionS.l0 k y0 y1 y2) (laws_toActionS.l0 (k + 1) y0 y1 y2))
 | 0 => fun _ _ _ r h => by simp [laws_toActionS.l0] at h
 | k + 1 => by
  have ih0 := laws_toActionS.mono_l k
  ·intro y0 y1 y2; unfold laws_toActionS.l0
   repeat' with_reducible first | apply ih0 | apply laws_toAction.mono | apply LeO.refl | apply LeO.none | refine LeO.ite ?_ ?_ | refine LeO.bind ?_ (fun _ => ?_)
theorem laws_toActionS.mono : ∀ a0 k, LeO (laws_toActionS.f k a0) (laws_toActionS.f (k + 1) a0) := by
 intro a0 k; have ih0 := laws_toActionS.mono_l k; unfold laws_toActionS.f
 repeat' with_reducible first | apply ih0 | apply laws_toAction.mono | apply LeO.refl | apply LeO.none | refine LeO.ite ?_ ?_ | refine LeO.bind ?_ (fun _ => ?_)
set_option maxHeartbeats 8000000 in
set_option maxRecDepth 100000 in
theorem laws_toActionS.calls (k : Nat) (A0 : Option Addr) (c0 : Nat) (l0 : List (S118)) (r : List (S108)) (w : World) (hr0 : Kd.C k118 w A0 l0.length l0) (hc0 : l0.length ≤ c0) (h : laws_toActionS.f k l0 = some r) :
  Calls Tryz.prog 54 #[.slice A0 l0.length c0] w fun e w' => ∃ v0_ : Value, e = .returned (v0_) ∧ Kd.S k108 108 w' w.heap.size (fun _ => True) v0_ r ∧ Below w.heap.size w w' := by
 have hu118 := Tryz.underlying118; have hu108 := Tryz.underlying108; have HR0 := a_ hr0; have HC0 := a_ hc0; clear hr0 hc0; have HB := a_ (Below.refl w.heap.size w); have H : (if 0 ≤ (l0.length : Int) then (if ((l0.length : Int) : Int).toNat ≤ 5026338869833 then (laws_toActionS.l0 k l0 (List.replicate ((l0.length : Int) : Int).toNat z108) 0) else (none)) else (none)) = some r := h
 clear h; by_cases c2 : 0 ≤ (l0.length : Int)
 case neg => rw [if_neg c2] at H; cases H
 rw [if_pos c2] at H; have c2b0 := eq_true c2; have c2b1 := ct_ c2; clear c2; by_cases c3 : ((l0.length : Int) : Int).toNat ≤ 5026338869833
 case neg => rw [if_neg c3] at H; cases H
 rw [if_pos c3] at H; have c3b0 := eq_true c3; have c3b1 := ct_ c3; clear c3; obtain ⟨y337, hy337⟩ : ∃ y_ : List (S108), y_ = (List.replicate ((l0.length : Int) : Int).toNat z108) := ⟨_, rfl⟩; rw [← hy337] at H; (try rw [Option.bind_some] at H); have Ny337 := a_ hy337; clear hy337; have H' := a_ H; clear H; go_enter Tryz.func54, Tryz.ntmps54; go_wp2_with (first | ((with_reducible refine gate_dst (N := 7) rfl ?_); refine Kd.S_make k108 _ 108 rfl (N := 7) rfl 56 _ _ rfl (l0.length : Int) rfl rfl Tryz.underlying56 (.agg #[(.int .i64 0), (.int .i64 0), (.string ⟨#[]⟩), (.slice none 0 0)]) 56 info108 rfl (by decide) (by omega) z108 (ok := fun _ => True) (okp := fun _ => True) (k108_mkM _ _ _ z108 (Kd.R_nil _ _ _ _ _)) (fun _ hk => hk) trivial (md_) (Nat.le_trans (Nat.mul_le_mul_right _ (md_ : (l0.length : Int).toNat ≤ 5026338869833)) (by omega)) (Below.refl _ _) (Nat.le_refl _) ?_; intro v338 w4 ho5 hb hg_ hnew_; clear hg_ hnew_; (first | rw [← Ny337.out] at ho5 | (simp only [Int.reduceToNat] at ho5; rw [← Ny337.out] at ho5)); have HO339 := a_ (Kd.S_lower ho5 (below_size (mb_ HB))); replace HB := ms_ HB hb; clear hb ho5)); go_loopg [4] k (fun kq v4 w' => ∃ (x3_1 : List (S108)) (x4_1 : Int), v4 = .int .i64 x4_1 ∧ Aside0 (laws_toActionS.l0 kq l0 x3_1 x4_1 = some r) ∧ Aside0 (kq ≤ k) ∧ Aside0 (Kd.S k108 108 w' w.heap.size (fun _ => True) v338 x3_1) ∧ Aside0 (Below w.heap.size w w'))
 case atStart => exact ⟨(y337), (0), mq_, H', ⟨Nat.le_refl _⟩, ⟨by (with_reducible repeat (first | apply Kd.S_alloc | apply Kd.S_drewN | apply Kd.S_drew)); exact HO339.out⟩, ⟨mb_ HB⟩⟩
 clear H'; (try clear c2b0); (try clear c2b1); (try clear c3b0); (try clear c3b1); obtain ⟨x3_1, x4_1, rfl, HA, HK1, HO_3, HB⟩ := hrel; obtain _ | k1 := gk
 ·exact absurd HA.out (by simp [laws_toActionS.l0])
 have H := HA.out; clear HA; simp only [laws_toActionS.l0] at H; by_cases c6 : x4_1 < (l0.length : Int)
 ·rw [if_pos c6] at H; have c6b0 := ct_ c6; clear c6; by_cases c7 : 0 ≤ x4_1
  case neg => rw [if_neg c7] at H; cases H
  rw [if_pos c7] at H; have c7b0 := ct_ c7; clear c7; obtain ⟨⟨t341, t342, t343, t344⟩, A8, H⟩ := ob_ H; by_cases c9 : x4_1 < (x3_1.length : Int)
  case neg => rw [if_neg c9] at H; cases H
  rw [if_pos c9] at H; have c9b0 := ct_ c9; clear c9; obtain ⟨y347, hy347⟩ : ∃ y_ : List (S108), y_ = (x3_1.set (x4_1 : Int).toNat (⟨t341, t342, t343, t344⟩ : S108)) := ⟨_, rfl⟩; rw [← hy347] at H; (try rw [Option.bind_some] at H); have Ny347 := a_ hy347; clear hy347; have H' := a_ H; clear H; have p340 : 0 ≤ (x4_1 : Int) := md_
  have q340 : x4_1 < (l0.length : Int) := md_
  obtain ⟨ad340, A340_3, c340_3, e340, hx340_0, hx340_1, hx340_2, hx340_3, hl340_3, hi340_3⟩ := at_T118 HR0.out x4_1 p340 q340; cases e340; replace hx340_0 := mx_ HB hx340_0; replace hx340_1 := mx_ HB hx340_1; replace hx340_2 := mx_ HB hx340_2; replace hx340_3 := mx_ HB hx340_3; have HR340_3 := a_ hi340_3; have HC340_3 := a_ hl340_3; clear hi340_3 hl340_3; replace p340 := eq_true p340; replace q340 := eq_true q340; go_wp2_with (first | ((with_reducible refine gate_callee (f := 74) rfl ?_); refine goesL_ (some 20) rfl rfl Tryz.func74 (by kernel_rfl) rfl #[.agg #[.int .i64 ((rd_T118 l0 x4_1).f0), .int .i64 ((rd_T118 l0 x4_1).f1), .string ((rd_T118 l0 x4_1).f2), .slice A340_3 ((rd_T118 l0 x4_1).f3).length c340_3]] rfl mw_ ?_; (with_reducible refine (laws_toAction.calls k1 ((rd_T118 l0 x4_1).f0) ((rd_T118 l0 x4_1).f1) ((rd_T118 l0 x4_1).f2) _ _ ((rd_T118 l0 x4_1).f3) t341 t342 t343 t344 _ ?side1 HC340_3.out A8.out).mono ?_); (case side1 => exact mt_ HR340_3 HB); rintro e w11 ⟨v345, rfl, ho0, hb⟩; refine ⟨_, rfl, ?_⟩; have HO346 := a_ (Kd.R_lower ho0 (below_size (mb_ HB))); replace HO_3 := a_ (Kd.S_elder' (by (with_reducible repeat (first | apply Kd.S_alloc | apply Kd.S_drewN | apply Kd.S_drew)); exact HO_3.out) (Kd.R_base ho0) hb); replace HB := ms_ HB hb; (try clear hb ho0); have p10 : 0 ≤ (x4_1 : Int) := md_; have q10 : (x4_1 : Int) < ((x3_1.length : Int) : Int) := md_; obtain ⟨go10, co10, eo10, gb10, gl10, cl10, HG10⟩ := Kd.S_form HO_3.out (by omega); (first | cases eo10 | (injection eo10 with ea_ en_ ec_; (first | subst ea_ | (injection ea_ with ea_; subst ea_)); subst ec_; clear en_)); have GB10 := a_ gb10; have GG10 := a_ HG10; clear gb10 gl10 HG10; obtain ⟨_, ce10, hcl10, hM10, hcc10, hfr10, _, _⟩ := Kd.S_elem HO_3.out z108 (x4_1 : Int) p10 q10; obtain ⟨ve10_3, rfl, ge10_3⟩ := k108_openM hM10; have hx10_0 : w11.cell? ⟨go10, (x4_1 : Int).toNat * 4, none⟩ = some (.int .i64 ((rd_T108 x3_1 x4_1).f0)) := hcc10 0 _ rfl; have hx10_1 : w11.cell? ⟨go10, (x4_1 : Int).toNat * 4 + 1, none⟩ = some (.int .i64 ((rd_T108 x3_1 x4_1).f1)) := hcc10 1 _ rfl; have hx10_2 : w11.cell? ⟨go10, (x4_1 : Int).toNat * 4 + 2, none⟩ = some (.string ((rd_T108 x3_1 x4_1).f2)) := hcc10 2 _ rfl; have hx10_3 : w11.cell? ⟨go10, (x4_1 : Int).toNat * 4 + 3, none⟩ = some (ve10_3) := hcc10 3 _ rfl; have hf10_0 : w11.frozen? ⟨go10, (x4_1 : Int).toNat * 4, none⟩ = false := hfr10 0; have hf10_1 : w11.frozen? ⟨go10, (x4_1 : Int).toNat * 4 + 1, none⟩ = false := hfr10 1; have hf10_2 : w11.frozen? ⟨go10, (x4_1 : Int).toNat * 4 + 2, none⟩ = false := hfr10 2; have hf10_3 : w11.frozen? ⟨go10, (x4_1 : Int).toNat * 4 + 3, none⟩ = false := hfr10 3; clear hcl10 hcc10 hfr10; (try clear hM10); replace p10 := eq_true p10; replace q10 := eq_true q10; have n_ := a_ (Kd.S_mono (ok' := (fun k_ => some k_ ≠ (v345 : Value).ownBlock)) HO_3.out (fun k_ hk => hk.2)); clear HO_3; have HO_3 := n_; clear n_; have HX12 := a_ (show Kd.S k108 108 w11 w.heap.size (fun k_ => ((fun _ => True)) k_ ∧ ¬ ((fun k_ => some k_ = (v345 : Value).ownBlock)) k_) (.slice (some ⟨go10, 0, none⟩) x3_1.length co10) x3_1 from (by (with_reducible repeat (first | apply Kd.S_alloc | apply Kd.S_drewN | apply Kd.S_drew)); exact Kd.S_mono HO_3.out (fun k_ hk => ⟨trivial, fun e_ => hk e_⟩))); obtain ⟨oki12, ce12, hcl12, hM12, hcc12, hfr12, hoki12, hH12⟩ := Kd.S_elem HX12.out z108 (x4_1 : Int) (md_) (by have h_ : (x4_1 : Int) < ((x3_1.length : Int) : Int) := md_; first | exact h_ | (have e_ := (Kd.S_reads' HO_3.out).1; omega) | simpa using h_); obtain ⟨ve12_3, rfl, ge12_3⟩ := k108_openM hM12; have HP12 := Kd.S_seg hH12 (md_) (by have h_ : (x4_1 : Int) < ((x3_1.length : Int) : Int) := md_; first | exact h_ | (have e_ := (Kd.S_reads' HO_3.out).1; omega) | simpa using h_) (seg := [.int .i64 t341, .int .i64 t342, .string t343, v345]) (j := 0) (show 4 ≤ 4 from by decide) (x' := (⟨t341, t342, t343, t344⟩ : S108)) (k108_mkM _ _ _ (⟨t341, t342, t343, t344⟩ : S108) (Kd.R_mono (Kd.R_tight rfl (Kd.R_mono (ok' := fun k_ => ((fun _ => True)) k_ ∧ k_ ≠ go10) (Kd.R_apart' (HO346.out) (Kd.S_typed HO_3.out) (by decide)) (fun k_ hk => ⟨trivial, fun e_ => (hk.2) (by rw [e_]; rfl)⟩))) (fun _ h_ => Or.inr (h_)))) (fun _ hk => hk) (fun k_ hk_ => ((Kd.R_mono (ok' := fun k_ => ((fun _ => True)) k_ ∧ k_ ≠ go10) (Kd.R_apart' (HO346.out) (Kd.S_typed HO_3.out) (by decide)) (fun k_ hk => ⟨trivial, fun e_ => (hk.2) (by rw [e_]; rfl)⟩))).1 k_ hk_.symm); have hx12_0 := hcc12 0 _ rfl; (try simp only [show (k108).sz = 4 from rfl, Nat.mul_one, Nat.add_zero] at hx12_0); have hf12_0 := hfr12 0; (try simp only [show (k108).sz = 4 from rfl, Nat.mul_one, Nat.add_zero] at hf12_0); have hx12_1 := hcc12 1 _ rfl; (try simp only [show (k108).sz = 4 from rfl, Nat.mul_one, Nat.add_zero] at hx12_1); have hf12_1 := hfr12 1; (try simp only [show (k108).sz = 4 from rfl, Nat.mul_one, Nat.add_zero] at hf12_1); have hx12_2 := hcc12 2 _ rfl; (try simp only [show (k108).sz = 4 from rfl, Nat.mul_one, Nat.add_zero] at hx12_2); have hf12_2 := hfr12 2; (try simp only [show (k108).sz = 4 from rfl, Nat.mul_one, Nat.add_zero] at hf12_2); have hx12_3 := hcc12 3 _ rfl; (try simp only [show (k108).sz = 4 from rfl, Nat.mul_one, Nat.add_zero] at hx12_3); have hf12_3 := hfr12 3; (try simp only [show (k108).sz = 4 from rfl, Nat.mul_one, Nat.add_zero] at hf12_3); clear hcl12 hcc12 hfr12 hoki12 hH12; (try clear hM12)) | ((with_reducible refine gate_store (t := 108) (p := 21) rfl ?_); refine store_event (t := 108) (p := 21) (v := ?vo_w13) (w1 := ((((w11.setCell ⟨go10, (x4_1 : Int).toNat * 4, none⟩ (.int .i64 t341)).setCell ⟨go10, (x4_1 : Int).toNat * 4 + 1, none⟩ (.int .i64 t342)).setCell ⟨go10, (x4_1 : Int).toNat * 4 + 2, none⟩ (.string t343)).setCell ⟨go10, (x4_1 : Int).toNat * 4 + 3, none⟩ (v345))) ?hg ?ho ?hn ?hr ?_; (case ho => rfl); (case hg => rfl); (case hn => rfl); (case hr => first | (go_simp; done) | (go_simp; rfl) | ((obtain ⟨As0_, cs0_, es0_⟩ := (by first | exact Kd.R_slice (Kd.S_R (Aside0.out (by with_reducible assumption : Aside0 (Kd.S _ _ _ _ _ v345 _)))) | exact Kd.R_slice (Aside0.out (by with_reducible assumption : Aside0 (Kd.R _ _ _ _ _ v345 _))) | exact Kd.R_slice (Aside0.out ‹Aside0 (Kd.R _ _ _ _ _ v345 _)›) : ∃ A_ c_, v345 = Value.slice A_ _ c_)); subst es0_; go_simp; done) | ((obtain ⟨As0_, cs0_, es0_⟩ := (by first | exact Kd.R_slice (Kd.S_R (Aside0.out (by with_reducible assumption : Aside0 (Kd.S _ _ _ _ _ v345 _)))) | exact Kd.R_slice (Aside0.out (by with_reducible assumption : Aside0 (Kd.R _ _ _ _ _ v345 _))) | exact Kd.R_slice (Aside0.out ‹Aside0 (Kd.R _ _ _ _ _ v345 _)›) : ∃ A_ c_, v345 = Value.slice A_ _ c_)); subst es0_; go_simp; rfl)); intro w13 hw; have hg : w11.grownBy w13 (some go10) := (by rw [hw]; exact HP12.2); have hp_ : Kd.S k108 108 w13 w.heap.size (fun _ => True) (.slice (some ⟨go10, 0, none⟩) x3_1.length co10) y347 := (by rw [hw, Ny347.out]; exact HP12.1); clear HP12; replace HO_3 := a_ (hp_); replace HB := a_ ((by rw [hw]; exact below_set (below_set (below_set (below_set (HB.out) GB10.out) GB10.out) GB10.out) GB10.out : Below w.heap.size w w13)); clear HO346; clear hg hw hp_))
  go_roundg k1
  case measure => have := HK1.out; omega
  case rel => exact ⟨(y347), (wrap64 (x4_1 + 1)), mq_, H', ⟨by have := HK1.out; omega⟩, ⟨by (with_reducible repeat (first | apply Kd.S_alloc | apply Kd.S_drewN | apply Kd.S_drew)); exact HO_3.out⟩, ⟨mb_ HB⟩⟩
 ·rw [if_neg c6] at H; have c6b0 := cf_ c6; clear c6; obtain rfl := oi_ H; go_wp2; go_ret; exact ⟨_, me_, by (with_reducible repeat (first | apply Kd.S_alloc | apply Kd.S_drewN | apply Kd.S_drew)); exact HO_3.out, mb_ HB⟩
def laws_toRule.f (k : Nat) (a0_0 : ByteArray) (a0_1 : Int) (l0_2 : List (S112)) (l0_3 : List (S116)) (l0_4 : List (S118)) : Option (ByteArray × Int × (List (S101)) × (List (S106)) × (List (S108))) := (laws_toPatternS.f k l0_2).bind fun t351 => ((laws_toExprS.f k l0_3).bind fun t354 => ((laws_toActionS.f k l0_4).bind fun t357 => (some (a0_0, a0_1, t351, t354, t357))))
theorem laws_toRule.mono : ∀ a0 a1 a2 a3 a4 k, LeO (laws_toRule.f k a0 a1 a2 a3 a4) (laws_toRule.f (k + 1) a0 a1 a2 a3 a4) := by
 intro a0 a1 a2 a3 a4 k; unfold laws_toRule.f
 repeat' with_reducible first | apply laws_toActionS.mono | apply laws_toExprS.mono | apply laws_toPatternS.mono | apply LeO.refl | apply LeO.none | refine LeO.ite ?_ ?_ | refine LeO.bind ?_ (fun _ => ?_)
set_option maxHeartbeats 8000000 in
set_option maxRecDepth 100000 in
theorem laws_toRule.calls (k : Nat) (a0_0 : ByteArray) (a0_1 : Int) (A0_2 : Option Addr) (c0_2 : Nat) (l0_2 : List (S112)) (A0_3 : Option Addr) (c0_3 : Nat) (l0_3 : List (S116)) (A0_4 : Option Addr) (c0_4 : Nat) (l0_4 : List (S118)) (r1 : ByteArray) (r2 : Int) (r3 : List (S101)) (r4 : List (S106)) (r5 : List (S108)) (w : World) (hr0_2 : Kd.C k112 w A0_2 l0_2.length l0_2) (hc0_2 : l0_2.length ≤ c0_2) (hr0_3 : Kd.C k116 w A0_3 l0_3.length l0_3) (hc0_3 : l0_3.length ≤ c0_3) (hr0_4 : Kd.C k118 w A0_4 l0_4.length l0_4) (hc0_4 : l0_4.length ≤ c0_4) (h : laws_toRule.f k a0_0 a0_1 l0_2 l0_3 l0_4 = some (r1, r2, r3, r4, r5)) :
  Calls Tryz.prog 26 #[.agg #[.string a0_0, .int .i64 a0_1, .slice A0_2 l0_2.length c0_2, .slice A0_3 l0_3.length c0_3, .slice A0_4 l0_4.length c0_4]] w fun e w' => ∃ v2_ v3_ v4_ : Value, e = .returned (.agg #[.string r1, .int .i64 r2, v2_, v3_, v4_]) ∧ Kd.S k101 101 w' w.heap.size (fun _ => True) v2_ r3 ∧ Kd.R k106 106 w' w.heap.size (fun _ => True) v3_ r4 ∧ Kd.S k108 108 w' w.heap.size (fun _ => True) v4_ r5 ∧ Below w.heap.size w w' := by
 have hu50 := Tryz.underlying50; have hu58 := Tryz.underlying58; have HR0_2 := a_ hr0_2; have HC0_2 := a_ hc0_2; clear hr0_2 hc0_2; have HR0_3 := a_ hr0_3; have HC0_3 := a_ hc0_3; clear hr0_3 hc0_3; have HR0_4 := a_ hr0_4; have HC0_4 := a_ hc0_4; clear hr0_4 hc0_4; have HB := a_ (Below.refl w.heap.size w); have H : ((laws_toPatternS.f k l0_2).bind fun t351 => ((laws_toExprS.f k l0_3).bind fun t354 => ((laws_toActionS.f k l0_4).bind fun t357 => (some (a0_0, a0_1, t351, t354, t357))))) = some (r1, r2, r3, r4, r5) := h
 clear h; obtain ⟨t351, A2, H⟩ := ob_ H; obtain ⟨t354, A3, H⟩ := ob_ H; obtain ⟨t357, A4, H⟩ := ob_ H; simp only [Option.some.injEq, Prod.mk.injEq] at H; obtain ⟨rfl, rfl, rfl, rfl, rfl⟩ := H; go_enter Tryz.func26, Tryz.ntmps26; go_wp2_with (first | ((with_reducible refine gate_dst (N := 1) rfl ?_); refine bh_ 1 #[.string a0_0, .int .i64 a0_1, .slice A0_2 l0_2.length c0_2, .slice A0_3 l0_3.length c0_3, .slice A0_4 l0_4.length c0_4] 50 HB ?_; intro gb348 hg w5 BK348 GE348 hb; replace HB := ms_ HB hb; clear hb hg) | ((with_reducible refine gate_dst (N := 2) rfl ?_); refine bh_ 2 #[.string (⟨#[]⟩ : ByteArray), .int .i64 0, .slice none 0 0, .slice none 0 0, .slice none 0 0] 58 HB ?_; intro gb349 hg w6 BK349 GE349 hb; obtain ⟨NB348_349, NB349_348⟩ := mn_ BK348 hg; replace BK348 := mk_ BK348 hb; replace HB := ms_ HB hb; clear hb hg) | ((with_reducible refine gate_dst (N := 3) rfl ?_); refine bh_ 3 #[.string (⟨#[]⟩ : ByteArray), .int .i64 0, .slice none 0 0, .slice none 0 0, .slice none 0 0] 58 HB ?_; intro gb350 hg w7 BK350 GE350 hb; obtain ⟨NB348_350, NB350_348⟩ := mn_ BK348 hg; obtain ⟨NB349_350, NB350_349⟩ := mn_ BK349 hg; replace BK348 := mk_ BK348 hb; replace BK349 := mk_ BK349 hb; replace HB := ms_ HB hb; clear hb hg; have hnb8 := NB348_349.out; have hnc8 := NB349_348.out; have hnb9 := NB348_350.out; have hnc9 := NB350_348.out; obtain ⟨z10_0, z10_1, z10_2, z10_3, z10_4, zf10_0, zf10_1, zf10_2, zf10_3, zf10_4⟩ := cz5 BK348; have hnb11 := NB350_349.out; have hnc11 := NB349_350.out; obtain ⟨z12_0, z12_1, z12_2, z12_3, z12_4, zf12_0, zf12_1, zf12_2, zf12_3, zf12_4⟩ := cz5 BK350) | ((with_reducible refine gate_callee (f := 52) rfl ?_); refine goesL_ (some 12) rfl rfl Tryz.func52 (by kernel_rfl) rfl #[.slice A0_2 l0_2.length c0_2] rfl mw_ ?_; (with_reducible refine (laws_toPatternS.calls k _ _ l0_2 t351 _ ?side1 HC0_2.out A2.out).mono ?_); (case side1 => exact Kd.C_below HR0_2.out (mb_ HB)); rintro e w13 ⟨v352, rfl, ho0, hb⟩; refine ⟨_, rfl, ?_⟩; have HO353 := a_ (Kd.S_lower ho0 (below_size (mb_ HB))); replace BK348 := mk_ BK348 hb; replace BK349 := mk_ BK349 hb; replace BK350 := a_ (blk_below (g := gb350) (o := .cells #[.string a0_0, .int .i64 a0_1, .slice none 0 0, .slice none 0 0, .slice none 0 0] 58 (0, 0)) (mp_ BK350) hb); replace HB := ms_ HB hb; (try clear hb ho0); obtain ⟨Ao14, co14, eo14⟩ := Kd.S_slice HO353.out; subst eo14; obtain ⟨z15_0, z15_1, z15_2, z15_3, z15_4, zf15_0, zf15_1, zf15_2, zf15_3, zf15_4⟩ := cz5 BK350; obtain ⟨z16_0, z16_1, z16_2, z16_3, z16_4, zf16_0, zf16_1, zf16_2, zf16_3, zf16_4⟩ := cz5 BK348) | ((with_reducible refine gate_callee (f := 53) rfl ?_); refine goesL_ (some 16) rfl rfl Tryz.func53 (by kernel_rfl) rfl #[.slice A0_3 l0_3.length c0_3] rfl mw_ ?_; (with_reducible refine (laws_toExprS.calls k _ _ l0_3 t354 _ ?side1 HC0_3.out A3.out).mono ?_); (case side1 => exact Kd.C_below HR0_3.out (mb_ HB)); rintro e w17 ⟨v355, rfl, ho0, hb⟩; refine ⟨_, rfl, ?_⟩; have HO356 := a_ (Kd.R_lower ho0 (below_size (mb_ HB))); replace HO353 := a_ (Kd.S_below (by (with_reducible repeat (first | apply Kd.S_alloc | apply Kd.S_drewN | apply Kd.S_drew)); exact (Kd.S_mono (Kd.S_far (p := ⟨gb350, 2, none⟩) (Kd.S_types HO353.out BK350.out (by decide)) (fun _ hk => hk.2) (.slice Ao14 t351.length co14)) (fun _ h_ => h_.1))) hb); replace BK348 := mk_ BK348 hb; replace BK349 := mk_ BK349 hb; replace BK350 := a_ (blk_below (g := gb350) (o := .cells #[.string a0_0, .int .i64 a0_1, .slice Ao14 t351.length co14, .slice none 0 0, .slice none 0 0] 58 (0, 0)) (mp_ BK350) hb); replace HB := ms_ HB hb; (try clear hb ho0); obtain ⟨Ao18, co18, eo18⟩ := Kd.R_slice HO356.out; subst eo18; obtain ⟨z19_0, z19_1, z19_2, z19_3, z19_4, zf19_0, zf19_1, zf19_2, zf19_3, zf19_4⟩ := cz5 BK350; obtain ⟨z20_0, z20_1, z20_2, z20_3, z20_4, zf20_0, zf20_1, zf20_2, zf20_3, zf20_4⟩ := cz5 BK348) | ((with_reducible refine gate_callee (f := 54) rfl ?_); refine goesL_ (some 20) rfl rfl Tryz.func54 (by kernel_rfl) rfl #[.slice A0_4 l0_4.length c0_4] rfl mw_ ?_; (with_reducible refine (laws_toActionS.calls k _ _ l0_4 t357 _ ?side1 HC0_4.out A4.out).mono ?_); (case side1 => exact Kd.C_below HR0_4.out (mb_ HB)); rintro e w21 ⟨v358, rfl, ho0, hb⟩; refine ⟨_, rfl, ?_⟩; have HO359 := a_ (Kd.S_lower ho0 (below_size (mb_ HB))); replace HO353 := a_ (Kd.S_below (by (with_reducible repeat (first | apply Kd.S_alloc | apply Kd.S_drewN | apply Kd.S_drew)); exact (Kd.S_mono (Kd.S_far (p := ⟨gb350, 3, none⟩) (Kd.S_types HO353.out BK350.out (by decide)) (fun _ hk => hk.2) (.slice Ao18 t354.length co18)) (fun _ h_ => h_.1))) hb); replace HO356 := a_ (Kd.R_below ((Kd.R_mono (mf_ HO356 BK350) (fun _ h_ => h_.1))) hb); replace BK348 := mk_ BK348 hb; replace BK349 := mk_ BK349 hb; replace BK350 := a_ (blk_below (g := gb350) (o := .cells #[.string a0_0, .int .i64 a0_1, .slice Ao14 t351.length co14, .slice Ao18 t354.length co18, .slice none 0 0] 58 (0, 0)) (mp_ BK350) hb); replace HB := ms_ HB hb; (try clear hb ho0); obtain ⟨Ao22, co22, eo22⟩ := Kd.S_slice HO359.out; subst eo22; obtain ⟨z23_0, z23_1, z23_2, z23_3, z23_4, zf23_0, zf23_1, zf23_2, zf23_3, zf23_4⟩ := cz5 BK350; obtain ⟨z24_0, z24_1, z24_2, z24_3, z24_4, zf24_0, zf24_1, zf24_2, zf24_3, zf24_4⟩ := cz5 BK349))
 refine bodyPost_ret (results_cell_row rfl _ _ gb349 58 #[.string a0_0, .int .i64 a0_1, .slice Ao14 t351.length co14, .slice Ao18 t354.length co18, .slice Ao22 t357.length co22] (0, 0) _ rfl (mp_ BK349) Tryz.underlying58 rfl (by kernel_rfl)) rfl ?_; exact ⟨_, _, _, me_, by (with_reducible repeat (first | apply Kd.S_alloc | apply Kd.S_drewN | apply Kd.S_drew)); exact Kd.S_mono (Kd.S_far (p := ⟨gb349, 4, none⟩) (Kd.S_far (p := ⟨gb349, 3, none⟩) (Kd.S_far (p := ⟨gb349, 2, none⟩) (Kd.S_far (p := ⟨gb349, 1, none⟩) (Kd.S_far (p := ⟨gb349, 0, none⟩) (Kd.S_far (p := ⟨gb350, 4, none⟩) (Kd.S_types (Kd.S_types HO353.out BK350.out (by decide)) BK349.out (by decide)) (fun _ hk => hk.1.2) (.slice Ao22 t357.length co22)) (fun _ hk => hk.2) (.string a0_0)) (fun _ hk => hk.2) (.int .i64 a0_1)) (fun _ hk => hk.2) (.slice Ao14 t351.length co14)) (fun _ hk => hk.2) (.slice Ao18 t354.length co18)) (fun _ hk => hk.2) (.slice Ao22 t357.length co22)) (fun _ hk => trivial), mo_ (Kd.R_mono (Kd.R_far (p := ⟨gb349, 4, none⟩) (Kd.R_far (p := ⟨gb349, 3, none⟩) (Kd.R_far (p := ⟨gb349, 2, none⟩) (Kd.R_far (p := ⟨gb349, 1, none⟩) (Kd.R_far (p := ⟨gb349, 0, none⟩) (Kd.R_far (p := ⟨gb350, 4, none⟩) (Kd.R_types (Kd.R_types HO356.out BK350.out (by decide)) BK349.out (by decide)) (fun _ hk => hk.1.2) (.slice Ao22 t357.length co22)) (fun _ hk => hk.2) (.string a0_0)) (fun _ hk => hk.2) (.int .i64 a0_1)) (fun _ hk => hk.2) (.slice Ao14 t351.length co14)) (fun _ hk => hk.2) (.slice Ao18 t354.length co18)) (fun _ hk => hk.2) (.slice Ao22 t357.length co22)) (fun _ hk => trivial)), by (with_reducible repeat (first | apply Kd.S_alloc | apply Kd.S_drewN | apply Kd.S_drew)); exact Kd.S_mono (Kd.S_far (p := ⟨gb349, 4, none⟩) (Kd.S_far (p := ⟨gb349, 3, none⟩) (Kd.S_far (p := ⟨gb349, 2, none⟩) (Kd.S_far (p := ⟨gb349, 1, none⟩) (Kd.S_far (p := ⟨gb349, 0, none⟩) (Kd.S_far (p := ⟨gb350, 4, none⟩) (Kd.S_types (Kd.S_types HO359.out BK350.out (by decide)) BK349.out (by decide)) (fun _ hk => hk.1.2) (.slice Ao22 t357.length co22)) (fun _ hk => hk.2) (.string a0_0)) (fun _ hk => hk.2) (.int .i64 a0_1)) (fun _ hk => hk.2) (.slice Ao14 t351.length co14)) (fun _ hk => hk.2) (.slice Ao18 t354.length co18)) (fun _ hk => hk.2) (.slice Ao22 t357.length co22)) (fun _ hk => trivial), mb_ HB⟩
def laws_toRuleS.l0 : Nat → List (S50) → List (S58) → Int → Option ((List (S58)))
 | 0, _, _, _ => none
 | k + 1, x0, x3, x4 => if x4 < (x0.length : Int) then (if 0 ≤ x4 then ((laws_toRule.f k ((rd_T50 x0 x4).f0) ((rd_T50 x0 x4).f1) ((rd_T50 x0 x4).f2) ((rd_T50 x0 x4).f3) ((rd_T50 x0 x4).f4)).bind fun bt364 => (if x4 < (x3.length : Int) then (laws_toRuleS.l0 k x0 (x3.set (x4 : Int).toNat (⟨bt364.1, bt364.2.1, bt364.2.2.1, bt364.2.2.2.1, bt364.2.2.2.2⟩ : S58)) (wrap64 (x4 + 1))) else (none))) else (none)) else (some x3)
def laws_toRuleS.f (k : Nat) (l0 : List (S50)) : Option ((List (S58))) := if 0 ≤ (l0.length : Int) then (if ((l0.length : Int) : Int).toNat ≤ 2932031007402 then (laws_toRuleS.l0 k l0 (List.replicate ((l0.length : Int) : Int).toNat z58) 0) else (none)) else (none)
theorem laws_toRuleS.mono_l : ∀ k, (∀ y0 y1 y2, LeO (laws_toRuleS.l0 k y0 y1 y2) (laws_toRuleS.l0 (k + 1) y0 y1 y2))
 | 0 => fun _ _ _ r h => by simp [laws_toRuleS.l0] at h
 | k + 1 => by
  have ih0 := laws_toRuleS.mono_l k
  ·intro y0 y1 y2; unfold laws_toRuleS.l0
   repeat' with_reducible first | apply ih0 | apply laws_toRule.mono | apply LeO.refl | apply LeO.none | refine LeO.ite ?_ ?_ | refine LeO.bind ?_ (fun _ => ?_)
theorem laws_toRuleS.mono : ∀ a0 k, LeO (laws_toRuleS.f k a0) (laws_toRuleS.f (k + 1) a0) := by
 intro a0 k; have ih0 := laws_toRuleS.mono_l k; unfold laws_toRuleS.f
 repeat' with_reducible first | apply ih0 | apply laws_toRule.mono | apply LeO.refl | apply LeO.none | refine LeO.ite ?_ ?_ | refine LeO.bind ?_ (fun _ => ?_)
set_option maxHeartbeats 8000000 in
set_option maxRecDepth 100000 in
theorem laws_toRuleS.calls (k : Nat) (A0 : Option Addr) (c0 : Nat) (l0 : List (S50)) (r : List (S58)) (w : World) (hr0 : Kd.C k50 w A0 l0.length l0) (hc0 : l0.length ≤ c0) (h : laws_toRuleS.f k l0 = some r) :
  Calls Tryz.prog 8 #[.slice A0 l0.length c0] w fun e w' => ∃ v0_ : Value, e = .returned (v0_) ∧ Kd.R k58 58 w' w.heap.size (fun _ => True) v0_ r ∧ Below w.heap.size w w' := by
 have hu50 := Tryz.underlying50; have hu58 := Tryz.underlying58; have HR0 := a_ hr0; have HC0 := a_ hc0; clear hr0 hc0; have HB := a_ (Below.refl w.heap.size w); have H : (if 0 ≤ (l0.length : Int) then (if ((l0.length : Int) : Int).toNat ≤ 2932031007402 then (laws_toRuleS.l0 k l0 (List.replicate ((l0.length : Int) : Int).toNat z58) 0) else (none)) else (none)) = some r := h
 clear h; by_cases c2 : 0 ≤ (l0.length : Int)
 case neg => rw [if_neg c2] at H; cases H
 rw [if_pos c2] at H; have c2b0 := eq_true c2; have c2b1 := ct_ c2; clear c2; by_cases c3 : ((l0.length : Int) : Int).toNat ≤ 2932031007402
 case neg => rw [if_neg c3] at H; cases H
 rw [if_pos c3] at H; have c3b0 := eq_true c3; have c3b1 := ct_ c3; clear c3; obtain ⟨y360, hy360⟩ : ∃ y_ : List (S58), y_ = (List.replicate ((l0.length : Int) : Int).toNat z58) := ⟨_, rfl⟩; rw [← hy360] at H; (try rw [Option.bind_some] at H); have Ny360 := a_ hy360; clear hy360; have H' := a_ H; clear H; go_enter Tryz.func8, Tryz.ntmps8; go_wp2_with (first | ((with_reducible refine gate_dst (N := 7) rfl ?_); refine Kd.R_make k58 _ 58 rfl (N := 7) rfl 29 _ _ rfl (l0.length : Int) rfl rfl Tryz.underlying29 (.agg #[(.string ⟨#[]⟩), (.int .i64 0), (.slice none 0 0), (.slice none 0 0), (.slice none 0 0)]) 96 info58 rfl (by decide) (by omega) z58 (ok := fun _ => True) (okp := fun _ => True) (k58_mkM _ _ _ z58 (Kd.R_nil _ _ _ _ _) (Kd.R_nil _ _ _ _ _) (Kd.R_nil _ _ _ _ _)) (fun _ hk => hk) trivial (md_) (Nat.le_trans (Nat.mul_le_mul_right _ (md_ : (l0.length : Int).toNat ≤ 2932031007402)) (by omega)) (Below.refl _ _) (Nat.le_refl _) ?_; intro v361 w4 ho5 hb hg_ hnew_; clear hg_ hnew_; (first | rw [← Ny360.out] at ho5 | (simp only [Int.reduceToNat] at ho5; rw [← Ny360.out] at ho5)); have HO362 := a_ (Kd.R_lower ho5 (below_size (mb_ HB))); replace HB := ms_ HB hb; clear hb ho5)); go_loopg [4] k (fun kq v4 w' => ∃ (x3_1 : List (S58)) (x4_1 : Int), v4 = .int .i64 x4_1 ∧ Aside0 (laws_toRuleS.l0 kq l0 x3_1 x4_1 = some r) ∧ Aside0 (kq ≤ k) ∧ Aside0 (Kd.R k58 58 w' w.heap.size (fun _ => True) v361 x3_1) ∧ Aside0 (Below w.heap.size w w'))
 case atStart => exact ⟨(y360), (0), mq_, H', ⟨Nat.le_refl _⟩, ⟨mo_ HO362.out⟩, ⟨mb_ HB⟩⟩
 clear H'; (try clear c2b0); (try clear c2b1); (try clear c3b0); (try clear c3b1); obtain ⟨x3_1, x4_1, rfl, HA, HK1, HO_3, HB⟩ := hrel; obtain _ | k1 := gk
 ·exact absurd HA.out (by simp [laws_toRuleS.l0])
 have H := HA.out; clear HA; simp only [laws_toRuleS.l0] at H; by_cases c6 : x4_1 < (l0.length : Int)
 ·rw [if_pos c6] at H; have c6b0 := ct_ c6; clear c6; by_cases c7 : 0 ≤ x4_1
  case neg => rw [if_neg c7] at H; cases H
  rw [if_pos c7] at H; have c7b0 := ct_ c7; clear c7; obtain ⟨⟨t364, t365, t366, t369, t372⟩, A8, H⟩ := ob_ H; by_cases c9 : x4_1 < (x3_1.length : Int)
  case neg => rw [if_neg c9] at H; cases H
  rw [if_pos c9] at H; have c9b0 := ct_ c9; clear c9; obtain ⟨y375, hy375⟩ : ∃ y_ : List (S58), y_ = (x3_1.set (x4_1 : Int).toNat (⟨t364, t365, t366, t369, t372⟩ : S58)) := ⟨_, rfl⟩; rw [← hy375] at H; (try rw [Option.bind_some] at H); have Ny375 := a_ hy375; clear hy375; have H' := a_ H; clear H; have p363 : 0 ≤ (x4_1 : Int) := md_
  have q363 : x4_1 < (l0.length : Int) := md_
  obtain ⟨ad363, A363_2, c363_2, A363_3, c363_3, A363_4, c363_4, e363, hx363_0, hx363_1, hx363_2, hx363_3, hx363_4, hl363_2, hi363_2, hl363_3, hi363_3, hl363_4, hi363_4⟩ := at_T50 HR0.out x4_1 p363 q363; cases e363; replace hx363_0 := mx_ HB hx363_0; replace hx363_1 := mx_ HB hx363_1; replace hx363_2 := mx_ HB hx363_2; replace hx363_3 := mx_ HB hx363_3; replace hx363_4 := mx_ HB hx363_4; have HR363_2 := a_ hi363_2; have HC363_2 := a_ hl363_2; clear hi363_2 hl363_2; have HR363_3 := a_ hi363_3; have HC363_3 := a_ hl363_3; clear hi363_3 hl363_3; have HR363_4 := a_ hi363_4; have HC363_4 := a_ hl363_4; clear hi363_4 hl363_4; replace p363 := eq_true p363; replace q363 := eq_true q363; go_wp2_with (first | ((with_reducible refine gate_callee (f := 26) rfl ?_); refine goesL_ (some 20) rfl rfl Tryz.func26 (by kernel_rfl) rfl #[.agg #[.string ((rd_T50 l0 x4_1).f0), .int .i64 ((rd_T50 l0 x4_1).f1), .slice A363_2 ((rd_T50 l0 x4_1).f2).length c363_2, .slice A363_3 ((rd_T50 l0 x4_1).f3).length c363_3, .slice A363_4 ((rd_T50 l0 x4_1).f4).length c363_4]] rfl mw_ ?_; (with_reducible refine (laws_toRule.calls k1 ((rd_T50 l0 x4_1).f0) ((rd_T50 l0 x4_1).f1) _ _ ((rd_T50 l0 x4_1).f2) _ _ ((rd_T50 l0 x4_1).f3) _ _ ((rd_T50 l0 x4_1).f4) t364 t365 t366 t369 t372 _ ?side1 HC363_2.out ?side3 HC363_3.out ?side5 HC363_4.out A8.out).mono ?_); (case side1 => exact mt_ HR363_2 HB); (case side3 => exact mt_ HR363_3 HB); (case side5 => exact mt_ HR363_4 HB); rintro e w11 ⟨v367, v370, v373, rfl, ho0, ho1, ho2, hb⟩; refine ⟨_, rfl, ?_⟩; have HO368 := a_ (Kd.S_lower ho0 (below_size (mb_ HB))); have HO371 := a_ (Kd.R_lower ho1 (below_size (mb_ HB))); have HO374 := a_ (Kd.S_lower ho2 (below_size (mb_ HB))); replace HO_3 := a_ (Kd.R_mono (Kd.R_told (Kd.R_told (Kd.R_told (Kd.R_old (mo_ HO_3.out) hb) (Kd.S_base ho0)) (Kd.R_base ho1)) (Kd.S_base ho2)) (fun _ h_ => h_.1)); replace HB := ms_ HB hb; (try clear hb ho0 ho1 ho2); have p10 : 0 ≤ (x4_1 : Int) := md_; have q10 : (x4_1 : Int) < ((x3_1.length : Int) : Int) := md_; obtain ⟨go10, co10, eo10, gb10, gl10, cl10, HG10⟩ := Kd.R_form HO_3.out (by omega); (first | cases eo10 | (injection eo10 with ea_ en_ ec_; (first | subst ea_ | (injection ea_ with ea_; subst ea_)); subst ec_; clear en_)); have GB10 := a_ gb10; have GG10 := a_ HG10; clear gb10 gl10 HG10; obtain ⟨ce10, hcl10, hM10, hcc10, hfr10⟩ := Kd.R_elem HO_3.out z58 (x4_1 : Int) p10 q10; obtain ⟨ve10_2, ve10_3, ve10_4, rfl, ge10_2, ge10_3, ge10_4⟩ := k58_openM hM10; have hx10_0 : w11.cell? ⟨go10, (x4_1 : Int).toNat * 5, none⟩ = some (.string ((rd_T58 x3_1 x4_1).f0)) := hcc10 0 _ rfl; have hx10_1 : w11.cell? ⟨go10, (x4_1 : Int).toNat * 5 + 1, none⟩ = some (.int .i64 ((rd_T58 x3_1 x4_1).f1)) := hcc10 1 _ rfl; have hx10_2 : w11.cell? ⟨go10, (x4_1 : Int).toNat * 5 + 2, none⟩ = some (ve10_2) := hcc10 2 _ rfl; have hx10_3 : w11.cell? ⟨go10, (x4_1 : Int).toNat * 5 + 3, none⟩ = some (ve10_3) := hcc10 3 _ rfl; have hx10_4 : w11.cell? ⟨go10, (x4_1 : Int).toNat * 5 + 4, none⟩ = some (ve10_4) := hcc10 4 _ rfl; have hf10_0 : w11.frozen? ⟨go10, (x4_1 : Int).toNat * 5, none⟩ = false := hfr10 0; have hf10_1 : w11.frozen? ⟨go10, (x4_1 : Int).toNat * 5 + 1, none⟩ = false := hfr10 1; have hf10_2 : w11.frozen? ⟨go10, (x4_1 : Int).toNat * 5 + 2, none⟩ = false := hfr10 2; have hf10_3 : w11.frozen? ⟨go10, (x4_1 : Int).toNat * 5 + 3, none⟩ = false := hfr10 3; have hf10_4 : w11.frozen? ⟨go10, (x4_1 : Int).toNat * 5 + 4, none⟩ = false := hfr10 4; clear hcl10 hcc10 hfr10; (try clear hM10); replace p10 := eq_true p10; replace q10 := eq_true q10; have n_ := a_ (Kd.R_mono (ok' := (fun k_ => some k_ ≠ (v367 : Value).ownBlock ∧ some k_ ≠ (v370 : Value).ownBlock ∧ some k_ ≠ (v373 : Value).ownBlock)) HO_3.out (fun k_ hk => ⟨hk.1.1.2, ⟨hk.1.2, hk.2⟩⟩)); clear HO_3; have HO_3 := n_; clear n_; have HX12 := a_ (show Kd.R k58 58 w11 w.heap.size (fun _ => True) (.slice (some ⟨go10, 0, none⟩) x3_1.length co10) x3_1 from (mo_ (Kd.R_mono HO_3.out (fun _ hk => trivial)))); obtain ⟨ce12, hcl12, hM12, hcc12, hfr12⟩ := Kd.R_elem HX12.out z58 (x4_1 : Int) (md_) (by have h_ : (x4_1 : Int) < ((x3_1.length : Int) : Int) := md_; first | exact h_ | (have e_ := (Kd.R_reads' HO_3.out).1; omega) | simpa using h_); obtain ⟨ve12_2, ve12_3, ve12_4, rfl, ge12_2, ge12_3, ge12_4⟩ := k58_openM hM12; have HP12 := Kd.R_seg HX12.out (x4_1 : Int) (md_) (by have h_ : (x4_1 : Int) < ((x3_1.length : Int) : Int) := md_; first | exact h_ | (have e_ := (Kd.R_reads' HO_3.out).1; omega) | simpa using h_) (seg := [.string t364, .int .i64 t365, v367, v370, v373]) (j := 0) hcl12 hcc12 (show 5 ≤ 5 from by decide) (x' := (⟨t364, t365, t366, t369, t372⟩ : S58)) (k58_mkM _ _ _ (⟨t364, t365, t366, t369, t372⟩ : S58) (Kd.R_mono (Kd.R_apart' ((Kd.S_R HO368.out)) (Kd.R_typed HO_3.out) (by decide)) (fun k_ hk => ⟨trivial, fun e_ => (hk.2) (by rw [e_]; rfl)⟩)) (Kd.R_mono (Kd.R_apart' (HO371.out) (Kd.R_typed HO_3.out) (by decide)) (fun k_ hk => ⟨trivial, fun e_ => (hk.2) (by rw [e_]; rfl)⟩)) (Kd.R_mono (Kd.R_apart' ((Kd.S_R HO374.out)) (Kd.R_typed HO_3.out) (by decide)) (fun k_ hk => ⟨trivial, fun e_ => (hk.2) (by rw [e_]; rfl)⟩))) (fun _ hk => hk); have hx12_0 := hcc12 0 _ rfl; (try simp only [show (k58).sz = 5 from rfl, Nat.mul_one, Nat.add_zero] at hx12_0); have hf12_0 := hfr12 0; (try simp only [show (k58).sz = 5 from rfl, Nat.mul_one, Nat.add_zero] at hf12_0); have hx12_1 := hcc12 1 _ rfl; (try simp only [show (k58).sz = 5 from rfl, Nat.mul_one, Nat.add_zero] at hx12_1); have hf12_1 := hfr12 1; (try simp only [show (k58).sz = 5 from rfl, Nat.mul_one, Nat.add_zero] at hf12_1); have hx12_2 := hcc12 2 _ rfl; (try simp only [show (k58).sz = 5 from rfl, Nat.mul_one, Nat.add_zero] at hx12_2); have hf12_2 := hfr12 2; (try simp only [show (k58).sz = 5 from rfl, Nat.mul_one, Nat.add_zero] at hf12_2); have hx12_3 := hcc12 3 _ rfl; (try simp only [show (k58).sz = 5 from rfl, Nat.mul_one, Nat.add_zero] at hx12_3); have hf12_3 := hfr12 3; (try simp only [show (k58).sz = 5 from rfl, Nat.mul_one, Nat.add_zero] at hf12_3); have hx12_4 := hcc12 4 _ rfl; (try simp only [show (k58).sz = 5 from rfl, Nat.mul_one, Nat.add_zero] at hx12_4); have hf12_4 := hfr12 4; (try simp only [show (k58).sz = 5 from rfl, Nat.mul_one, Nat.add_zero] at hf12_4); clear hcl12 hcc12 hfr12; (try clear hM12)) | ((with_reducible refine gate_store (t := 58) (p := 21) rfl ?_); refine store_event (t := 58) (p := 21) (v := ?vo_w13) (w1 := (((((w11.setCell ⟨go10, (x4_1 : Int).toNat * 5, none⟩ (.string t364)).setCell ⟨go10, (x4_1 : Int).toNat * 5 + 1, none⟩ (.int .i64 t365)).setCell ⟨go10, (x4_1 : Int).toNat * 5 + 2, none⟩ (v367)).setCell ⟨go10, (x4_1 : Int).toNat * 5 + 3, none⟩ (v370)).setCell ⟨go10, (x4_1 : Int).toNat * 5 + 4, none⟩ (v373))) ?hg ?ho ?hn ?hr ?_; (case ho => rfl); (case hg => rfl); (case hn => rfl); (case hr => first | (go_simp; done) | (go_simp; rfl) | ((obtain ⟨As0_, cs0_, es0_⟩ := (by first | exact Kd.R_slice (Kd.S_R (Aside0.out (by with_reducible assumption : Aside0 (Kd.S _ _ _ _ _ v367 _)))) | exact Kd.R_slice (Aside0.out (by with_reducible assumption : Aside0 (Kd.R _ _ _ _ _ v367 _))) | exact Kd.R_slice (Aside0.out ‹Aside0 (Kd.R _ _ _ _ _ v367 _)›) : ∃ A_ c_, v367 = Value.slice A_ _ c_)); subst es0_; (obtain ⟨As1_, cs1_, es1_⟩ := (by first | exact Kd.R_slice (Kd.S_R (Aside0.out (by with_reducible assumption : Aside0 (Kd.S _ _ _ _ _ v370 _)))) | exact Kd.R_slice (Aside0.out (by with_reducible assumption : Aside0 (Kd.R _ _ _ _ _ v370 _))) | exact Kd.R_slice (Aside0.out ‹Aside0 (Kd.R _ _ _ _ _ v370 _)›) : ∃ A_ c_, v370 = Value.slice A_ _ c_)); subst es1_; (obtain ⟨As2_, cs2_, es2_⟩ := (by first | exact Kd.R_slice (Kd.S_R (Aside0.out (by with_reducible assumption : Aside0 (Kd.S _ _ _ _ _ v373 _)))) | exact Kd.R_slice (Aside0.out (by with_reducible assumption : Aside0 (Kd.R _ _ _ _ _ v373 _))) | exact Kd.R_slice (Aside0.out ‹Aside0 (Kd.R _ _ _ _ _ v373 _)›) : ∃ A_ c_, v373 = Value.slice A_ _ c_)); subst es2_; go_simp; done) | ((obtain ⟨As0_, cs0_, es0_⟩ := (by first | exact Kd.R_slice (Kd.S_R (Aside0.out (by with_reducible assumption : Aside0 (Kd.S _ _ _ _ _ v367 _)))) | exact Kd.R_slice (Aside0.out (by with_reducible assumption : Aside0 (Kd.R _ _ _ _ _ v367 _))) | exact Kd.R_slice (Aside0.out ‹Aside0 (Kd.R _ _ _ _ _ v367 _)›) : ∃ A_ c_, v367 = Value.slice A_ _ c_)); subst es0_; (obtain ⟨As1_, cs1_, es1_⟩ := (by first | exact Kd.R_slice (Kd.S_R (Aside0.out (by with_reducible assumption : Aside0 (Kd.S _ _ _ _ _ v370 _)))) | exact Kd.R_slice (Aside0.out (by with_reducible assumption : Aside0 (Kd.R _ _ _ _ _ v370 _))) | exact Kd.R_slice (Aside0.out ‹Aside0 (Kd.R _ _ _ _ _ v370 _)›) : ∃ A_ c_, v370 = Value.slice A_ _ c_)); subst es1_; (obtain ⟨As2_, cs2_, es2_⟩ := (by first | exact Kd.R_slice (Kd.S_R (Aside0.out (by with_reducible assumption : Aside0 (Kd.S _ _ _ _ _ v373 _)))) | exact Kd.R_slice (Aside0.out (by with_reducible assumption : Aside0 (Kd.R _ _ _ _ _ v373 _))) | exact Kd.R_slice (Aside0.out ‹Aside0 (Kd.R _ _ _ _ _ v373 _)›) : ∃ A_ c_, v373 = Value.slice A_ _ c_)); subst es2_; go_simp; rfl)); intro w13 hw; have hg : w11.grownBy w13 (some go10) := (by rw [hw]; exact HP12.2); have hp_ : Kd.R k58 58 w13 w.heap.size (fun _ => True) (.slice (some ⟨go10, 0, none⟩) x3_1.length co10) y375 := (by rw [hw, Ny375.out]; exact HP12.1); clear HP12; replace HO_3 := a_ (hp_); replace HB := a_ ((by rw [hw]; exact below_set (below_set (below_set (below_set (below_set (HB.out) GB10.out) GB10.out) GB10.out) GB10.out) GB10.out : Below w.heap.size w w13)); clear HO368 HO371 HO374; clear hg hw hp_))
  go_roundg k1
  case measure => have := HK1.out; omega
  case rel => exact ⟨(y375), (wrap64 (x4_1 + 1)), mq_, H', ⟨by have := HK1.out; omega⟩, ⟨mo_ HO_3.out⟩, ⟨mb_ HB⟩⟩
 ·rw [if_neg c6] at H; have c6b0 := cf_ c6; clear c6; obtain rfl := oi_ H; go_wp2; go_ret; exact ⟨_, me_, mo_ HO_3.out, mb_ HB⟩
def laws_toInst.f (k : Nat) (a0_0 : Int) (l0_1 : List Int) : Option (Int × List Int) := (laws_toIntS.f k l0_1).bind fun t379 => (some (a0_0, t379))
theorem laws_toInst.mono : ∀ a0 a1 k, LeO (laws_toInst.f k a0 a1) (laws_toInst.f (k + 1) a0 a1) := by
 intro a0 a1 k; unfold laws_toInst.f
 repeat' with_reducible first | apply laws_toIntS.mono | apply LeO.refl | apply LeO.none | refine LeO.ite ?_ ?_ | refine LeO.bind ?_ (fun _ => ?_)
set_option maxHeartbeats 8000000 in
set_option maxRecDepth 100000 in
theorem laws_toInst.calls (k : Nat) (a0_0 : Int) (A0_1 : Option Addr) (c0_1 : Nat) (l0_1 : List Int) (r1 : Int) (r2 : List Int) (w : World) (hr0_1 : Kd.C (Kd.int .i64) w A0_1 l0_1.length l0_1) (hc0_1 : l0_1.length ≤ c0_1) (h : laws_toInst.f k a0_0 l0_1 = some (r1, r2)) :
  Calls Tryz.prog 9 #[.agg #[.int .i64 a0_0, .slice A0_1 l0_1.length c0_1]] w fun e w' => ∃ v1_ : Value, e = .returned (.agg #[.int .i64 r1, v1_]) ∧ Kd.R (Kd.int .i64) 3 w' w.heap.size (fun _ => True) v1_ r2 ∧ Below w.heap.size w w' := by
 have hu25 := Tryz.underlying25; have hu31 := Tryz.underlying31; have HR0_1 := a_ hr0_1; have HC0_1 := a_ hc0_1; clear hr0_1 hc0_1; have HB := a_ (Below.refl w.heap.size w); have H : ((laws_toIntS.f k l0_1).bind fun t379 => (some (a0_0, t379))) = some (r1, r2) := h
 clear h; obtain ⟨t379, A2, H⟩ := ob_ H; simp only [Option.some.injEq, Prod.mk.injEq] at H; obtain ⟨rfl, rfl⟩ := H; go_enter Tryz.func9, Tryz.ntmps9; go_wp2_with (first | ((with_reducible refine gate_dst (N := 1) rfl ?_); refine bh_ 1 #[.int .i64 a0_0, .slice A0_1 l0_1.length c0_1] 25 HB ?_; intro gb376 hg w3 BK376 GE376 hb; replace HB := ms_ HB hb; clear hb hg) | ((with_reducible refine gate_dst (N := 2) rfl ?_); refine bh_ 2 #[.int .i64 0, .slice none 0 0] 31 HB ?_; intro gb377 hg w4 BK377 GE377 hb; obtain ⟨NB376_377, NB377_376⟩ := mn_ BK376 hg; replace BK376 := mk_ BK376 hb; replace HB := ms_ HB hb; clear hb hg) | ((with_reducible refine gate_dst (N := 3) rfl ?_); refine bh_ 3 #[.int .i64 0, .slice none 0 0] 31 HB ?_; intro gb378 hg w5 BK378 GE378 hb; obtain ⟨NB376_378, NB378_376⟩ := mn_ BK376 hg; obtain ⟨NB377_378, NB378_377⟩ := mn_ BK377 hg; replace BK376 := mk_ BK376 hb; replace BK377 := mk_ BK377 hb; replace HB := ms_ HB hb; clear hb hg; have hnb6 := NB376_377.out; have hnc6 := NB377_376.out; have hnb7 := NB376_378.out; have hnc7 := NB378_376.out; obtain ⟨z8_0, z8_1, zf8_0, zf8_1⟩ := cz2 BK376; have hnb9 := NB378_377.out; have hnc9 := NB377_378.out; obtain ⟨z10_0, z10_1, zf10_0, zf10_1⟩ := cz2 BK378) | ((with_reducible refine gate_callee (f := 27) rfl ?_); refine goesL_ (some 9) rfl rfl Tryz.func27 (by kernel_rfl) rfl #[.slice A0_1 l0_1.length c0_1] rfl mw_ ?_; (with_reducible refine (laws_toIntS.calls k _ _ l0_1 t379 _ ?side1 HC0_1.out A2.out).mono ?_); (case side1 => exact Kd.C_below HR0_1.out (mb_ HB)); rintro e w11 ⟨v380, rfl, ho0, hb⟩; refine ⟨_, rfl, ?_⟩; have HO381 := a_ (Kd.R_lower ho0 (below_size (mb_ HB))); replace BK376 := mk_ BK376 hb; replace BK377 := mk_ BK377 hb; replace BK378 := a_ (blk_below (g := gb378) (o := .cells #[.int .i64 a0_0, .slice none 0 0] 31 (0, 0)) (mp_ BK378) hb); replace HB := ms_ HB hb; (try clear hb ho0); obtain ⟨Ao12, co12, eo12⟩ := Kd.R_slice HO381.out; subst eo12; obtain ⟨z13_0, z13_1, zf13_0, zf13_1⟩ := cz2 BK378; obtain ⟨z14_0, z14_1, zf14_0, zf14_1⟩ := cz2 BK377)); refine bodyPost_ret (results_cell_row rfl _ _ gb377 31 #[.int .i64 a0_0, .slice Ao12 t379.length co12] (0, 0) _ rfl (mp_ BK377) Tryz.underlying31 rfl (by kernel_rfl)) rfl ?_; exact ⟨_, me_, mo_ (Kd.R_mono (Kd.R_far (p := ⟨gb377, 1, none⟩) (Kd.R_far (p := ⟨gb377, 0, none⟩) (Kd.R_far (p := ⟨gb378, 1, none⟩) (Kd.R_types (Kd.R_types HO381.out BK378.out (by decide)) BK377.out (by decide)) (fun _ hk => hk.1.2) (.slice Ao12 t379.length co12)) (fun _ hk => hk.2) (.int .i64 a0_0)) (fun _ hk => hk.2) (.slice Ao12 t379.length co12)) (fun _ hk => trivial)), mb_ HB⟩
def impl_there.f (l0 : List (S58)) (a1_0 : Int) (l1_1 : List Int) : Option (Bool) := if a1_0 ≥ 0 then (if a1_0 < (l0.length : Int) then (some (decide ((l1_1.length : Int) ≤ 3))) else (some false)) else (some false)
set_option maxHeartbeats 8000000 in
set_option maxRecDepth 100000 in
theorem impl_there.calls (A0 : Option Addr) (c0 : Nat) (l0 : List (S58)) (a1_0 : Int) (A1_1 : Option Addr) (c1_1 : Nat) (l1_1 : List Int) (r : Bool) (w : World) (hr0 : Kd.C k58 w A0 l0.length l0) (hc0 : l0.length ≤ c0) (hr1_1 : Kd.C (Kd.int .i64) w A1_1 l1_1.length l1_1) (hc1_1 : l1_1.length ≤ c1_1) (h : impl_there.f l0 a1_0 l1_1 = some r) :
  Calls Tryz.prog 28 #[.slice A0 l0.length c0, .agg #[.int .i64 a1_0, .slice A1_1 l1_1.length c1_1]] w fun e w' => e = .returned (.bool r) ∧ Below w.heap.size w w' := by
 have hu31 := Tryz.underlying31; have HR0 := a_ hr0; have HC0 := a_ hc0; clear hr0 hc0; have HR1_1 := a_ hr1_1; have HC1_1 := a_ hc1_1; clear hr1_1 hc1_1; have HB := a_ (Below.refl w.heap.size w); have H : (if a1_0 ≥ 0 then (if a1_0 < (l0.length : Int) then (some (decide ((l1_1.length : Int) ≤ 3))) else (some false)) else (some false)) = some r := h
 clear h; by_cases c3 : a1_0 ≥ 0
 ·rw [if_pos c3] at H; have c3b0 := ct_ c3; clear c3; by_cases c4 : a1_0 < (l0.length : Int)
  ·rw [if_pos c4] at H; have c4b0 := ct_ c4; clear c4; obtain rfl := oi_ H; go_enter Tryz.func28, Tryz.ntmps28; go_wp2_with (first | ((with_reducible refine gate_dst (N := 3) rfl ?_); (try (refine gate_guard (by rfl) ?_; dsimp only)); refine bh_ 3 #[.int .i64 a1_0, .slice A1_1 l1_1.length c1_1] 31 HB ?_; intro gb382 hg w5 BK382 GE382 hb; replace HB := ms_ HB hb; clear hb hg; obtain ⟨z6_0, z6_1, zf6_0, zf6_1⟩ := cz2 BK382)); go_ret; exact ⟨me_, mb_ HB⟩
  ·rw [if_neg c4] at H; have c4b0 := cf_ c4; clear c4; obtain rfl := oi_ H; go_enter Tryz.func28, Tryz.ntmps28; go_wp2_with (first | ((with_reducible refine gate_dst (N := 3) rfl ?_); (try (refine gate_guard (by rfl) ?_; dsimp only)); refine bh_ 3 #[.int .i64 a1_0, .slice A1_1 l1_1.length c1_1] 31 HB ?_; intro gb382 hg w7 BK382 GE382 hb; replace HB := ms_ HB hb; clear hb hg; obtain ⟨z8_0, z8_1, zf8_0, zf8_1⟩ := cz2 BK382)); go_ret; exact ⟨me_, mb_ HB⟩
 ·rw [if_neg c3] at H; have c3b0 := cf_ c3; clear c3; obtain rfl := oi_ H; go_enter Tryz.func28, Tryz.ntmps28; go_wp2_with (first | ((with_reducible refine gate_dst (N := 3) rfl ?_); (try (refine gate_guard (by rfl) ?_; dsimp only)); refine bh_ 3 #[.int .i64 a1_0, .slice A1_1 l1_1.length c1_1] 31 HB ?_; intro gb382 hg w9 BK382 GE382 hb; replace HB := ms_ HB hb; clear hb hg; obtain ⟨z10_0, z10_1, zf10_0, zf10_1⟩ := cz2 BK382)); go_ret; exact ⟨me_, mb_ HB⟩
end Go.Proofs.YtejjlkbbnhpbdaaGreat.P
namespace Go.Proofs.YtejjlkbbnhpbdaaGreatX
open Go.RowKit Go.Proofs.YtejjlkbbnhpbdaaGreatW.PrintWords
set_option linter.unusedVariables false
set_option linter.unusedSimpArgs false
def okInt (x : Int) : Prop := -9223372036854775808 ≤ x ∧ x ≤ 9223372036854775807
def okByte (x : Int) : Prop := 0 ≤ x ∧ x ≤ 255
def okIntS (xs : List Int) : Prop := xs.length ≤ 9223372036854775807 ∧ ∀ x, x ∈ xs → okInt x
theorem wrap_succ {i n : Nat} (h : i < n) (hn : n ≤ 9223372036854775807) : wrap64 ((i : Int) + 1) = ((i + 1 : Nat) : Int) := by
 unfold wrap64
 omega
theorem up_ind {n : Nat} {P : Nat → Prop} (he : P n) (hs : ∀ i, i < n → P (i + 1) → P i) : ∀ i, i ≤ n → P i := by
 intro i hi; obtain ⟨d, hd⟩ : ∃ d, n = i + d := ⟨n - i, by omega⟩; induction d generalizing i with
 | zero => rw [show i = n by omega]; exact he
 | succ d ih => exact hs i (by omega) (ih (i + 1) (by omega) (by omega))
theorem getD_lt {α : Type} {xs : List α} {i : Nat} (z : α) (h : i < xs.length) : xs.getD i z = xs[i] := by
 rw [List.getD_eq_getElem?_getD, List.getElem?_eq_getElem h]; rfl
theorem drop_getD {α : Type} {xs : List α} {i : Nat} (z : α) (h : i < xs.length) : xs.drop i = xs.getD i z :: xs.drop (i + 1) := by
 rw [getD_lt z h]; exact List.drop_eq_getElem_cons h
theorem getD_in {α : Type} {xs : List α} {k : Nat} (z : α) (h : k < xs.length) : xs.getD k z ∈ xs := by
 rw [getD_lt z h]; exact List.getElem_mem h
def szv (t : Nat) (left : Int) : Int := if (t : Int) ≤ left then left - t else -1
theorem szv_pos {t : Nat} {left : Int} (h : (t : Int) ≤ left) : szv t left = left - t := if_pos h
theorem szv_neg {t : Nat} {left : Int} (h : left < t) : szv t left = -1 := if_neg (by omega)
theorem wrap_left {left : Int} {a : Nat} (h0 : 0 ≤ left) (h1 : left ≤ 1048576) (ha : a ≤ 9223372036854775807) : wrap64 (left - (a : Int)) = left - a := by
 unfold wrap64
 omega
theorem sz_loop {α : Type} (xs : List α) (z : α) (tz : α → Nat) (L : Nat → Int → Int → Option Int)
  (hstep : ∀ (i : Nat) (left r : Int), i < xs.length → 0 ≤ left → left ≤ 1048576 → (left < tz (xs.getD i z) → r = -1) →
   ((tz (xs.getD i z) : Int) ≤ left → Ev (fun k => L k (left - tz (xs.getD i z)) ((i + 1 : Nat) : Int)) r) → Ev (fun k => L k left (i : Int)) r)
  (hend : ∀ left, Ev (fun k => L k left (xs.length : Int)) left) :
  ∀ left, 0 ≤ left → left ≤ 1048576 → Ev (fun k => L k left 0) (szv (xs.map tz).sum left) := by
 have key : ∀ i, i ≤ xs.length → ∀ left, 0 ≤ left → left ≤ 1048576 → Ev (fun k => L k left (i : Int)) (szv ((xs.drop i).map tz).sum left) := by
  refine up_ind ?_ ?_
  ·intro left h0 h1; rw [List.drop_length, List.map_nil, List.sum_nil, szv_pos (by omega)]; rw [show left - ((0 : Nat) : Int) = left by omega]; exact hend left
  ·intro i hi ih left h0 h1; rw [drop_getD z hi, List.map_cons, List.sum_cons]; refine hstep i left _ hi h0 h1 (fun h => szv_neg (by omega)) (fun h => ?_)
   have e : szv (tz (xs.getD i z) + ((xs.drop (i + 1)).map tz).sum) left = szv ((xs.drop (i + 1)).map tz).sum (left - tz (xs.getD i z)) := by
    unfold szv
    split <;> split <;> omega
   rw [e]; exact ih _ (by omega) (by omega)
 intro left h0 h1; have := key 0 (Nat.zero_le _) left h0 h1
 rw [List.drop_zero] at this; exact this
theorem to_loop {α β : Type} (xs : List α) (z : α) (f : α → β) (L : Nat → List β → Int → Option (List β))
  (hstep : ∀ (i : Nat) (out r : List β), i < xs.length → out.length = xs.length → Ev (fun k => L k (out.set i (f (xs.getD i z))) ((i + 1 : Nat) : Int)) r → Ev (fun k => L k out (i : Int)) r)
  (hend : ∀ out, out.length = xs.length → Ev (fun k => L k out (xs.length : Int)) out) : ∀ out, out.length = xs.length → Ev (fun k => L k out 0) (xs.map f) := by
 have key : ∀ i, i ≤ xs.length → ∀ out : List β, out.length = xs.length → Ev (fun k => L k out (i : Int)) (out.take i ++ (xs.drop i).map f) := by
  refine up_ind ?_ ?_
  ·intro out ho; rw [List.drop_length, List.map_nil, List.append_nil, ← ho, List.take_length, ho]; exact hend out ho
  ·intro i hi ih out ho; refine hstep i out _ hi ho ?_; have := ih (out.set i (f (xs.getD i z))) (by simpa using ho)
   have e : (out.set i (f (xs.getD i z))).take (i + 1) ++ (xs.drop (i + 1)).map f = out.take i ++ (xs.drop i).map f := by
    rw [drop_getD z hi, List.map_cons, List.take_succ_eq_append_getElem (by simpa [ho] using hi), List.take_set_of_le (Nat.le_refl i)]; simp
   rw [e] at this; exact this
 intro out ho; have := key 0 (Nat.zero_le _) out ho
 simpa using this
theorem eq_loop (n : Nat) (L : Nat → Int → Option Bool) (hstep : ∀ i : Nat, i < n → Ev (fun k => L k ((i + 1 : Nat) : Int)) true → Ev (fun k => L k (i : Int)) true)
  (hend : Ev (fun k => L k (n : Int)) true) : Ev (fun k => L k 0) true := by
 have := up_ind (P := fun i => Ev (fun k => L k (i : Int)) true) hend (fun i hi h => hstep i hi h) 0 (Nat.zero_le _)
 exact this
theorem sum_le_of_mem {α : Type} (f : α → Nat) : ∀ (xs : List α) (x : α), x ∈ xs → f x ≤ (xs.map f).sum
 | [], x, h => absurd h (by simp)
 | y :: ys, x, h => by
  rw [List.map_cons, List.sum_cons]; rcases List.mem_cons.1 h with h | h
  ·rw [h]; omega
  ·have := sum_le_of_mem f ys x h; omega
end Go.Proofs.YtejjlkbbnhpbdaaGreatX
namespace Go.Proofs.YtejjlkbbnhpbdaaGreatX
open Go.RowKit Go.Proofs.YtejjlkbbnhpbdaaGreatW.PrintWords
set_option linter.unusedVariables false
set_option linter.unusedSimpArgs false
def symOk (c : Int) : Bool := (decide (97 ≤ c) && decide (c ≤ 122)) || (decide (48 ≤ c) && decide (c ≤ 57)) || c == 45
def symFrom (s : ByteArray) (i : Nat) : Bool := ((List.range s.size).drop i).all fun j => symOk (bt s j)
def goodSymB (s : ByteArray) : Bool := if s.size = 0 then false else if 20 < s.size then false else if bt s 0 < 97 then false else if 122 < bt s 0 then false else symFrom s 0
theorem symFrom_end (s : ByteArray) : symFrom s s.size = true := by
 unfold symFrom
 rw [List.drop_of_length_le (by simp)]; rfl
theorem symFrom_step (s : ByteArray) (i : Nat) (h : i < s.size) : symFrom s i = (symOk (bt s i) && symFrom s (i + 1)) := by
 unfold symFrom
 rw [List.drop_eq_getElem_cons (by simpa using h), List.all_cons]; simp
theorem high_rune (s : ByteArray) (pos : Nat) (h : pos < s.size) (hb : 128 ≤ (s[pos]'h).toNat) : 128 ≤ (Utf8.decode s pos).1 := by
 have hg : (s.get! (pos + 0)).toNat = (s[pos]'h).toNat := by
  rw [Nat.add_zero]; show (s.data[pos]!).toNat = _; rw [getElem!_pos s.data pos h]; rfl
 unfold Utf8.decode
 simp only [hg]; generalize (s[pos]'h).toNat = b at hb; generalize (s.get! (pos + 1)).toNat = b1; generalize (s.get! (pos + 2)).toNat = b2; generalize (s.get! (pos + 3)).toNat = b3; rw [if_neg (by omega)]; repeat' split
 all_goals first | (simp only [Utf8.runeError]; omega) | (rename_i h1; simp only [Bool.and_eq_true, decide_eq_true_eq] at h1; simp only []; omega) | (simp only []; omega)
theorem sym_decode (s : ByteArray) (pos : Nat) (h : pos < s.size) : symOk ((Utf8.decode s pos).1 : Int) = symOk (bt s pos) ∧ (symOk (bt s pos) = true → (Utf8.decode s pos).2 = 1) := by
 have hb : bt s (pos : Int) = ((s[pos]'h).toNat : Int) := (bt_at s pos (by simpa using h)).symm
 by_cases c : (s[pos]'h).toNat < 128
 ·rw [decode_ascii s pos h c, hb]; exact ⟨rfl, fun _ => rfl⟩
 ·have h1 := high_rune s pos h (by omega)
  have f1 : symOk ((Utf8.decode s pos).1 : Int) = false := by
   simp [symOk]; omega
  have f2 : symOk (bt s (pos : Int)) = false := by
   rw [hb]; simp [symOk]; omega
  rw [f1, f2]; exact ⟨rfl, fun h => by cases h⟩
end Go.Proofs.YtejjlkbbnhpbdaaGreatX
namespace Go.Proofs.YtejjlkbbnhpbdaaGreat.P
open Go.Proofs.YtejjlkbbnhpbdaaGreatX
open Go.RowKit Go.Proofs.YtejjlkbbnhpbdaaGreatW.PrintWords Go.Proofs.YtejjlkbbnhpbdaaGreatW.PrintLast Go.Proofs.YtejjlkbbnhpbdaaGreatW.PrintMore
attribute [local go_sem] max2_int min2_int max_two min_two max_three min_three max_four min_four
set_option linter.unusedVariables false
set_option linter.unusedSimpArgs false
open Go.Proofs.YtejjlkbbnhpbdaaGreatX in
def impl_goodSym.f (a0 : ByteArray) : Option Bool := some (goodSymB a0)
open Go.Proofs.YtejjlkbbnhpbdaaGreatX in
set_option maxHeartbeats 4000000 in
set_option maxRecDepth 100000 in
theorem impl_goodSym.calls (a0 : ByteArray) (r : Bool) (w : World) (h : impl_goodSym.f a0 = some r) :
  Calls Tryz.prog 95 #[.string a0] w fun e w' => e = .returned (.bool r) ∧ Below w.heap.size w w' := by
 have h := Option.some.inj h; subst h; have HB := a_ (Below.refl w.heap.size w); by_cases h1 : a0.size = 0
 ·have hv : goodSymB a0 = false := by unfold goodSymB; rw [if_pos h1]
  rw [hv]; have q1 : a0.toList = [] := by rw [ByteArray.toList_eq]; exact List.eq_nil_of_length_eq_zero (by rw [Array.length_toList]; exact h1)
  clear h1 hv; go_enter Tryz.func95, Tryz.ntmps95; go_wp2; go_ret; exact ⟨rfl, HB.out⟩
 have hz : 0 < a0.size := by omega
 have hzz : ¬ (a0.toList = []) := by
  intro e; rw [ByteArray.toList_eq] at e; have := congrArg List.length e
  rw [Array.length_toList] at this; exact h1 this
 have q1 : (a0.toList.isEmpty) = false := by simpa using hzz
 have hbt : ∀ h : 0 < a0.size, ((a0[0]'h).toNat : Int) = bt a0 0 := bt_at a0 0
 by_cases h2 : 20 < a0.size
 ·have hv : goodSymB a0 = false := by unfold goodSymB; rw [if_neg h1, if_pos h2]
  rw [hv]; have q2 : decide (20 < (a0.size : Int)) = true := decide_eq_true (by omega)
  clear h1 h2 hv; go_enter Tryz.func95, Tryz.ntmps95; go_wp2; go_ret; exact ⟨rfl, HB.out⟩
 have q2 : decide (20 < (a0.size : Int)) = false := decide_eq_false (by omega)
 by_cases h3 : bt a0 0 < 97
 ·have hv : goodSymB a0 = false := by unfold goodSymB; rw [if_neg h1, if_neg h2, if_pos h3]
  rw [hv]; have q3 : decide (bt a0 0 < 97) = true := decide_eq_true h3
  clear h1 h2 h3 hv; go_enter Tryz.func95, Tryz.ntmps95; go_wp2; go_ret; exact ⟨rfl, HB.out⟩
 have q3 : decide (bt a0 0 < 97) = false := decide_eq_false h3
 by_cases h4 : 122 < bt a0 0
 ·have hv : goodSymB a0 = false := by unfold goodSymB; rw [if_neg h1, if_neg h2, if_neg h3, if_pos h4]
  rw [hv]; have q4 : decide (122 < bt a0 0) = true := decide_eq_true h4
  clear h1 h2 h3 h4 hv; go_enter Tryz.func95, Tryz.ntmps95; go_wp2; go_ret; exact ⟨rfl, HB.out⟩
 have q4 : decide (122 < bt a0 0) = false := decide_eq_false h4
 have hv : goodSymB a0 = symFrom a0 0 := by unfold goodSymB; rw [if_neg h1, if_neg h2, if_neg h3, if_neg h4]
 rw [hv]; have HS := a_ (show a0.size ≤ 20 by omega); clear h1 h2 h3 h4 hv; go_enter Tryz.func95, Tryz.ntmps95; go_wp2; clear q1 q2 q3 q4 hzz hbt; go_loopw [4] (fun _ wr => ∃ pos : Nat, wr.heap[w.heap.size]? = some (.stringIter a0 pos) ∧ Aside0 (pos ≤ a0.size) ∧ Aside0 (Below w.heap.size w wr) ∧ Aside0 (symFrom a0 0 = symFrom a0 pos)) (fun _ wr => a0.size - wr.iterPos w.heap.size)
 case atStart => exact ⟨0, World.iter_heap w a0 0, ⟨Nat.zero_le _⟩, ⟨(Below.refl _ _).alloc (Nat.le_refl _) _⟩, ⟨rfl⟩⟩
 obtain ⟨pos, hit, hle, BW, MI⟩ := hrel; have hpos0 : wr.iterPos w.heap.size = pos := by simp [World.iterPos, hit]
 by_cases hp : pos < a0.size
 ·have hnx : ∀ ty, (Instr.next (.pointer (some ⟨w.heap.size, 0, none⟩)) true ty).run Tryz.prog wr = _ := fun ty => Lib.run_next_any_at wr w.heap.size a0 pos ty hit hp
  have hit2 := Lib.iterAt_heap wr w.heap.size a0 pos (pos + (Utf8.decode a0 pos).2) hit; have hbw2 := a_ (Lib.below_iterAt BW.out (k := w.heap.size) (Nat.le_refl _) a0 (pos + (Utf8.decode a0 pos).2)); obtain ⟨W1, hW1⟩ : ∃ W1, W1 = wr.iterAt w.heap.size a0 (pos + (Utf8.decode a0 pos).2) := ⟨_, rfl⟩; rw [← hW1] at hnx hit2 hbw2; have hsy := a_ (sym_decode a0 pos hp); have hst := a_ (symFrom_step a0 pos hp); have hlo : (0 : Int) ≤ ((Utf8.decode a0 pos).1 : Int) := by omega
  have hhi : ((Utf8.decode a0 pos).1 : Int) ≤ 1114111 := by have := Lib.rune_le a0 pos; omega
  have hp' := a_ hp; have hpos := a_ hpos0; clear hW1 hit hp hpos0; generalize hc : ((Utf8.decode a0 pos).1 : Int) = c at hnx hlo hhi hsy; clear hc; by_cases g1 : 97 ≤ c ∧ c ≤ 122
  ·obtain ⟨g1, g2⟩ := g1; have k0 : decide (97 ≤ c) = true := decide_eq_true (by omega)
   have k1 : decide (c ≤ 122) = true := decide_eq_true (by omega)
   have ok : symOk c = true := by simp [symOk]; omega
   have HO := a_ ok; clear ok; go_wp2; go_roundw
   case rel =>
    have e1 := hsy.out; rw [HO.out] at e1; have e2 := e1.2 e1.1.symm; refine ⟨pos + 1, by rw [← e2]; exact hit2, ⟨by have := hp'.out; omega⟩, hbw2, ⟨?_⟩⟩; rw [MI.out, hst.out, ← e1.1]; rfl
   case measure =>
    have e1 := hsy.out; rw [HO.out] at e1; have e2 := e1.2 e1.1.symm; have e3 : W1.iterPos w.heap.size = pos + (Utf8.decode a0 pos).2 := by simp [World.iterPos, hit2]
    have := hp'.out
    have := hpos.out
    omega
  have a1 : (decide (97 ≤ c) = true ∧ decide (c ≤ 122) = false) ∨ decide (97 ≤ c) = false := by
   by_cases e1 : 97 ≤ c
   ·exact .inl ⟨decide_eq_true e1, decide_eq_false (by omega)⟩
   ·exact .inr (decide_eq_false e1)
  by_cases g3 : 48 ≤ c ∧ c ≤ 57
  ·obtain ⟨g3, g4⟩ := g3; clear a1; have k0 : decide (97 ≤ c) = false := decide_eq_false (by omega)
   have k1 : decide (48 ≤ c) = true := decide_eq_true (by omega)
   have k2 : decide (c ≤ 57) = true := decide_eq_true (by omega)
   have ok : symOk c = true := by simp [symOk]; omega
   have HO := a_ ok; clear ok; go_wp2; go_roundw
   case rel =>
    have e1 := hsy.out; rw [HO.out] at e1; have e2 := e1.2 e1.1.symm; refine ⟨pos + 1, by rw [← e2]; exact hit2, ⟨by have := hp'.out; omega⟩, hbw2, ⟨?_⟩⟩; rw [MI.out, hst.out, ← e1.1]; rfl
   case measure =>
    have e1 := hsy.out; rw [HO.out] at e1; have e2 := e1.2 e1.1.symm; have e3 : W1.iterPos w.heap.size = pos + (Utf8.decode a0 pos).2 := by simp [World.iterPos, hit2]
    have := hp'.out
    have := hpos.out
    omega
  by_cases g5 : c = 45
  ·subst g5; clear a1; have k0 : decide ((97 : Int) ≤ 45) = false := decide_eq_false (by omega)
   have k1 : decide ((48 : Int) ≤ 45) = false := decide_eq_false (by omega)
   have ok : symOk 45 = true := by rfl
   have HO := a_ ok; clear ok; go_wp2; go_roundw
   case rel =>
    have e1 := hsy.out; rw [HO.out] at e1; have e2 := e1.2 e1.1.symm; refine ⟨pos + 1, by rw [← e2]; exact hit2, ⟨by have := hp'.out; omega⟩, hbw2, ⟨?_⟩⟩; rw [MI.out, hst.out, ← e1.1]; rfl
   case measure =>
    have e1 := hsy.out; rw [HO.out] at e1; have e2 := e1.2 e1.1.symm; have e3 : W1.iterPos w.heap.size = pos + (Utf8.decode a0 pos).2 := by simp [World.iterPos, hit2]
    have := hp'.out
    have := hpos.out
    omega
  have k5 : (c == 45) = false := beq_eq_false_iff_ne.mpr g5
  have a2 : (decide (48 ≤ c) = true ∧ decide (c ≤ 57) = false) ∨ decide (48 ≤ c) = false := by
   by_cases e1 : 48 ≤ c
   ·exact .inl ⟨decide_eq_true e1, decide_eq_false (by omega)⟩
   ·exact .inr (decide_eq_false e1)
  rcases a1 with ⟨k0, k1⟩ | k0 <;> rcases a2 with ⟨k2, k3⟩ | k2
  all_goals
   have ok : symOk c = false := by simp [symOk]; omega
   have HO := a_ ok; clear ok; go_wp2; go_ret; refine ⟨?_, hbw2.out⟩; have e1 := hsy.out.1; rw [HO.out] at e1; rw [MI.out, hst.out, ← e1]; rfl
 ·have e : pos = a0.size := by have := hle.out; omega
  have hnx : ∀ ty, (Instr.next (.pointer (some ⟨w.heap.size, 0, none⟩)) true ty).run Tryz.prog wr = _ := fun ty => Lib.run_next_end_at wr w.heap.size a0 pos ty hit hp
  have HE := a_ e; clear e hpos0 hp; go_wp2; go_ret; refine ⟨?_, BW.out⟩; rw [MI.out, HE.out, symFrom_end]; rfl
end Go.Proofs.YtejjlkbbnhpbdaaGreat.P
namespace Go.Proofs.YtejjlkbbnhpbdaaGreat.P
open Go.Proofs.YtejjlkbbnhpbdaaGreatX
open Go.RowKit Go.Proofs.YtejjlkbbnhpbdaaGreatW.PrintWords Go.Proofs.YtejjlkbbnhpbdaaGreatW.PrintLast Go.Proofs.YtejjlkbbnhpbdaaGreatW.PrintMore
attribute [local go_sem] max2_int min2_int max_two min_two max_three min_three max_four min_four
set_option linter.unusedVariables false
set_option linter.unusedSimpArgs false
def impl_goodCls.f (a0 : ByteArray) : Option (Bool) := (impl_goodSym.f a0).bind fun t383 => (if t383 = true then (some (a0.toList != ([110, 111, 116] : List UInt8))) else (some false))
set_option maxHeartbeats 8000000 in
set_option maxRecDepth 100000 in
theorem impl_goodCls.calls (a0 : ByteArray) (r : Bool) (w : World) (h : impl_goodCls.f a0 = some r) :
  Calls Tryz.prog 112 #[.string a0] w fun e w' => e = .returned (.bool r) ∧ Below w.heap.size w w' := by
 have HB := a_ (Below.refl w.heap.size w); have H : ((impl_goodSym.f a0).bind fun t383 => (if t383 = true then (some (a0.toList != ([110, 111, 116] : List UInt8))) else (some false))) = some r := h
 clear h; obtain ⟨t383, A2, H⟩ := ob_ H; by_cases c3 : t383 = true
 ·subst c3; rw [if_pos rfl] at H; obtain rfl := oi_ H; go_enter Tryz.func112, Tryz.ntmps112; go_wp2_with (first | ((with_reducible refine gate_callee (f := 95) rfl ?_); refine goesL_ (some 4) rfl rfl Tryz.func95 (by kernel_rfl) rfl #[.string a0] rfl mw_ ?_; (with_reducible refine (impl_goodSym.calls a0 true _ A2.out).mono ?_); rintro e w4 ⟨rfl, hb⟩; refine ⟨_, rfl, ?_⟩; replace HB := ms_ HB hb; (try clear hb))); go_ret; exact ⟨me_, mb_ HB⟩
 ·replace c3 := Bool.eq_false_iff.mpr c3; subst c3; rw [if_neg (show ¬ (false = true) by decide)] at H; obtain rfl := oi_ H; go_enter Tryz.func112, Tryz.ntmps112; go_wp2_with (first | ((with_reducible refine gate_callee (f := 95) rfl ?_); refine goesL_ (some 4) rfl rfl Tryz.func95 (by kernel_rfl) rfl #[.string a0] rfl mw_ ?_; (with_reducible refine (impl_goodSym.calls a0 false _ A2.out).mono ?_); rintro e w5 ⟨rfl, hb⟩; refine ⟨_, rfl, ?_⟩; replace HB := ms_ HB hb; (try clear hb))); go_ret; exact ⟨me_, mb_ HB⟩
end Go.Proofs.YtejjlkbbnhpbdaaGreat.P
namespace Go.Proofs.YtejjlkbbnhpbdaaGreat.P
open Go.Proofs.YtejjlkbbnhpbdaaGreatX
open Go.RowKit Go.Proofs.YtejjlkbbnhpbdaaGreatW.PrintWords Go.Proofs.YtejjlkbbnhpbdaaGreatW.PrintLast Go.Proofs.YtejjlkbbnhpbdaaGreatW.PrintMore
attribute [local go_sem] max2_int min2_int max_two min_two max_three min_three max_four min_four
set_option linter.unusedVariables false
set_option linter.unusedSimpArgs false
open Go.Proofs.YtejjlkbbnhpbdaaGreatX in
def encTerm (x : S134) : Value := .agg #[.int .i64 (x).f0, .int .i64 (x).f1, .string (x).f2, .int .i64 (x).f3.f0, .int .i64 (x).f3.f1, .string (x).f3.f2]
open Go.Proofs.YtejjlkbbnhpbdaaGreatX in
set_option maxHeartbeats 2000000 in
set_option maxRecDepth 100000 in
theorem idxTerm.calls (g : Nat) (lb : Array Value) (eg : ∀ args w, (callFunc g args).run Tryz.prog w = .ok (.enter g args) w) (p : S134 → Bool) (A : Option Addr) (c : Nat) (xs : List S134) (w : World)
  (hr : Kd.C k134 w A xs.length xs) (hc : xs.length ≤ c) (hm : xs.length ≤ bigN) (hp : PredB Tryz.prog g lb encTerm p xs w) :
  Calls Tryz.prog 130 #[.slice A xs.length c, .func (.func g) #[] lb] w fun e w' => e = .returned (.int .i64 (idxB p xs)) ∧ Below w.heap.size w w' := by
 have hm := le_of_bigN hm; have HR0 := a_ hr; have HC0 := a_ hc; have HP := a_ hp; clear hr hc hp; go_enter Tryz.func130, Tryz.ntmps130; go_wp2; go_loopg [5, 8] xs.length (fun gg _ s8 wr => ∃ kk : Nat, kk ≤ xs.length ∧ xs.length - kk ≤ gg ∧ s8 = .int .i64 kk ∧ Aside0 (Below w.heap.size w wr) ∧ Aside0 (∀ j, j < kk → p (xs.getD j z134) = false))
 case atStart => exact ⟨0, Nat.zero_le _, by omega, rfl, ⟨Below.refl _ w⟩, ⟨fun j hj => absurd hj (Nat.not_lt_zero _)⟩⟩
 obtain ⟨kk, hkk, hg, rfl, BW, MI⟩ := hrel; by_cases hlt : kk < xs.length
 ·have hltz : (kk : Int) < (xs.length : Int) := by omega
  obtain ⟨ad, e0, hx0, hx1, hx2, hx3, hx4, hx5⟩ := at_T134 HR0.out (kk : Int) (by omega) hltz; cases e0; replace hx0 := (BW.out.cell (World.block_lt_of_cell? w _ hx0)).trans hx0; replace hx1 := (BW.out.cell (World.block_lt_of_cell? w _ hx1)).trans hx1; replace hx2 := (BW.out.cell (World.block_lt_of_cell? w _ hx2)).trans hx2; replace hx3 := (BW.out.cell (World.block_lt_of_cell? w _ hx3)).trans hx3; replace hx4 := (BW.out.cell (World.block_lt_of_cell? w _ hx4)).trans hx4; replace hx5 := (BW.out.cell (World.block_lt_of_cell? w _ hx5)).trans hx5; have hrd : rd_T134 xs (kk : Int) = xs.getD kk z134 := by simp [rd_T134]
  have hcall := HP.out wr (xs.getD kk z134) (getD_mem hlt) BW.out; rw [hrd] at hx0 hx1 hx2 hx3 hx4 hx5; simp only [Int.toNat_natCast] at hx0 hx1 hx2 hx3 hx4 hx5; have HL := a_ hlt; clear hrd; generalize hy : xs.getD kk z134 = y at hx0 hx1 hx2 hx3 hx4 hx5 hcall; have HY := a_ hy; clear hy; simp only [encTerm] at hcall; cases hq : p y with
  | true =>
   rw [hq] at hcall; have HQ := a_ hq; have HH := a_ hcall; clear hq hcall; go_wp2_with (go_at_fn g; refine HH.out.mono ?_; rintro e w' ⟨rfl, hb'⟩); go_ret; refine ⟨?_, below_then BW.out BW.out.size hb'⟩; rw [idxB_hit p xs kk z134 HL.out (by rw [HY.out]; exact HQ.out) MI.out]; rfl
  | false =>
   rw [hq] at hcall; have HQ := a_ hq; have HH := a_ hcall; clear hq hcall; go_wp2_with (go_at_fn g; refine HH.out.mono ?_; rintro e w' ⟨rfl, hb'⟩); go_roundg (xs.length - (kk + 1))
   case measure => omega
   case rel =>
    refine ⟨kk + 1, by omega, by omega, by go_num, ⟨below_then BW.out BW.out.size hb'⟩, ⟨fun j hj => ?_⟩⟩; by_cases e : j = kk
    ·subst e; rw [HY.out]; exact HQ.out
    ·exact MI.out j (by omega)
 ·have hltz : ¬ (kk : Int) < (xs.length : Int) := by omega
  have hk : kk = xs.length := by omega
  have HK := a_ hk; clear hk; go_wp2; go_ret; refine ⟨?_, BW.out⟩
  have hmiss : ∀ x, x ∈ xs → p x = false := by
   intro x hx; obtain ⟨j, hj, e⟩ := List.getElem_of_mem hx; have := MI.out j (by have := HK.out; omega)
   rw [List.getD_eq_getElem?_getD, List.getElem?_eq_getElem hj] at this; rw [← e]; exact this
  rw [idxB_miss p xs hmiss]; rfl
end Go.Proofs.YtejjlkbbnhpbdaaGreat.P
namespace Go.Proofs.YtejjlkbbnhpbdaaGreat.P
open Go.Proofs.YtejjlkbbnhpbdaaGreatX
open Go.RowKit Go.Proofs.YtejjlkbbnhpbdaaGreatW.PrintWords Go.Proofs.YtejjlkbbnhpbdaaGreatW.PrintLast Go.Proofs.YtejjlkbbnhpbdaaGreatW.PrintMore
attribute [local go_sem] max2_int min2_int max_two min_two max_three min_three max_four min_four
set_option linter.unusedVariables false
set_option linter.unusedSimpArgs false
open Go.Proofs.YtejjlkbbnhpbdaaGreatX in
set_option maxHeartbeats 2000000 in
set_option maxRecDepth 100000 in
theorem containsTerm.calls (g : Nat) (lb : Array Value) (eg : ∀ args w, (callFunc g args).run Tryz.prog w = .ok (.enter g args) w) (p : S134 → Bool) (A : Option Addr) (c : Nat) (xs : List S134) (w : World)
  (hr : Kd.C k134 w A xs.length xs) (hc : xs.length ≤ c) (hm : xs.length ≤ bigN) (hp : PredB Tryz.prog g lb encTerm p xs w) :
  Calls Tryz.prog 113 #[.slice A xs.length c, .func (.func g) #[] lb] w fun e w' => e = .returned (.bool (xs.any p)) ∧ Below w.heap.size w w' := by
 have hcall := idxTerm.calls g lb eg p A c xs w hr hc hm hp; rw [← idxB_any]; have HH := a_ hcall; clear hcall hr hc hm hp; go_enter Tryz.func113, Tryz.ntmps113; go_wp2_with (go_at_call 130; refine HH.out.mono ?_; rintro e w' ⟨rfl, hb'⟩); go_ret; exact ⟨rfl, hb'⟩
end Go.Proofs.YtejjlkbbnhpbdaaGreat.P
namespace Go.Proofs.YtejjlkbbnhpbdaaGreat.P
open Go.Proofs.YtejjlkbbnhpbdaaGreatX
open Go.RowKit Go.Proofs.YtejjlkbbnhpbdaaGreatW.PrintWords Go.Proofs.YtejjlkbbnhpbdaaGreatW.PrintLast Go.Proofs.YtejjlkbbnhpbdaaGreatW.PrintMore
attribute [local go_sem] max2_int min2_int max_two min_two max_three min_three max_four min_four
set_option linter.unusedVariables false
set_option linter.unusedSimpArgs false
def impl_Value_good.f (a0_0 : Int) (a0_1 : Int) (a0_2 : ByteArray) : Option (Bool) := if a0_0 = 0 then (some (a0_2.toList == ([] : List UInt8))) else (if a0_0 = 1 then (if a0_1 = 0 then ((impl_goodSym.f a0_2).bind fun t385 => (some t385)) else (some false)) else (some false))
set_option maxHeartbeats 8000000 in
set_option maxRecDepth 100000 in
theorem impl_Value_good.calls (a0_0 : Int) (a0_1 : Int) (a0_2 : ByteArray) (r : Bool) (w : World) (h : impl_Value_good.f a0_0 a0_1 a0_2 = some r) :
  Calls Tryz.prog 116 #[.agg #[.int .i64 a0_0, .int .i64 a0_1, .string a0_2]] w fun e w' => e = .returned (.bool r) ∧ Below w.heap.size w w' := by
 have hu104 := Tryz.underlying104; have HB := a_ (Below.refl w.heap.size w); have H : (if a0_0 = 0 then (some (a0_2.toList == ([] : List UInt8))) else (if a0_0 = 1 then (if a0_1 = 0 then ((impl_goodSym.f a0_2).bind fun t385 => (some t385)) else (some false)) else (some false))) = some r := h
 clear h; by_cases c2 : a0_0 = 0
 ·rw [if_pos c2] at H; obtain ⟨c2b0, c2b1⟩ := bq_ c2; clear c2; obtain rfl := oi_ H; go_enter Tryz.func116, Tryz.ntmps116; go_wp2_with (first | ((with_reducible refine gate_dst (N := 1) rfl ?_); refine bh_ 1 #[.int .i64 a0_0, .int .i64 a0_1, .string a0_2] 104 HB ?_; intro gb384 hg w3 BK384 GE384 hb; replace HB := ms_ HB hb; clear hb hg; obtain ⟨z4_0, z4_1, z4_2, zf4_0, zf4_1, zf4_2⟩ := cz3 BK384)); go_ret; exact ⟨me_, mb_ HB⟩
 ·rw [if_neg c2] at H; obtain ⟨c2b0, c2b1⟩ := bn_ c2; by_cases c5 : a0_0 = 1
  ·rw [if_pos c5] at H; obtain ⟨c5b0, c5b1⟩ := bq_ c5; clear c5; by_cases c6 : a0_1 = 0
   ·rw [if_pos c6] at H; obtain ⟨c6b0, c6b1⟩ := bq_ c6; clear c6; obtain ⟨t385, A7, H⟩ := ob_ H; obtain rfl := oi_ H; go_enter Tryz.func116, Tryz.ntmps116; go_wp2_with (first | ((with_reducible refine gate_dst (N := 1) rfl ?_); refine bh_ 1 #[.int .i64 a0_0, .int .i64 a0_1, .string a0_2] 104 HB ?_; intro gb384 hg w8 BK384 GE384 hb; replace HB := ms_ HB hb; clear hb hg; obtain ⟨z9_0, z9_1, z9_2, zf9_0, zf9_1, zf9_2⟩ := cz3 BK384) | (go_at_call 95; (with_reducible refine (impl_goodSym.calls a0_2 t385 _ A7.out).mono ?_); rintro e w10 ⟨rfl, hb⟩; replace BK384 := mk_ BK384 hb; replace HB := ms_ HB hb; (try clear hb))); go_ret; exact ⟨me_, mb_ HB⟩
   ·rw [if_neg c6] at H; obtain ⟨c6b0, c6b1⟩ := bn_ c6; obtain rfl := oi_ H; go_enter Tryz.func116, Tryz.ntmps116; go_wp2_with (first | ((with_reducible refine gate_dst (N := 1) rfl ?_); refine bh_ 1 #[.int .i64 a0_0, .int .i64 a0_1, .string a0_2] 104 HB ?_; intro gb384 hg w11 BK384 GE384 hb; replace HB := ms_ HB hb; clear hb hg; obtain ⟨z12_0, z12_1, z12_2, zf12_0, zf12_1, zf12_2⟩ := cz3 BK384)); go_ret; exact ⟨me_, mb_ HB⟩
  ·rw [if_neg c5] at H; obtain ⟨c5b0, c5b1⟩ := bn_ c5; obtain rfl := oi_ H; go_enter Tryz.func116, Tryz.ntmps116; go_wp2_with (first | ((with_reducible refine gate_dst (N := 1) rfl ?_); refine bh_ 1 #[.int .i64 a0_0, .int .i64 a0_1, .string a0_2] 104 HB ?_; intro gb384 hg w13 BK384 GE384 hb; replace HB := ms_ HB hb; clear hb hg; obtain ⟨z14_0, z14_1, z14_2, zf14_0, zf14_1, zf14_2⟩ := cz3 BK384)); go_ret; exact ⟨me_, mb_ HB⟩
end Go.Proofs.YtejjlkbbnhpbdaaGreat.P
namespace Go.Proofs.YtejjlkbbnhpbdaaGreat.P
open Go.Proofs.YtejjlkbbnhpbdaaGreatX
open Go.RowKit Go.Proofs.YtejjlkbbnhpbdaaGreatW.PrintWords Go.Proofs.YtejjlkbbnhpbdaaGreatW.PrintLast Go.Proofs.YtejjlkbbnhpbdaaGreatW.PrintMore
attribute [local go_sem] max2_int min2_int max_two min_two max_three min_three max_four min_four
set_option linter.unusedVariables false
set_option linter.unusedSimpArgs false
def goodValueB (v : S104) : Bool := (impl_Value_good.f v.f0 v.f1 v.f2).getD false
theorem goodValueB_some (v : S104) : impl_Value_good.f v.f0 v.f1 v.f2 = some (goodValueB v) := by
 unfold goodValueB
 have : ∃ r, impl_Value_good.f v.f0 v.f1 v.f2 = some r := by
  unfold impl_Value_good.f
  simp only [impl_goodSym.f, Option.bind_some]; repeat' split
  all_goals exact ⟨_, rfl⟩
 obtain ⟨r, hr⟩ := this; rw [hr]; rfl
open Go.Proofs.YtejjlkbbnhpbdaaGreatX
def zeroValB (v : S104) : Bool := v.f0 == 0 && (v.f1 == 0 && v.f2.toList.isEmpty)
def goodTermB (t : S134) : Bool :=
 if t.f0 = 0 then t.f1 == 0 && (t.f2.toList.isEmpty && zeroValB t.f3)
 else if t.f0 = 1 then (t.f1 == 0 && t.f2.toList.isEmpty) && goodValueB t.f3
 else if t.f0 = 2 then (t.f1 == 0 && zeroValB t.f3) && goodSymB t.f2
 else if t.f0 = 3 then if t.f1 < 1 then false else if 6 < t.f1 then false else if t.f2.toList.isEmpty then goodValueB t.f3 else goodSymB t.f2 && zeroValB t.f3
 else false
def impl_Term_good.f (a0_0 a0_1 : Int) (a0_2 : ByteArray) (a0_3 a0_4 : Int) (a0_5 : ByteArray) : Option Bool := some (goodTermB ⟨a0_0, a0_1, a0_2, ⟨a0_3, a0_4, a0_5⟩⟩)
theorem ne_tf {x y : Int} (h : x ≠ y) : (x == y) = false := beq_eq_false_iff_ne.mpr h
set_option maxHeartbeats 8000000 in
set_option maxRecDepth 100000 in
theorem impl_Term_good.calls (a0_0 a0_1 : Int) (a0_2 : ByteArray) (a0_3 a0_4 : Int) (a0_5 : ByteArray) (r : Bool) (w : World) (h : impl_Term_good.f a0_0 a0_1 a0_2 a0_3 a0_4 a0_5 = some r) :
  Calls Tryz.prog 115 #[.agg #[.int .i64 a0_0, .int .i64 a0_1, .string a0_2, .int .i64 a0_3, .int .i64 a0_4, .string a0_5]] w fun e w' => e = .returned (.bool r) ∧ Below w.heap.size w w' := by
 have h := Option.some.inj h; subst h; have hu := Tryz.underlying134; have hu1 := Tryz.underlying104; have HB := a_ (Below.refl w.heap.size w); have HV := a_ (goodValueB_some ⟨a0_3, a0_4, a0_5⟩); have HS : Aside0 (impl_goodSym.f a0_2 = some (goodSymB a0_2)) := ⟨rfl⟩
 by_cases k0 : a0_0 = 0
 ·subst k0; rw [show goodTermB _ = (a0_1 == 0 && (a0_2.toList.isEmpty && (a0_3 == 0 && (a0_4 == 0 && a0_5.toList.isEmpty)))) by simp [goodTermB, zeroValB]]; go_enter Tryz.func115, Tryz.ntmps115; go_wp2; all_goals go_ret
  all_goals exact ⟨by first | rfl | (simp; done) | (simp [*]; done) | (simp_all; done), by repeat (first | exact HB.out | apply below_drew | apply below_alloc)⟩
 have q0 := ne_tf k0; by_cases k1 : a0_0 = 1
 ·subst k1; by_cases e1 : a0_1 = 0
  ·subst e1; cases e2 : a0_2.toList.isEmpty with
   | true =>
    rw [show goodTermB _ = goodValueB ⟨a0_3, a0_4, a0_5⟩ by simp [goodTermB, e2]]; go_enter Tryz.func115, Tryz.ntmps115; go_wp2_with (go_at_call 116; refine (impl_Value_good.calls _ _ _ _ _ HV.out).mono ?_; rintro e w' ⟨rfl, hd⟩); all_goals go_ret
    all_goals exact ⟨by first | rfl | (simp; done) | (simp [*]; done) | (simp_all; done), Below.trans (by repeat (first | exact HB.out | apply below_drew | apply below_alloc)) (hd.mono (by simp; omega))⟩
   | false =>
    rw [show goodTermB _ = false by simp [goodTermB, e2]]; go_enter Tryz.func115, Tryz.ntmps115; go_wp2; all_goals go_ret
    all_goals exact ⟨by first | rfl | (simp; done) | (simp [*]; done) | (simp_all; done), by repeat (first | exact HB.out | apply below_drew | apply below_alloc)⟩
  ·have p1 := ne_tf e1; rw [show goodTermB _ = false by simp [goodTermB, e1]]; go_enter Tryz.func115, Tryz.ntmps115; go_wp2; all_goals go_ret
   all_goals exact ⟨by first | rfl | (simp; done) | (simp [*]; done) | (simp_all; done), by repeat (first | exact HB.out | apply below_drew | apply below_alloc)⟩
 have q1 := ne_tf k1; by_cases k2 : a0_0 = 2
 ·subst k2; by_cases e1 : a0_1 = 0
  ·subst e1; by_cases e3 : a0_3 = 0
   ·subst e3; by_cases e4 : a0_4 = 0
    ·subst e4; cases e5 : a0_5.toList.isEmpty with
     | true =>
      rw [show goodTermB _ = goodSymB a0_2 by simp [goodTermB, zeroValB, e5]]; go_enter Tryz.func115, Tryz.ntmps115; go_wp2_with (go_at_call 95; refine (impl_goodSym.calls _ _ _ HS.out).mono ?_; rintro e w' ⟨rfl, hd⟩); all_goals go_ret
      all_goals exact ⟨by first | rfl | (simp; done) | (simp [*]; done) | (simp_all; done), Below.trans (by repeat (first | exact HB.out | apply below_drew | apply below_alloc)) (hd.mono (by simp; omega))⟩
     | false =>
      rw [show goodTermB _ = false by simp [goodTermB, zeroValB, e5]]; go_enter Tryz.func115, Tryz.ntmps115; go_wp2; all_goals go_ret
      all_goals exact ⟨by first | rfl | (simp; done) | (simp [*]; done) | (simp_all; done), by repeat (first | exact HB.out | apply below_drew | apply below_alloc)⟩
    ·have p4 := ne_tf e4; rw [show goodTermB _ = false by simp [goodTermB, zeroValB, e4]]; go_enter Tryz.func115, Tryz.ntmps115; go_wp2; all_goals go_ret
     all_goals exact ⟨by first | rfl | (simp; done) | (simp [*]; done) | (simp_all; done), by repeat (first | exact HB.out | apply below_drew | apply below_alloc)⟩
   ·have p3 := ne_tf e3; rw [show goodTermB _ = false by simp [goodTermB, zeroValB, e3]]; go_enter Tryz.func115, Tryz.ntmps115; go_wp2; all_goals go_ret
    all_goals exact ⟨by first | rfl | (simp; done) | (simp [*]; done) | (simp_all; done), by repeat (first | exact HB.out | apply below_drew | apply below_alloc)⟩
  ·have p1 := ne_tf e1; rw [show goodTermB _ = false by simp [goodTermB, zeroValB, e1]]; go_enter Tryz.func115, Tryz.ntmps115; go_wp2; all_goals go_ret
   all_goals exact ⟨by first | rfl | (simp; done) | (simp [*]; done) | (simp_all; done), by repeat (first | exact HB.out | apply below_drew | apply below_alloc)⟩
 have q2 := ne_tf k2; by_cases k3 : a0_0 = 3
 ·subst k3; by_cases e1 : a0_1 < 1
  ·have p1 : decide (a0_1 < 1) = true := decide_eq_true e1
   rw [show goodTermB _ = false by simp [goodTermB, e1]]; go_enter Tryz.func115, Tryz.ntmps115; go_wp2; all_goals go_ret
   all_goals exact ⟨by first | rfl | (simp; done) | (simp [*]; done) | (simp_all; done), by repeat (first | exact HB.out | apply below_drew | apply below_alloc)⟩
  have p1 : decide (a0_1 < 1) = false := decide_eq_false e1
  by_cases e2 : 6 < a0_1
  ·have p2 : decide (6 < a0_1) = true := decide_eq_true e2
   rw [show goodTermB _ = false by simp [goodTermB, e1, e2]]; go_enter Tryz.func115, Tryz.ntmps115; go_wp2; all_goals go_ret
   all_goals exact ⟨by first | rfl | (simp; done) | (simp [*]; done) | (simp_all; done), by repeat (first | exact HB.out | apply below_drew | apply below_alloc)⟩
  have p2 : decide (6 < a0_1) = false := decide_eq_false e2
  cases e3 : a0_2.toList.isEmpty with
  | true =>
   rw [show goodTermB _ = goodValueB ⟨a0_3, a0_4, a0_5⟩ by simp [goodTermB, e1, e2, e3]]; go_enter Tryz.func115, Tryz.ntmps115; go_wp2_with (go_at_call 116; refine (impl_Value_good.calls _ _ _ _ _ HV.out).mono ?_; rintro e w' ⟨rfl, hd⟩); all_goals go_ret
   all_goals exact ⟨by first | rfl | (simp; done) | (simp [*]; done) | (simp_all; done), Below.trans (by repeat (first | exact HB.out | apply below_drew | apply below_alloc)) (hd.mono (by simp; omega))⟩
  | false =>
   cases e4 : goodSymB a0_2 with
   | true =>
    rw [e4] at HS; rw [show goodTermB _ = (a0_3 == 0 && (a0_4 == 0 && a0_5.toList.isEmpty)) by simp [goodTermB, zeroValB, e1, e2, e3, e4]]; go_enter Tryz.func115, Tryz.ntmps115; go_wp2_with (go_at_call 95; refine (impl_goodSym.calls _ _ _ HS.out).mono ?_; rintro e w' ⟨rfl, hd⟩; obtain ⟨hc1, hf1⟩ := cellsBelow hd rfl); all_goals go_ret
    all_goals exact ⟨by first | rfl | (simp; done) | (simp [*]; done) | (simp_all; done), Below.trans (by repeat (first | exact HB.out | apply below_drew | apply below_alloc)) (hd.mono (by simp; omega))⟩
   | false =>
    rw [e4] at HS; rw [show goodTermB _ = false by simp [goodTermB, e1, e2, e3, e4]]; go_enter Tryz.func115, Tryz.ntmps115; go_wp2_with (go_at_call 95; refine (impl_goodSym.calls _ _ _ HS.out).mono ?_; rintro e w' ⟨rfl, hd⟩); all_goals go_ret
    all_goals exact ⟨by first | rfl | (simp; done) | (simp [*]; done) | (simp_all; done), Below.trans (by repeat (first | exact HB.out | apply below_drew | apply below_alloc)) (hd.mono (by simp; omega))⟩
 have q3 := ne_tf k3; rw [show goodTermB _ = false by simp [goodTermB, k0, k1, k2, k3]]; go_enter Tryz.func115, Tryz.ntmps115; go_wp2; all_goals go_ret
 all_goals exact ⟨by first | rfl | (simp; done) | (simp [*]; done) | (simp_all; done), by repeat (first | exact HB.out | apply below_drew | apply below_alloc)⟩
end Go.Proofs.YtejjlkbbnhpbdaaGreat.P
namespace Go.Proofs.YtejjlkbbnhpbdaaGreat.P
open Go.Proofs.YtejjlkbbnhpbdaaGreatX
open Go.RowKit Go.Proofs.YtejjlkbbnhpbdaaGreatW.PrintWords Go.Proofs.YtejjlkbbnhpbdaaGreatW.PrintLast Go.Proofs.YtejjlkbbnhpbdaaGreatW.PrintMore
attribute [local go_sem] max2_int min2_int max_two min_two max_three min_three max_four min_four
set_option linter.unusedVariables false
set_option linter.unusedSimpArgs false
theorem goodTermB_some (v : S134) : impl_Term_good.f v.f0 v.f1 v.f2 v.f3.f0 v.f3.f1 v.f3.f2 = some (goodTermB v) := rfl
open Go.Proofs.YtejjlkbbnhpbdaaGreatX in
set_option maxHeartbeats 2000000 in
set_option maxRecDepth 100000 in
theorem badTerm.calls (v : S134) (w : World) :
  Calls Tryz.prog 114 (#[encTerm v] ++ #[]) w fun e w' => e = .returned (.bool (!goodTermB v)) ∧ Below w.heap.size w w' := by
 have hu := Tryz.underlying134; have HB := a_ (Below.refl w.heap.size w); have ea : #[encTerm v] ++ #[] = #[.agg #[.int .i64 (v).f0, .int .i64 (v).f1, .string (v).f2, .int .i64 (v).f3.f0, .int .i64 (v).f3.f1, .string (v).f3.f2]] := rfl
 rw [ea]; clear ea; have hg := goodTermB_some v; have HG := a_ hg; clear hg; go_enter Tryz.func114, Tryz.ntmps114; go_wp2_with (go_at_call 115; refine (impl_Term_good.calls _ _ _ _ _ _ _ _ HG.out).mono ?_; rintro e w' ⟨rfl, hd⟩); go_ret; exact ⟨rfl, Below.trans (by repeat (first | exact HB.out | apply below_alloc)) (hd.mono (by simp))⟩
open Go.Proofs.YtejjlkbbnhpbdaaGreatX in
def goodClsB (s : ByteArray) : Bool := goodSymB s && (s.toList != ([110, 111, 116] : List UInt8))
theorem goodCls_some (s : ByteArray) : impl_goodCls.f s = some (goodClsB s) := by
 unfold impl_goodCls.f impl_goodSym.f goodClsB
 simp only [Option.bind_some]; cases Go.Proofs.YtejjlkbbnhpbdaaGreatX.goodSymB s <;> rfl
def goodPatB (cls : ByteArray) (ts : List S134) : Bool := goodClsB cls && (decide (ts.length ≤ 6) && ts.all goodTermB)
def impl_Pattern_good.f (a0_0 : Bool) (a0_1 : ByteArray) (l0_2 : List S134) : Option Bool := some (goodPatB a0_1 l0_2)
open Go.Proofs.YtejjlkbbnhpbdaaGreatX in
set_option maxHeartbeats 4000000 in
set_option maxRecDepth 100000 in
theorem impl_Pattern_good.calls (a0_0 : Bool) (a0_1 : ByteArray) (A0_2 : Option Addr) (c0_2 : Nat) (l0_2 : List S134) (r : Bool) (w : World) (hr0_2 : Kd.C k134 w A0_2 l0_2.length l0_2) (hc0_2 : l0_2.length ≤ c0_2) (h : impl_Pattern_good.f a0_0 a0_1 l0_2 = some r) :
  Calls Tryz.prog 96 #[.agg #[.bool a0_0, .string a0_1, .slice A0_2 l0_2.length c0_2]] w fun e w' => e = .returned (.bool r) ∧ Below w.heap.size w w' := by
 have h := Option.some.inj h; subst h; have hu := Tryz.underlying101; have HB := a_ (Below.refl w.heap.size w); have HR := a_ hr0_2; have HC := a_ hc0_2; have HG := a_ (goodCls_some a0_1); clear hr0_2 hc0_2; have hu0 := Tryz.underlying134; cases h0 : goodClsB a0_1 with
 | true =>
  rw [h0] at HG; by_cases h1 : l0_2.length ≤ 6
  ·have q1 : decide ((l0_2.length : Int) ≤ 6) = true := decide_eq_true (by omega)
   have HM := a_ (show l0_2.length ≤ bigN by unfold bigN; omega)
   have hv : goodPatB a0_1 l0_2 = !(l0_2.any fun v => !goodTermB v) := by
    unfold goodPatB
    rw [h0, decide_eq_true h1, Bool.true_and, Bool.true_and, List.not_any_eq_all_not]; congr 1
    funext v
    simp
   rw [hv]; clear h0 h1 hv; go_enter Tryz.func96, Tryz.ntmps96
   go_wp2_with (first
    | (go_at_call 112; refine (impl_goodCls.calls _ _ _ HG.out).mono ?_; rintro e w1 ⟨rfl, hd⟩; obtain ⟨hc1, hf1⟩ := cellsBelow hd rfl)
    | (go_at_call 113; refine (containsTerm.calls 114 _ (enters_of Tryz.func114 (by kernel_rfl) rfl) (fun v => !goodTermB v) _ _ l0_2 _ ?hr HC.out HM.out ?hp).mono ?hk))
   case hr => exact Kd.C_below HR.out (Below.trans (by repeat (first | exact HB.out | apply below_alloc)) (hd.mono (by first | (simp; done) | (simp; omega))))
   case hp => exact fun W x _ _ => badTerm.calls x W
   case hk =>
    first | rintro e w2 ⟨rfl, hd2⟩ | rintro e w2 rfl hd2
    go_wp2; go_ret; exact ⟨rfl, Below.trans (Below.trans (by repeat (first | exact HB.out | apply below_alloc)) (hd.mono (by first | (simp; done) | (simp; omega)))) (hd2.mono (by have := hd.size; simp at this; omega))⟩
  ·have q1 : decide ((l0_2.length : Int) ≤ 6) = false := decide_eq_false (by omega)
   have hv : goodPatB a0_1 l0_2 = false := by unfold goodPatB; rw [h0, decide_eq_false h1]; rfl
   rw [hv]; clear h0 h1 hv; go_enter Tryz.func96, Tryz.ntmps96; go_wp2_with (go_at_call 112; refine (impl_goodCls.calls _ _ _ HG.out).mono ?_; rintro e w1 ⟨rfl, hd⟩; obtain ⟨hc1, hf1⟩ := cellsBelow hd rfl); go_ret; exact ⟨rfl, Below.trans (by repeat (first | exact HB.out | apply below_alloc)) (hd.mono (by first | (simp; done) | (simp; omega)))⟩
 | false =>
  rw [h0] at HG; have hv : goodPatB a0_1 l0_2 = false := by unfold goodPatB; rw [h0]; rfl
  rw [hv]; clear h0 hv; go_enter Tryz.func96, Tryz.ntmps96; go_wp2_with (go_at_call 112; refine (impl_goodCls.calls _ _ _ HG.out).mono ?_; rintro e w1 ⟨rfl, hd⟩; obtain ⟨hc1, hf1⟩ := cellsBelow hd rfl); go_ret; exact ⟨rfl, Below.trans (by repeat (first | exact HB.out | apply below_alloc)) (hd.mono (by first | (simp; done) | (simp; omega)))⟩
end Go.Proofs.YtejjlkbbnhpbdaaGreat.P
namespace Go.Proofs
open Go.Shelf
def Tryz.lays137_ren : Go.Shelf.Ren := ⟨fun | 137 => 117 | 217 => 131 | 266 => 137 | n => n, fun | 9 => 9 | 5 => 5 | 3 => 3 | n => n, fun | n => n⟩
theorem Tryz.lays137 : Go.Proofs.Lays.n137 Tryz.prog Tryz.lays137_ren := {
 mixed := by kernel_rfl
 f137 := Tryz.func117.trans (congrArg some (by kernel_rfl))
 f217 := Tryz.func131.trans (congrArg some (by kernel_rfl))
 f266 := Tryz.func137.trans (congrArg some (by kernel_rfl))
 t3 := Tryz.underlying3
 a3 := Tryz.isAgg3
 z3 := Tryz.sizeOf3
 v3 := Tryz.zeroValue3
 t5 := Tryz.underlying5
 a5 := Tryz.isAgg5
 z5 := Tryz.sizeOf5
 v5 := Tryz.zeroValue5
 t9 := Tryz.underlying9
 a9 := Tryz.isAgg9
 z9 := Tryz.sizeOf9
 v9 := Tryz.zeroValue9 }
open Go.RowKit in
theorem Tryz.strings_IndexByte (s : ByteArray) (c : Int) (w : World) :
  Calls Tryz.prog 117 #[.string s, .int .u8 c] w fun e w' => e = .returned (.int .i64 (Lib.indexByte s.data.toList c.toNat.toUInt8)) ∧ w' = w := Any.strings_IndexByte Tryz.lays137 s c w
def Tryz.lays215_ren : Go.Shelf.Ren := ⟨fun | 215 => 99 | n => n, fun | 3 => 3 | 4 => 4 | n => n, fun | n => n⟩
theorem Tryz.lays215 : Go.Proofs.Lays.n215 Tryz.prog Tryz.lays215_ren := {
 mixed := by kernel_rfl
 f215 := Tryz.func99.trans (congrArg some (by kernel_rfl))
 t3 := Tryz.underlying3
 a3 := Tryz.isAgg3
 z3 := Tryz.sizeOf3
 v3 := Tryz.zeroValue3
 t4 := Tryz.underlying4
 a4 := Tryz.isAgg4
 z4 := Tryz.sizeOf4
 v4 := Tryz.zeroValue4 }
open Go.RowKit in
theorem Tryz.cmp_isNaN_int (x : Int) (w : World) :
  Calls Tryz.prog 99 #[.int .i64 x] w fun e w' => e = .returned (.bool false) ∧ w' = w := Any.cmp_isNaN_int Tryz.lays215 x w
def Tryz.lays122_ren : Go.Shelf.Ren := ⟨fun | 122 => 79 | 215 => 99 | n => n, fun | 3 => 3 | 4 => 4 | n => n, fun | n => n⟩
theorem Tryz.lays122 : Go.Proofs.Lays.n122 Tryz.prog Tryz.lays122_ren := {
 mixed := by kernel_rfl
 f122 := Tryz.func79.trans (congrArg some (by kernel_rfl))
 f215 := Tryz.func99.trans (congrArg some (by kernel_rfl))
 t3 := Tryz.underlying3
 a3 := Tryz.isAgg3
 z3 := Tryz.sizeOf3
 v3 := Tryz.zeroValue3
 t4 := Tryz.underlying4
 a4 := Tryz.isAgg4
 z4 := Tryz.sizeOf4
 v4 := Tryz.zeroValue4 }
open Go.RowKit in
theorem Tryz.cmp_Compare_int (x y : Int) (w : World) :
  Calls Tryz.prog 79 #[.int .i64 x, .int .i64 y] w fun e w' => e = .returned (.int .i64 (Lib.compareInt x y)) ∧ w' = w := Any.cmp_Compare_int Tryz.lays122 x y w
def Tryz.lays189_ren : Go.Shelf.Ren := ⟨fun | 189 => 80 | 125 => 101 | 257 => 100 | 128 => 127 | 129 => 128 | 294 => 118 | 295 => 119 | 296 => 120 | 297 => 121 | 298 => 122 | 299 => 123 | 216 => 124 | 300 => 125 | 301 => 126 | 328 => 132 | 329 => 133 | 330 => 134 | 331 => 135 | 332 => 136 | 215 => 99 | 343 => 138 | n => n, fun | 28 => 23 | 3 => 3 | 46 => 155 | 0 => 0 | 51 => 176 | 53 => 178 | 4 => 4 | 183 => 169 | 182 => 168 | 131 => 173 | 5 => 5 | 9 => 9 | 218 => 181 | 222 => 140 | 228 => 186 | 229 => 187 | n => n, fun | n => n⟩
theorem Tryz.lays189 : Go.Proofs.Lays.n189 Tryz.prog Tryz.lays189_ren := {
 mixed := by kernel_rfl
 f125 := Tryz.func101.trans (congrArg some (by kernel_rfl))
 f128 := Tryz.func127.trans (congrArg some (by kernel_rfl))
 f129 := Tryz.func128.trans (congrArg some (by kernel_rfl))
 f189 := Tryz.func80.trans (congrArg some (by kernel_rfl))
 f215 := Tryz.func99.trans (congrArg some (by kernel_rfl))
 f216 := Tryz.func124.trans (congrArg some (by kernel_rfl))
 f257 := Tryz.func100.trans (congrArg some (by kernel_rfl))
 f294 := Tryz.func118.trans (congrArg some (by kernel_rfl))
 f295 := Tryz.func119.trans (congrArg some (by kernel_rfl))
 f296 := Tryz.func120.trans (congrArg some (by kernel_rfl))
 f297 := Tryz.func121.trans (congrArg some (by kernel_rfl))
 f298 := Tryz.func122.trans (congrArg some (by kernel_rfl))
 f299 := Tryz.func123.trans (congrArg some (by kernel_rfl))
 f300 := Tryz.func125.trans (congrArg some (by kernel_rfl))
 f301 := Tryz.func126.trans (congrArg some (by kernel_rfl))
 f328 := Tryz.func132.trans (congrArg some (by kernel_rfl))
 f329 := Tryz.func133.trans (congrArg some (by kernel_rfl))
 f330 := Tryz.func134.trans (congrArg some (by kernel_rfl))
 f331 := Tryz.func135.trans (congrArg some (by kernel_rfl))
 f332 := Tryz.func136.trans (congrArg some (by kernel_rfl))
 f343 := Tryz.func138.trans (congrArg some (by kernel_rfl))
 t0 := Tryz.underlying0
 a0 := Tryz.isAgg0
 z0 := Tryz.sizeOf0
 v0 := Tryz.zeroValue0
 t3 := Tryz.underlying3
 a3 := Tryz.isAgg3
 z3 := Tryz.sizeOf3
 v3 := Tryz.zeroValue3
 t4 := Tryz.underlying4
 a4 := Tryz.isAgg4
 z4 := Tryz.sizeOf4
 v4 := Tryz.zeroValue4
 t5 := Tryz.underlying5
 a5 := Tryz.isAgg5
 z5 := Tryz.sizeOf5
 v5 := Tryz.zeroValue5
 t9 := Tryz.underlying9
 a9 := Tryz.isAgg9
 z9 := Tryz.sizeOf9
 v9 := Tryz.zeroValue9
 t28 := Tryz.underlying23
 a28 := Tryz.isAgg23
 z28 := Tryz.sizeOf23
 v28 := Tryz.zeroValue23
 t46 := Tryz.underlying155
 a46 := Tryz.isAgg155
 z46 := Tryz.sizeOf155
 v46 := Tryz.zeroValue155
 t51 := Tryz.underlying176
 a51 := Tryz.isAgg176
 z51 := Tryz.sizeOf176
 v51 := Tryz.zeroValue176
 t53 := Tryz.underlying178
 a53 := Tryz.isAgg178
 z53 := Tryz.sizeOf178
 v53 := Tryz.zeroValue178
 t131 := Tryz.underlying173
 a131 := Tryz.isAgg173
 z131 := Tryz.sizeOf173
 v131 := Tryz.zeroValue173
 t182 := Tryz.underlying168
 a182 := Tryz.isAgg168
 z182 := Tryz.sizeOf168
 v182 := Tryz.zeroValue168
 t183 := Tryz.underlying169
 a183 := Tryz.isAgg169
 z183 := Tryz.sizeOf169
 v183 := Tryz.zeroValue169
 t218 := Tryz.underlying181
 a218 := Tryz.isAgg181
 z218 := Tryz.sizeOf181
 v218 := Tryz.zeroValue181
 t222 := Tryz.underlying140
 a222 := Tryz.isAgg140
 z222 := Tryz.sizeOf140
 v222 := Tryz.zeroValue140
 t228 := Tryz.underlying186
 a228 := Tryz.isAgg186
 z228 := Tryz.sizeOf186
 v228 := Tryz.zeroValue186
 t229 := Tryz.underlying187
 a229 := Tryz.isAgg187
 z229 := Tryz.sizeOf187
 v229 := Tryz.zeroValue187 }
open Go.Sort Go.RowKit in
theorem Tryz.slices_Sort_int (blk off cap : Nat) (zs : List Int) (w : World) (hH : Holds (Value.int .i64) w blk off zs.toArray) (hblk : blk < w.heap.size) (hsz : zs.length < 4611686018427387904) :
  Calls Tryz.prog 80 #[.slice (some ⟨blk, off, none⟩) zs.length cap] w fun e w' =>
   e = .returned (.tuple #[]) ∧ ∃ n os, w' = grow (putRow (Value.int .i64) (Sort.ahead w n) blk off (zs.mergeSort fun x y => decide (x ≤ y)).toArray) os := Any.slices_Sort_int Tryz.lays189 blk off cap zs w hH hblk hsz
def Tryz.lays112_ren : Go.Shelf.Ren := ⟨fun | 112 => 81 | n => n, fun | 28 => 23 | 3 => 3 | 4 => 4 | 0 => 0 | n => n, fun | n => n⟩
theorem Tryz.lays112 : Go.Proofs.Lays.n112 Tryz.prog Tryz.lays112_ren := {
 mixed := by kernel_rfl
 f112 := Tryz.func81.trans (congrArg some (by kernel_rfl))
 t0 := Tryz.underlying0
 a0 := Tryz.isAgg0
 z0 := Tryz.sizeOf0
 v0 := Tryz.zeroValue0
 t3 := Tryz.underlying3
 a3 := Tryz.isAgg3
 z3 := Tryz.sizeOf3
 v3 := Tryz.zeroValue3
 t4 := Tryz.underlying4
 a4 := Tryz.isAgg4
 z4 := Tryz.sizeOf4
 v4 := Tryz.zeroValue4
 t28 := Tryz.underlying23
 a28 := Tryz.isAgg23
 z28 := Tryz.sizeOf23
 v28 := Tryz.zeroValue23 }
open Go.RowKit Go.Lib Go.Sort in
theorem Tryz.slices_Reverse_int (blk off cap : Nat) (zs : List Int) (w : World) (hH : Holds (Value.int .i64) w blk off zs.toArray) (hsz : zs.length ≤ 9223372036854775807) :
  Calls Tryz.prog 81 #[.slice (some ⟨blk, off, none⟩) zs.length cap] w fun e w' => e = .returned (.tuple #[]) ∧ ∃ n, w' = putRow (Value.int .i64) (Sort.ahead w n) blk off zs.reverse.toArray := Any.slices_Reverse_int Tryz.lays112 blk off cap zs w hH hsz
open Go.RowKit Go.Lib Go.Sort in
theorem Tryz.slices_Reverse_int_empty (a : Option Addr) (cap : Nat) (w : World) :
  Calls Tryz.prog 81 #[.slice a 0 cap] w fun e w' => e = .returned (.tuple #[]) ∧ w' = w := Any.slices_Reverse_int_empty Tryz.lays112 a cap w
def Tryz.laysNm215_ren : Go.Shelf.Ren := ⟨fun | 15 => 37 | n => n, fun | 22 => 23 | 3 => 3 | 4 => 4 | n => n, fun | n => n⟩
theorem Tryz.laysNm215 : Go.Proofs.Lays2.n15 Tryz.prog Tryz.laysNm215_ren := {
 mixed := by kernel_rfl
 f15 := Tryz.func37.trans (congrArg some (by kernel_rfl))
 t3 := Tryz.underlying3
 a3 := Tryz.isAgg3
 z3 := Tryz.sizeOf3
 v3 := Tryz.zeroValue3
 t4 := Tryz.underlying4
 a4 := Tryz.isAgg4
 z4 := Tryz.sizeOf4
 v4 := Tryz.zeroValue4
 t22 := Tryz.underlying23
 a22 := Tryz.isAgg23
 z22 := Tryz.sizeOf23
 v22 := Tryz.zeroValue23
 i3 := by kernel_rfl }
open Go.RowKit Go.Lib in
theorem Tryz.slices_Clone_int (b off n c : Nat) (zs : List Int) (w : World) (hz : n ≤ zs.length) (hbig : n * 8 ≤ 140737488355328) (hc : ∀ j, j < zs.length → w.cell? ⟨b, off + j, none⟩ = some (.int .i64 (zs.getD j 0))) :
  Calls Tryz.prog 37 #[.slice (some ⟨b, off, none⟩) n c] w fun e w' => ∃ v', e = .returned v' ∧ w'.ownsRow w.heap.size 3 1 v' n ((zs.take n).map (Value.int .i64)) ∧ v' ≠ .slice none 0 0 ∧ Below w.heap.size w w' := Any.slices_Clone_int Tryz.laysNm215 b off n c zs w hz hbig hc
open Go.RowKit Go.Lib in
theorem Tryz.slices_Clone_int_nil (n c : Nat) (w : World) :
  Calls Tryz.prog 37 #[.slice none n c] w fun e w' => e = .returned (.slice none 0 0) ∧ w' = w := Any.slices_Clone_int_nil Tryz.laysNm215 n c w
open Go.RowKit Go.Lib in
theorem Tryz.slices_Clone_int_zero (a : Addr) (c : Nat) (w : World) :
  Calls Tryz.prog 37 #[.slice (some a) 0 c] w fun e w' => ∃ v', e = .returned v' ∧ w'.ownsRow w.heap.size 3 1 v' 0 [] ∧ v' ≠ .slice none 0 0 ∧ Below w.heap.size w w' := Any.slices_Clone_int_zero Tryz.laysNm215 a c w
open Go.RowKit Go.Sort in
theorem Tryz.slices_Sort_int_none (p : Option Addr) (cap : Nat) (w : World) :
  Calls Tryz.prog 80 #[.slice p 0 cap] w fun e w' => e = .returned (.tuple #[]) ∧ w' = w := Any.slices_Sort_int_none Tryz.lays189 p cap w
end Go.Proofs
namespace Go.Proofs.YtejjlkbbnhpbdaaGreat.P
open Go.Proofs.YtejjlkbbnhpbdaaGreatX
open Go.RowKit Go.Proofs.YtejjlkbbnhpbdaaGreatW.PrintWords Go.Proofs.YtejjlkbbnhpbdaaGreatW.PrintLast Go.Proofs.YtejjlkbbnhpbdaaGreatW.PrintMore
attribute [local go_sem] max2_int min2_int max_two min_two max_three min_three max_four min_four
set_option linter.unusedVariables false
set_option linter.unusedSimpArgs false
open Go.Proofs.YtejjlkbbnhpbdaaGreatX
def TreesV (w : World) (b base : Nat) (vF vD : Value) (fs ds : List Int) : Prop :=
 w.heap[b]? = some (.cells #[vF, vD] 148 (0, 0)) ∧ w.ownsRow base 3 1 vF fs.length (nums .i64 fs) ∧ w.ownsRow base 3 1 vD ds.length (nums .i64 ds) ∧ NeRow vF vD
def Trees (w : World) (b base : Nat) (fs ds : List Int) : Prop := ∃ vF vD, TreesV w b base vF vD fs ds
def KeepT (w w' : World) : Prop := w.heap.size ≤ w'.heap.size ∧ ∀ (g : Nat) (t : TypeId) (cs : Array Value), t ≠ 148 → t ≠ 3 → w.heap[g]? = some (.cells cs t (0, 0)) → w'.heap[g]? = some (.cells cs t (0, 0))
theorem KeepT.trans {a b c : World} (h : KeepT a b) (k : KeepT b c) : KeepT a c := ⟨Nat.le_trans h.1 k.1, fun g t cs h1 h2 h3 => k.2 g t cs h1 h2 (h.2 g t cs h1 h2 h3)⟩
theorem KeepT.below {w w' : World} (h : Below w.heap.size w w') : KeepT w w' := ⟨h.size, fun _ _ _ _ _ h3 => blk_below h3 h⟩
theorem KeepT.grown {w w' : World} {base n : Nat} {v : Value} {xs : List Value} (ho : w.ownsRow base 3 1 v n xs) (hg : w.grownBy w' v.ownBlock) : KeepT w w' :=
 ⟨hg.size, fun g t cs _ h2 h3 => blk_grown h3 hg (own_ne ho h3 (Ne.symm h2))⟩
theorem KeepT.set {w : World} {b : Nat} {cs : Array Value} (hb : w.heap[b]? = some (.cells cs 148 (0, 0))) (j : Nat) (u : Value) : KeepT w (w.setCell ⟨b, j, none⟩ u) := by
 refine ⟨by simp, fun g t cs' h1 h2 h3 => blk_far h3 (p := ⟨b, j, none⟩) ?_ u⟩; exact blk_ne h3 hb h1
theorem ev_new {a b : Nat} (h : a = b) : Value.slice (some ⟨a, 0, none⟩) 1 1 = Value.slice (some ⟨b, 0, none⟩) 1 1 := by rw [h]
theorem own_readsI {w : World} {base n c : Nat} {e : TypeId} {k : IntKind} {A : Option Addr} {xs : List Int} (h : w.ownsRow base e 1 (.slice A n c) n (nums k xs)) : ReadsInt w k A n xs := own_reads' h
theorem own_form {w : World} {base n : Nat} {e : TypeId} {size : Nat} {v : Value} {xs : List Value} (h : w.ownsRow base e size v n xs) : ∃ A m c, v = .slice A m c ∧ Aside0 (m = n) := by
 obtain ⟨A, c, h⟩ := own_slice h; exact ⟨A, n, c, h, ⟨rfl⟩⟩
def exEq (x0 y0 x1 y1 : Int) (x2 y2 : ByteArray) (x3 y3 x4 y4 : Int) (x5 y5 : ByteArray) (x6 y6 x7 y7 : Int) : Bool :=
 x0 == y0 && (x1 == y1 && (x2.toList == y2.toList && ((x3 == y3 && (x4 == y4 && (x5.toList == y5.toList))) && (x6 == y6 && x7 == y7))))
theorem eqExpr (d : Nat) (w : World) (x0 y0 x1 y1 : Int) (x2 y2 : ByteArray) (x3 y3 x4 y4 : Int) (x5 y5 : ByteArray) (x6 y6 x7 y7 : Int) :
  (Op.equalIn (d + 3) 106 (.agg #[.int .i64 x0, .int .u8 x1, .string x2, .int .i64 x3, .int .i64 x4, .string x5, .int .i64 x6, .int .i64 x7]) (.agg #[.int .i64 y0, .int .u8 y1, .string y2, .int .i64 y3, .int .i64 y4, .string y5, .int .i64 y6, .int .i64 y7])).run Tryz.prog w = .ok (exEq x0 y0 x1 y1 x2 y2 x3 y3 x4 y4 x5 y5 x6 y6 x7 y7) w := by
 unfold exEq
 refine eqA_of Tryz.underlying106 (by kernel_rfl) ?_; refine eqf_cons (by rfl) (by first | (go_simp; done) | (go_simp; rfl)) (by first | (go_simp; done) | (go_simp; rfl)) (by go_simp) ?_; refine eqf_cons (by rfl) (by first | (go_simp; done) | (go_simp; rfl)) (by first | (go_simp; done) | (go_simp; rfl)) (by go_simp) ?_; refine eqf_cons (by rfl) (by first | (go_simp; done) | (go_simp; rfl)) (by first | (go_simp; done) | (go_simp; rfl)) (by go_simp) ?_; refine eqf_cons (by rfl) (by first | (go_simp; done) | (go_simp; rfl)) (by first | (go_simp; done) | (go_simp; rfl)) (eqA104 d w _ _ _ _ _ _) ?_; refine eqf_cons (by rfl) (by first | (go_simp; done) | (go_simp; rfl)) (by first | (go_simp; done) | (go_simp; rfl)) (by go_simp) ?_; exact eqf_last (by rfl) (by first | (go_simp; done) | (go_simp; rfl)) (by first | (go_simp; done) | (go_simp; rfl)) (by go_simp)
def onlyC (e : S106) : Bool := exEq e.f0 0 e.f1 0 e.f2 ⟨#[]⟩ e.f3.f0 e.f3.f0 e.f3.f1 e.f3.f1 e.f3.f2 e.f3.f2 e.f4 0 e.f5 0
def onlyV (e : S106) : Bool := exEq e.f0 1 e.f1 0 e.f2 e.f2 e.f3.f0 0 e.f3.f1 0 e.f3.f2 ⟨#[]⟩ e.f4 0 e.f5 0
def onlyO (e : S106) : Bool := exEq e.f0 2 e.f1 e.f1 e.f2 ⟨#[]⟩ e.f3.f0 0 e.f3.f1 0 e.f3.f2 ⟨#[]⟩ e.f4 e.f4 e.f5 e.f5
def arIdx (c : Int) : Int := Lib.indexByte [43, 45, 42, 47, 37] c.toNat.toUInt8
def arithB (c : Int) : Bool := decide (0 ≤ arIdx c)
theorem arIdx_calls (c : Int) (w : World) : Calls Tryz.prog 117 #[.string (⟨#[43, 45, 42, 47, 37]⟩ : ByteArray), .int .u8 c] w fun e w' => e = .returned (.int .i64 (arIdx c)) ∧ w' = w := Tryz.strings_IndexByte _ c w
theorem mx_lt {a b : Int} (h : a < b) : mx a b = b := if_pos h
theorem mx_ge {a b : Int} (h : ¬ a < b) : mx a b = a := if_neg h
def impl_trees_grow.f (es : List S106) (fs ds : List Int) : Option (Bool × List Int × List Int) :=
 if es.length ≤ 60 ∧ fs.length < es.length ∧ ds.length = fs.length then
  (fun e : S106 =>
   if e.f0 = 0 then some (onlyC e && goodValueB e.f3, fs ++ [(fs.length : Int)], ds ++ [0])
   else if e.f0 = 1 then some (onlyV e && goodSymB e.f2, fs ++ [(fs.length : Int)], ds ++ [0])
   else if e.f0 = 2 then
    if onlyO e = true ∧ arithB e.f1 = true ∧ e.f5 = (fs.length : Int) - 1 ∧ 0 ≤ e.f5 ∧ 0 ≤ e.f4 then
     if 0 ≤ rd fs e.f5 ∧ rd fs e.f5 ≤ 64 then
      if e.f4 = rd fs e.f5 - 1 then
       if e.f4 < (fs.length : Int) ∧ 0 ≤ rd ds e.f4 ∧ rd ds e.f4 ≤ 64 ∧ 0 ≤ rd ds e.f5 ∧ rd ds e.f5 ≤ 64 then
        some (decide (1 + mx (rd ds e.f4) (rd ds e.f5) ≤ 20), fs ++ [rd fs e.f4], ds ++ [1 + mx (rd ds e.f4) (rd ds e.f5)])
       else none
      else some (false, fs ++ [(fs.length : Int)], ds ++ [0])
     else none
    else some (false, fs ++ [(fs.length : Int)], ds ++ [0])
   else some (false, fs ++ [(fs.length : Int)], ds ++ [0])) (rd_T106 es (fs.length : Int))
 else none
attribute [local go_sem high] eqExpr
set_option maxHeartbeats 8000000 in
set_option maxRecDepth 100000 in
theorem impl_trees_grow.calls (A3 : Option Addr) (c3 : Nat) (es : List S106) (b : Nat) (fs ds fs' ds' : List Int) (r : Bool) (w0 w : World) (hb : Below w0.heap.size w0 w) (hr : Kd.C k106 w0 A3 es.length es) (hc : es.length ≤ c3) (ht : Trees w b w0.heap.size fs ds) (hwb : w0.heap.size ≤ b) (h : impl_trees_grow.f es fs ds = some (r, fs', ds')) :
  Calls Tryz.prog 97 #[.pointer (some ⟨b, 0, none⟩), .slice A3 es.length c3] w fun e w' => e = .returned (.bool r) ∧ Trees w' b w0.heap.size fs' ds' ∧ Below w0.heap.size w0 w' ∧ KeepT w w' := by
 have hu := Tryz.underlying148; have hu1 := Tryz.underlying106; have hu2 := Tryz.underlying104; obtain ⟨vF, vD, ht⟩ := ht; have HT := a_ ht; clear ht; have NE := a_ HT.out.2.2.2; have HB := a_ hb; have HR := a_ hr; have HC := a_ hc; have HWB := a_ hwb; clear hb hr hc hwb; have hbl := blk_lt HT.out.1; unfold impl_trees_grow.f at h
 by_cases c0 : es.length ≤ 60 ∧ fs.length < es.length ∧ ds.length = fs.length
 case neg => rw [if_neg c0] at h; cases h
 rw [if_pos c0] at h; obtain ⟨c60, hlt, hdl⟩ := c0; have L60 : Aside0 (es.length ≤ 60 ∧ fs.length < es.length ∧ ds.length = fs.length) := ⟨c60, hlt, hdl⟩
 have hz : (fs.length : Int) < (es.length : Int) := by omega
 have hz0 : (0 : Int) ≤ (fs.length : Int) := by omega
 have hz1 : (fs.length : Int) ≤ 60 := by omega
 clear hdl; obtain ⟨ad, e0, hx0, hx1, hx2, hx3, hx4, hx5, hx6, hx7⟩ := at_T106 HR.out (fs.length : Int) hz0 hz; cases e0; replace hx0 := (HB.out.cell (World.block_lt_of_cell? w0 _ hx0)).trans hx0; replace hx1 := (HB.out.cell (World.block_lt_of_cell? w0 _ hx1)).trans hx1; replace hx2 := (HB.out.cell (World.block_lt_of_cell? w0 _ hx2)).trans hx2; replace hx3 := (HB.out.cell (World.block_lt_of_cell? w0 _ hx3)).trans hx3; replace hx4 := (HB.out.cell (World.block_lt_of_cell? w0 _ hx4)).trans hx4; replace hx5 := (HB.out.cell (World.block_lt_of_cell? w0 _ hx5)).trans hx5; replace hx6 := (HB.out.cell (World.block_lt_of_cell? w0 _ hx6)).trans hx6; replace hx7 := (HB.out.cell (World.block_lt_of_cell? w0 _ hx7)).trans hx7; simp only [Int.toNat_natCast] at hx0 hx1 hx2 hx3 hx4 hx5 hx6 hx7; obtain ⟨AF, cF, eF⟩ := own_slice HT.out.2.1; subst eF; obtain ⟨AD, cD, eD⟩ := own_slice HT.out.2.2.1; subst eD; have hq0 := (blk_cell HT.out.1 0).trans rfl; have hq1 := (blk_cell HT.out.1 1).trans rfl; simp only [List.getElem?_toArray, List.getElem?_cons_zero, List.getElem?_cons_succ] at hq0 hq1; replace h : (fun e : S106 => _) (rd_T106 es (fs.length : Int)) = some (r, fs', ds') := h
 generalize rd_T106 es (fs.length : Int) = x at *; simp only [] at h; have OV : Aside0 (impl_Value_good.f x.f3.f0 x.f3.f1 x.f3.f2 = some (goodValueB x.f3)) := ⟨goodValueB_some x.f3⟩
 have OS : Aside0 (impl_goodSym.f x.f2 = some (goodSymB x.f2)) := ⟨rfl⟩
 by_cases k0 : x.f0 = 0
 ·rw [if_pos k0] at h
  obtain ⟨rfl, rfl, rfl⟩ : r = (onlyC x && goodValueB x.f3) ∧ fs' = fs ++ [(fs.length : Int)] ∧ ds' = ds ++ [0] := by
   have := Option.some.inj h
   simp only [Prod.mk.injEq] at this; exact ⟨this.1.symm, this.2.1.symm, this.2.2.symm⟩
  clear h; rw [k0] at hx0; cases hC : onlyC x with
  | false =>
   have hC' : exEq 0 0 x.f1 0 x.f2 ⟨#[]⟩ x.f3.f0 x.f3.f0 x.f3.f1 x.f3.f1 x.f3.f2 x.f3.f2 x.f4 0 x.f5 0 = false := by rw [← hC, onlyC, k0]
   clear hC k0; have BQ := a_ (blk_alloc HT.out.1 (.cells #[.int .i64 0, .int .u8 x.f1, .string x.f2, .int .i64 x.f3.f0, .int .i64 x.f3.f1, .string x.f3.f2, .int .i64 x.f4, .int .i64 x.f5] 106)); have OF := a_ (own_alloc HT.out.2.1 (.cells #[.int .i64 0, .int .u8 x.f1, .string x.f2, .int .i64 x.f3.f0, .int .i64 x.f3.f1, .string x.f3.f2, .int .i64 x.f4, .int .i64 x.f5] 106)); have OD := a_ (own_alloc HT.out.2.2.1 (.cells #[.int .i64 0, .int .u8 x.f1, .string x.f2, .int .i64 x.f3.f0, .int .i64 x.f3.f1, .string x.f3.f2, .int .i64 x.f4, .int .i64 x.f5] 106)); have HBQ := a_ (below_alloc HB.out (.cells #[.int .i64 0, .int .u8 x.f1, .string x.f2, .int .i64 x.f3.f0, .int .i64 x.f3.f1, .string x.f3.f2, .int .i64 x.f4, .int .i64 x.f5] 106)); have KQ := a_ (KeepT.below (below_alloc (Below.refl _ w) (.cells #[.int .i64 0, .int .u8 x.f1, .string x.f2, .int .i64 x.f3.f0, .int .i64 x.f3.f1, .string x.f3.f2, .int .i64 x.f4, .int .i64 x.f5] 106))); go_enter Tryz.func97, Tryz.ntmps97
   go_wp2_with (first
    | (at_builtin; refine print_append_num (w0 := w0) w0.heap.size rfl (.tmp 127) (.tmp 129) 23 3 .i64 8 rfl Tryz.underlying23 info3 (by decide) (.slice AF fs.length cF) fs ((fs.length : Int)) rfl (ev_new (by first | rfl | (simp; done))) OF.out HBQ.out (below_size HBQ.out) (by have := L60.out; omega) ?_; intro v1 w1 ho1 hb1 hg1 hat1; obtain ⟨A1, m1, c1, ev1, M1⟩ := own_form ho1; subst ev1; have B1 := blk_grown BQ.out hg1 (own_ne OF.out BQ.out (by decide)); have hd0 := (blk_cell B1 0).trans rfl; have hd1 := (blk_cell B1 1).trans rfl; have he0 := blk_frozen B1 0; have he1 := blk_frozen B1 1; simp only [List.getElem?_toArray, List.getElem?_cons_zero, List.getElem?_cons_succ] at hd0 hd1; have B2 := a_ (blk_put (cs' := #[.slice A1 m1 c1, .slice (AD) ds.length cD]) B1 0 (.slice A1 m1 c1) rfl); have F2 := a_ (own_setCell (p := ⟨b, 0, none⟩) ho1 (own_ne ho1 B1 (by decide)) (.slice A1 m1 c1)); have O1 := own_other OD.out hg1 (ne_other NE.out); have O2 := a_ (own_setCell (p := ⟨b, 0, none⟩) O1 (own_ne O1 B1 (by decide)) (.slice A1 m1 c1)); have HB2 := a_ (below_set (j := 0) (v := .slice A1 m1 c1) hb1 HWB.out); have K2 := a_ ((KQ.out.trans (KeepT.grown OF.out hg1)).trans (KeepT.set B1 0 (.slice A1 m1 c1))); have N2 := a_ (ne_append NE.out hat1 OD.out); clear B1 O1 ho1 hb1 hg1 hat1)
    | (at_builtin; refine print_append_num (w0 := w0) w0.heap.size rfl (.tmp 137) (.tmp 139) 23 3 .i64 8 rfl Tryz.underlying23 info3 (by decide) (.slice AD ds.length cD) ds (0) rfl (ev_new (by first | rfl | (simp; done))) O2.out HB2.out (below_size HB2.out) (by have := L60.out; omega) ?_; intro v2 w2 ho2 hb2 hg2 hat2; obtain ⟨A2, m2, c2, ev2, M2⟩ := own_form ho2; subst ev2; have B3 := a_ (blk_grown B2.out hg2 (own_ne O2.out B2.out (by decide))); have hg0 := (blk_cell B3.out 1).trans rfl; have hh1 := blk_frozen B3.out 1; simp only [List.getElem?_toArray, List.getElem?_cons_zero, List.getElem?_cons_succ] at hg0; have F3 := a_ (own_other F2.out hg2 (ne_other (ne_symm N2.out))); have O3 := a_ ho2; have HB3 := a_ hb2; have K3 := a_ (K2.out.trans (KeepT.grown O2.out hg2)); have N3 := a_ (ne_append' N2.out hat2 F2.out); clear ho2 hb2 hg2 hat2))
   go_ret; exact ⟨by first | rfl | (simp; done), ⟨_, _, blk_put B3.out 1 _ rfl, own_setCell F3.out (own_ne F3.out B3.out (by decide)) _, own_setCell O3.out (own_ne O3.out B3.out (by decide)) _, N3.out⟩, below_set HB3.out HWB.out, (K3.out).trans (KeepT.set B3.out _ _)⟩
  | true =>
   have hC' : exEq 0 0 x.f1 0 x.f2 ⟨#[]⟩ x.f3.f0 x.f3.f0 x.f3.f1 x.f3.f1 x.f3.f2 x.f3.f2 x.f4 0 x.f5 0 = true := by rw [← hC, onlyC, k0]
   clear hC k0; go_enter Tryz.func97, Tryz.ntmps97
   go_wp2_with (first
    | (at_builtin; refine print_append_num (w0 := w0) w0.heap.size rfl (.tmp 127) (.tmp 129) 23 3 .i64 8 rfl Tryz.underlying23 info3 (by decide) (.slice AF fs.length cF) fs ((fs.length : Int)) rfl (ev_new (by first | rfl | (simp; done))) OF.out HBQ.out (below_size HBQ.out) (by have := L60.out; omega) ?_; intro v1 w1 ho1 hb1 hg1 hat1; obtain ⟨A1, m1, c1, ev1, M1⟩ := own_form ho1; subst ev1; have B1 := blk_grown BQ.out hg1 (own_ne OF.out BQ.out (by decide)); have hd0 := (blk_cell B1 0).trans rfl; have hd1 := (blk_cell B1 1).trans rfl; have he0 := blk_frozen B1 0; have he1 := blk_frozen B1 1; simp only [List.getElem?_toArray, List.getElem?_cons_zero, List.getElem?_cons_succ] at hd0 hd1; have B2 := a_ (blk_put (cs' := #[.slice A1 m1 c1, .slice (AD) ds.length cD]) B1 0 (.slice A1 m1 c1) rfl); have F2 := a_ (own_setCell (p := ⟨b, 0, none⟩) ho1 (own_ne ho1 B1 (by decide)) (.slice A1 m1 c1)); have O1 := own_other OD.out hg1 (ne_other NE.out); have O2 := a_ (own_setCell (p := ⟨b, 0, none⟩) O1 (own_ne O1 B1 (by decide)) (.slice A1 m1 c1)); have HB2 := a_ (below_set (j := 0) (v := .slice A1 m1 c1) hb1 HWB.out); have K2 := a_ ((KQ.out.trans (KeepT.grown OF.out hg1)).trans (KeepT.set B1 0 (.slice A1 m1 c1))); have N2 := a_ (ne_append NE.out hat1 OD.out); clear B1 O1 ho1 hb1 hg1 hat1)
    | (at_builtin; refine print_append_num (w0 := w0) w0.heap.size rfl (.tmp 137) (.tmp 139) 23 3 .i64 8 rfl Tryz.underlying23 info3 (by decide) (.slice AD ds.length cD) ds (0) rfl (ev_new (by first | rfl | (simp; done))) O2.out HB2.out (below_size HB2.out) (by have := L60.out; omega) ?_; intro v2 w2 ho2 hb2 hg2 hat2; obtain ⟨A2, m2, c2, ev2, M2⟩ := own_form ho2; subst ev2; have B3 := a_ (blk_grown B2.out hg2 (own_ne O2.out B2.out (by decide))); have hg0 := (blk_cell B3.out 1).trans rfl; have hh1 := blk_frozen B3.out 1; simp only [List.getElem?_toArray, List.getElem?_cons_zero, List.getElem?_cons_succ] at hg0; have F3 := a_ (own_other F2.out hg2 (ne_other (ne_symm N2.out))); have O3 := a_ ho2; have HB3 := a_ hb2; have K3 := a_ (K2.out.trans (KeepT.grown O2.out hg2)); have N3 := a_ (ne_append' N2.out hat2 F2.out); clear ho2 hb2 hg2 hat2)
    | (go_at_call 116; refine (impl_Value_good.calls x.f3.f0 x.f3.f1 x.f3.f2 (goodValueB x.f3) _ OV.out).mono ?_; rintro e wq ⟨rfl, hd⟩; have BQ := a_ (blk_below (blk_alloc HT.out.1 (.cells #[.int .i64 0, .int .u8 x.f1, .string x.f2, .int .i64 x.f3.f0, .int .i64 x.f3.f1, .string x.f3.f2, .int .i64 x.f4, .int .i64 x.f5] 106)) hd); have OF := a_ (pw_own_below (own_alloc HT.out.2.1 (.cells #[.int .i64 0, .int .u8 x.f1, .string x.f2, .int .i64 x.f3.f0, .int .i64 x.f3.f1, .string x.f3.f2, .int .i64 x.f4, .int .i64 x.f5] 106)) hd); have OD := a_ (pw_own_below (own_alloc HT.out.2.2.1 (.cells #[.int .i64 0, .int .u8 x.f1, .string x.f2, .int .i64 x.f3.f0, .int .i64 x.f3.f1, .string x.f3.f2, .int .i64 x.f4, .int .i64 x.f5] 106)) hd); have HBQ := a_ (below_step (below_alloc HB.out (.cells #[.int .i64 0, .int .u8 x.f1, .string x.f2, .int .i64 x.f3.f0, .int .i64 x.f3.f1, .string x.f3.f2, .int .i64 x.f4, .int .i64 x.f5] 106)) hd); have KQ := a_ ((KeepT.below (below_alloc (Below.refl _ w) (.cells #[.int .i64 0, .int .u8 x.f1, .string x.f2, .int .i64 x.f3.f0, .int .i64 x.f3.f1, .string x.f3.f2, .int .i64 x.f4, .int .i64 x.f5] 106))).trans (KeepT.below hd)); have hq2 := (blk_cell BQ.out 0).trans rfl; have hq3 := (blk_cell BQ.out 1).trans rfl; simp only [List.getElem?_toArray, List.getElem?_cons_zero, List.getElem?_cons_succ] at hq2 hq3; clear hd))
   go_ret; exact ⟨by first | rfl | (simp; done), ⟨_, _, blk_put B3.out 1 _ rfl, own_setCell F3.out (own_ne F3.out B3.out (by decide)) _, own_setCell O3.out (own_ne O3.out B3.out (by decide)) _, N3.out⟩, below_set HB3.out HWB.out, (K3.out).trans (KeepT.set B3.out _ _)⟩
 by_cases k1 : x.f0 = 1
 ·rw [if_neg k0, if_pos k1] at h; clear k0
  obtain ⟨rfl, rfl, rfl⟩ : r = (onlyV x && goodSymB x.f2) ∧ fs' = fs ++ [(fs.length : Int)] ∧ ds' = ds ++ [0] := by
   have := Option.some.inj h
   simp only [Prod.mk.injEq] at this; exact ⟨this.1.symm, this.2.1.symm, this.2.2.symm⟩
  clear h; rw [k1] at hx0; cases hC : onlyV x with
  | false =>
   have hC' : exEq 1 1 x.f1 0 x.f2 x.f2 x.f3.f0 0 x.f3.f1 0 x.f3.f2 ⟨#[]⟩ x.f4 0 x.f5 0 = false := by rw [← hC, onlyV, k1]
   clear hC k1; have BQ := a_ (blk_alloc HT.out.1 (.cells #[.int .i64 1, .int .u8 x.f1, .string x.f2, .int .i64 x.f3.f0, .int .i64 x.f3.f1, .string x.f3.f2, .int .i64 x.f4, .int .i64 x.f5] 106)); have OF := a_ (own_alloc HT.out.2.1 (.cells #[.int .i64 1, .int .u8 x.f1, .string x.f2, .int .i64 x.f3.f0, .int .i64 x.f3.f1, .string x.f3.f2, .int .i64 x.f4, .int .i64 x.f5] 106)); have OD := a_ (own_alloc HT.out.2.2.1 (.cells #[.int .i64 1, .int .u8 x.f1, .string x.f2, .int .i64 x.f3.f0, .int .i64 x.f3.f1, .string x.f3.f2, .int .i64 x.f4, .int .i64 x.f5] 106)); have HBQ := a_ (below_alloc HB.out (.cells #[.int .i64 1, .int .u8 x.f1, .string x.f2, .int .i64 x.f3.f0, .int .i64 x.f3.f1, .string x.f3.f2, .int .i64 x.f4, .int .i64 x.f5] 106)); have KQ := a_ (KeepT.below (below_alloc (Below.refl _ w) (.cells #[.int .i64 1, .int .u8 x.f1, .string x.f2, .int .i64 x.f3.f0, .int .i64 x.f3.f1, .string x.f3.f2, .int .i64 x.f4, .int .i64 x.f5] 106))); go_enter Tryz.func97, Tryz.ntmps97
   go_wp2_with (first
    | (at_builtin; refine print_append_num (w0 := w0) w0.heap.size rfl (.tmp 127) (.tmp 129) 23 3 .i64 8 rfl Tryz.underlying23 info3 (by decide) (.slice AF fs.length cF) fs ((fs.length : Int)) rfl (ev_new (by first | rfl | (simp; done))) OF.out HBQ.out (below_size HBQ.out) (by have := L60.out; omega) ?_; intro v1 w1 ho1 hb1 hg1 hat1; obtain ⟨A1, m1, c1, ev1, M1⟩ := own_form ho1; subst ev1; have B1 := blk_grown BQ.out hg1 (own_ne OF.out BQ.out (by decide)); have hd0 := (blk_cell B1 0).trans rfl; have hd1 := (blk_cell B1 1).trans rfl; have he0 := blk_frozen B1 0; have he1 := blk_frozen B1 1; simp only [List.getElem?_toArray, List.getElem?_cons_zero, List.getElem?_cons_succ] at hd0 hd1; have B2 := a_ (blk_put (cs' := #[.slice A1 m1 c1, .slice (AD) ds.length cD]) B1 0 (.slice A1 m1 c1) rfl); have F2 := a_ (own_setCell (p := ⟨b, 0, none⟩) ho1 (own_ne ho1 B1 (by decide)) (.slice A1 m1 c1)); have O1 := own_other OD.out hg1 (ne_other NE.out); have O2 := a_ (own_setCell (p := ⟨b, 0, none⟩) O1 (own_ne O1 B1 (by decide)) (.slice A1 m1 c1)); have HB2 := a_ (below_set (j := 0) (v := .slice A1 m1 c1) hb1 HWB.out); have K2 := a_ ((KQ.out.trans (KeepT.grown OF.out hg1)).trans (KeepT.set B1 0 (.slice A1 m1 c1))); have N2 := a_ (ne_append NE.out hat1 OD.out); clear B1 O1 ho1 hb1 hg1 hat1)
    | (at_builtin; refine print_append_num (w0 := w0) w0.heap.size rfl (.tmp 137) (.tmp 139) 23 3 .i64 8 rfl Tryz.underlying23 info3 (by decide) (.slice AD ds.length cD) ds (0) rfl (ev_new (by first | rfl | (simp; done))) O2.out HB2.out (below_size HB2.out) (by have := L60.out; omega) ?_; intro v2 w2 ho2 hb2 hg2 hat2; obtain ⟨A2, m2, c2, ev2, M2⟩ := own_form ho2; subst ev2; have B3 := a_ (blk_grown B2.out hg2 (own_ne O2.out B2.out (by decide))); have hg0 := (blk_cell B3.out 1).trans rfl; have hh1 := blk_frozen B3.out 1; simp only [List.getElem?_toArray, List.getElem?_cons_zero, List.getElem?_cons_succ] at hg0; have F3 := a_ (own_other F2.out hg2 (ne_other (ne_symm N2.out))); have O3 := a_ ho2; have HB3 := a_ hb2; have K3 := a_ (K2.out.trans (KeepT.grown O2.out hg2)); have N3 := a_ (ne_append' N2.out hat2 F2.out); clear ho2 hb2 hg2 hat2))
   go_ret; exact ⟨by first | rfl | (simp; done), ⟨_, _, blk_put B3.out 1 _ rfl, own_setCell F3.out (own_ne F3.out B3.out (by decide)) _, own_setCell O3.out (own_ne O3.out B3.out (by decide)) _, N3.out⟩, below_set HB3.out HWB.out, (K3.out).trans (KeepT.set B3.out _ _)⟩
  | true =>
   have hC' : exEq 1 1 x.f1 0 x.f2 x.f2 x.f3.f0 0 x.f3.f1 0 x.f3.f2 ⟨#[]⟩ x.f4 0 x.f5 0 = true := by rw [← hC, onlyV, k1]
   clear hC k1; go_enter Tryz.func97, Tryz.ntmps97
   go_wp2_with (first
    | (at_builtin; refine print_append_num (w0 := w0) w0.heap.size rfl (.tmp 127) (.tmp 129) 23 3 .i64 8 rfl Tryz.underlying23 info3 (by decide) (.slice AF fs.length cF) fs ((fs.length : Int)) rfl (ev_new (by first | rfl | (simp; done))) OF.out HBQ.out (below_size HBQ.out) (by have := L60.out; omega) ?_; intro v1 w1 ho1 hb1 hg1 hat1; obtain ⟨A1, m1, c1, ev1, M1⟩ := own_form ho1; subst ev1; have B1 := blk_grown BQ.out hg1 (own_ne OF.out BQ.out (by decide)); have hd0 := (blk_cell B1 0).trans rfl; have hd1 := (blk_cell B1 1).trans rfl; have he0 := blk_frozen B1 0; have he1 := blk_frozen B1 1; simp only [List.getElem?_toArray, List.getElem?_cons_zero, List.getElem?_cons_succ] at hd0 hd1; have B2 := a_ (blk_put (cs' := #[.slice A1 m1 c1, .slice (AD) ds.length cD]) B1 0 (.slice A1 m1 c1) rfl); have F2 := a_ (own_setCell (p := ⟨b, 0, none⟩) ho1 (own_ne ho1 B1 (by decide)) (.slice A1 m1 c1)); have O1 := own_other OD.out hg1 (ne_other NE.out); have O2 := a_ (own_setCell (p := ⟨b, 0, none⟩) O1 (own_ne O1 B1 (by decide)) (.slice A1 m1 c1)); have HB2 := a_ (below_set (j := 0) (v := .slice A1 m1 c1) hb1 HWB.out); have K2 := a_ ((KQ.out.trans (KeepT.grown OF.out hg1)).trans (KeepT.set B1 0 (.slice A1 m1 c1))); have N2 := a_ (ne_append NE.out hat1 OD.out); clear B1 O1 ho1 hb1 hg1 hat1)
    | (at_builtin; refine print_append_num (w0 := w0) w0.heap.size rfl (.tmp 137) (.tmp 139) 23 3 .i64 8 rfl Tryz.underlying23 info3 (by decide) (.slice AD ds.length cD) ds (0) rfl (ev_new (by first | rfl | (simp; done))) O2.out HB2.out (below_size HB2.out) (by have := L60.out; omega) ?_; intro v2 w2 ho2 hb2 hg2 hat2; obtain ⟨A2, m2, c2, ev2, M2⟩ := own_form ho2; subst ev2; have B3 := a_ (blk_grown B2.out hg2 (own_ne O2.out B2.out (by decide))); have hg0 := (blk_cell B3.out 1).trans rfl; have hh1 := blk_frozen B3.out 1; simp only [List.getElem?_toArray, List.getElem?_cons_zero, List.getElem?_cons_succ] at hg0; have F3 := a_ (own_other F2.out hg2 (ne_other (ne_symm N2.out))); have O3 := a_ ho2; have HB3 := a_ hb2; have K3 := a_ (K2.out.trans (KeepT.grown O2.out hg2)); have N3 := a_ (ne_append' N2.out hat2 F2.out); clear ho2 hb2 hg2 hat2)
    | (go_at_call 95; refine (impl_goodSym.calls x.f2 (goodSymB x.f2) _ OS.out).mono ?_; rintro e wq ⟨rfl, hd⟩; have BQ := a_ (blk_below (blk_alloc HT.out.1 (.cells #[.int .i64 1, .int .u8 x.f1, .string x.f2, .int .i64 x.f3.f0, .int .i64 x.f3.f1, .string x.f3.f2, .int .i64 x.f4, .int .i64 x.f5] 106)) hd); have OF := a_ (pw_own_below (own_alloc HT.out.2.1 (.cells #[.int .i64 1, .int .u8 x.f1, .string x.f2, .int .i64 x.f3.f0, .int .i64 x.f3.f1, .string x.f3.f2, .int .i64 x.f4, .int .i64 x.f5] 106)) hd); have OD := a_ (pw_own_below (own_alloc HT.out.2.2.1 (.cells #[.int .i64 1, .int .u8 x.f1, .string x.f2, .int .i64 x.f3.f0, .int .i64 x.f3.f1, .string x.f3.f2, .int .i64 x.f4, .int .i64 x.f5] 106)) hd); have HBQ := a_ (below_step (below_alloc HB.out (.cells #[.int .i64 1, .int .u8 x.f1, .string x.f2, .int .i64 x.f3.f0, .int .i64 x.f3.f1, .string x.f3.f2, .int .i64 x.f4, .int .i64 x.f5] 106)) hd); have KQ := a_ ((KeepT.below (below_alloc (Below.refl _ w) (.cells #[.int .i64 1, .int .u8 x.f1, .string x.f2, .int .i64 x.f3.f0, .int .i64 x.f3.f1, .string x.f3.f2, .int .i64 x.f4, .int .i64 x.f5] 106))).trans (KeepT.below hd)); have hq2 := (blk_cell BQ.out 0).trans rfl; have hq3 := (blk_cell BQ.out 1).trans rfl; simp only [List.getElem?_toArray, List.getElem?_cons_zero, List.getElem?_cons_succ] at hq2 hq3; clear hd))
   go_ret; exact ⟨by first | rfl | (simp; done), ⟨_, _, blk_put B3.out 1 _ rfl, own_setCell F3.out (own_ne F3.out B3.out (by decide)) _, own_setCell O3.out (own_ne O3.out B3.out (by decide)) _, N3.out⟩, below_set HB3.out HWB.out, (K3.out).trans (KeepT.set B3.out _ _)⟩
 by_cases k2 : x.f0 = 2
 ·rw [if_neg k0, if_neg k1, if_pos k2] at h; clear k0 k1; have hon : onlyO x = exEq 2 2 x.f1 x.f1 x.f2 ⟨#[]⟩ x.f3.f0 0 x.f3.f1 0 x.f3.f2 ⟨#[]⟩ x.f4 x.f4 x.f5 x.f5 := by rw [onlyO, k2]
  rw [k2] at hx0; clear k2; have hw1 : IntKind.i64.wrap ((fs.length : Int) - 1) = (fs.length : Int) - 1 := IntWalk.i64_in _ (by omega)
  have HW1 := a_ hw1; clear hw1; by_cases o1 : onlyO x = true
  rotate_left
  ·rw [if_neg (fun q => o1 q.1)] at h
   obtain ⟨rfl, rfl, rfl⟩ : r = (false) ∧ fs' = fs ++ [(fs.length : Int)] ∧ ds' = ds ++ [0] := by
    have := Option.some.inj h
    simp only [Prod.mk.injEq] at this; exact ⟨this.1.symm, this.2.1.symm, this.2.2.symm⟩
   clear h; have hC' : exEq 2 2 x.f1 x.f1 x.f2 ⟨#[]⟩ x.f3.f0 0 x.f3.f1 0 x.f3.f2 ⟨#[]⟩ x.f4 x.f4 x.f5 x.f5 = false := by rw [← hon]; simpa using o1
   clear hon o1; go_enter Tryz.func97, Tryz.ntmps97; go_wp2; go_quiet ((go_at_call 117; exact Calls.quiet_of_same (arIdx_calls x.f1 _)))
   generalize hgq : (w.alloc (.cells #[.int .i64 2, .int .u8 x.f1, .string x.f2, .int .i64 x.f3.f0, .int .i64 x.f3.f1, .string x.f3.f2, .int .i64 x.f4, .int .i64 x.f5] 106)).drewN nq = wq; have BQ := a_ (blk_at hgq (blk_alloc HT.out.1 (.cells #[.int .i64 2, .int .u8 x.f1, .string x.f2, .int .i64 x.f3.f0, .int .i64 x.f3.f1, .string x.f3.f2, .int .i64 x.f4, .int .i64 x.f5] 106))); have BX := a_ (blk_at hgq (blk_new w (.cells #[.int .i64 2, .int .u8 x.f1, .string x.f2, .int .i64 x.f3.f0, .int .i64 x.f3.f1, .string x.f3.f2, .int .i64 x.f4, .int .i64 x.f5] 106))); have OF := a_ (pw_own_below HT.out.2.1 (below_at hgq (below_alloc (Below.refl _ w) (.cells #[.int .i64 2, .int .u8 x.f1, .string x.f2, .int .i64 x.f3.f0, .int .i64 x.f3.f1, .string x.f3.f2, .int .i64 x.f4, .int .i64 x.f5] 106)))); have OD := a_ (pw_own_below HT.out.2.2.1 (below_at hgq (below_alloc (Below.refl _ w) (.cells #[.int .i64 2, .int .u8 x.f1, .string x.f2, .int .i64 x.f3.f0, .int .i64 x.f3.f1, .string x.f3.f2, .int .i64 x.f4, .int .i64 x.f5] 106)))); have HBQ := a_ (below_at hgq (below_alloc HB.out (.cells #[.int .i64 2, .int .u8 x.f1, .string x.f2, .int .i64 x.f3.f0, .int .i64 x.f3.f1, .string x.f3.f2, .int .i64 x.f4, .int .i64 x.f5] 106))); have KQ := a_ (KeepT.below (below_at hgq (below_alloc (Below.refl _ w) (.cells #[.int .i64 2, .int .u8 x.f1, .string x.f2, .int .i64 x.f3.f0, .int .i64 x.f3.f1, .string x.f3.f2, .int .i64 x.f4, .int .i64 x.f5] 106)))); clear hgq; have hq0z := (blk_cell BQ.out 0).trans rfl; have hq1z := (blk_cell BQ.out 1).trans rfl; have ha4z := (blk_cell BX.out 6).trans rfl; have ha5z := (blk_cell BX.out 7).trans rfl; simp only [List.getElem?_toArray, List.getElem?_cons_zero, List.getElem?_cons_succ] at hq0z hq1z ha4z ha5z
   go_wp2_with (first
    | (at_builtin; refine print_append_num (w0 := w0) w0.heap.size rfl (.tmp 127) (.tmp 129) 23 3 .i64 8 rfl Tryz.underlying23 info3 (by decide) (.slice AF fs.length cF) fs ((fs.length : Int)) rfl (ev_new (by first | rfl | (simp; done))) OF.out HBQ.out (below_size HBQ.out) (by have := L60.out; omega) ?_; intro v1 w1 ho1 hb1 hg1 hat1; obtain ⟨A1, m1, c1, ev1, M1⟩ := own_form ho1; subst ev1; have B1 := blk_grown BQ.out hg1 (own_ne OF.out BQ.out (by decide)); have hd0 := (blk_cell B1 0).trans rfl; have hd1 := (blk_cell B1 1).trans rfl; have he0 := blk_frozen B1 0; have he1 := blk_frozen B1 1; simp only [List.getElem?_toArray, List.getElem?_cons_zero, List.getElem?_cons_succ] at hd0 hd1; have B2 := a_ (blk_put (cs' := #[.slice A1 m1 c1, .slice (AD) ds.length cD]) B1 0 (.slice A1 m1 c1) rfl); have F2 := a_ (own_setCell (p := ⟨b, 0, none⟩) ho1 (own_ne ho1 B1 (by decide)) (.slice A1 m1 c1)); have O1 := own_other OD.out hg1 (ne_other NE.out); have O2 := a_ (own_setCell (p := ⟨b, 0, none⟩) O1 (own_ne O1 B1 (by decide)) (.slice A1 m1 c1)); have HB2 := a_ (below_set (j := 0) (v := .slice A1 m1 c1) hb1 HWB.out); have K2 := a_ ((KQ.out.trans (KeepT.grown OF.out hg1)).trans (KeepT.set B1 0 (.slice A1 m1 c1))); have N2 := a_ (ne_append NE.out hat1 OD.out); clear B1 O1 ho1 hb1 hg1 hat1)
    | (at_builtin; refine print_append_num (w0 := w0) w0.heap.size rfl (.tmp 137) (.tmp 139) 23 3 .i64 8 rfl Tryz.underlying23 info3 (by decide) (.slice AD ds.length cD) ds (0) rfl (ev_new (by first | rfl | (simp; done))) O2.out HB2.out (below_size HB2.out) (by have := L60.out; omega) ?_; intro v2 w2 ho2 hb2 hg2 hat2; obtain ⟨A2, m2, c2, ev2, M2⟩ := own_form ho2; subst ev2; have B3 := a_ (blk_grown B2.out hg2 (own_ne O2.out B2.out (by decide))); have hg0 := (blk_cell B3.out 1).trans rfl; have hh1 := blk_frozen B3.out 1; simp only [List.getElem?_toArray, List.getElem?_cons_zero, List.getElem?_cons_succ] at hg0; have F3 := a_ (own_other F2.out hg2 (ne_other (ne_symm N2.out))); have O3 := a_ ho2; have HB3 := a_ hb2; have K3 := a_ (K2.out.trans (KeepT.grown O2.out hg2)); have N3 := a_ (ne_append' N2.out hat2 F2.out); clear ho2 hb2 hg2 hat2))
   go_ret; exact ⟨by first | rfl | (simp; done), ⟨_, _, blk_put B3.out 1 _ rfl, own_setCell F3.out (own_ne F3.out B3.out (by decide)) _, own_setCell O3.out (own_ne O3.out B3.out (by decide)) _, N3.out⟩, below_set HB3.out HWB.out, (K3.out).trans (KeepT.set B3.out _ _)⟩
  have hC' : exEq 2 2 x.f1 x.f1 x.f2 ⟨#[]⟩ x.f3.f0 0 x.f3.f1 0 x.f3.f2 ⟨#[]⟩ x.f4 x.f4 x.f5 x.f5 = true := hon.symm.trans o1
  clear hon; by_cases a1 : arithB x.f1 = true
  rotate_left
  ·rw [if_neg (fun q => a1 q.2.1)] at h
   obtain ⟨rfl, rfl, rfl⟩ : r = (false) ∧ fs' = fs ++ [(fs.length : Int)] ∧ ds' = ds ++ [0] := by
    have := Option.some.inj h
    simp only [Prod.mk.injEq] at this; exact ⟨this.1.symm, this.2.1.symm, this.2.2.symm⟩
   clear h; have ha1 : decide (0 ≤ arIdx x.f1) = false := by simpa [arithB] using a1
   clear a1 o1; go_enter Tryz.func97, Tryz.ntmps97; go_wp2; go_quiet ((go_at_call 117; exact Calls.quiet_of_same (arIdx_calls x.f1 _)))
   generalize hgq : (w.alloc (.cells #[.int .i64 2, .int .u8 x.f1, .string x.f2, .int .i64 x.f3.f0, .int .i64 x.f3.f1, .string x.f3.f2, .int .i64 x.f4, .int .i64 x.f5] 106)).drewN nq = wq; have BQ := a_ (blk_at hgq (blk_alloc HT.out.1 (.cells #[.int .i64 2, .int .u8 x.f1, .string x.f2, .int .i64 x.f3.f0, .int .i64 x.f3.f1, .string x.f3.f2, .int .i64 x.f4, .int .i64 x.f5] 106))); have BX := a_ (blk_at hgq (blk_new w (.cells #[.int .i64 2, .int .u8 x.f1, .string x.f2, .int .i64 x.f3.f0, .int .i64 x.f3.f1, .string x.f3.f2, .int .i64 x.f4, .int .i64 x.f5] 106))); have OF := a_ (pw_own_below HT.out.2.1 (below_at hgq (below_alloc (Below.refl _ w) (.cells #[.int .i64 2, .int .u8 x.f1, .string x.f2, .int .i64 x.f3.f0, .int .i64 x.f3.f1, .string x.f3.f2, .int .i64 x.f4, .int .i64 x.f5] 106)))); have OD := a_ (pw_own_below HT.out.2.2.1 (below_at hgq (below_alloc (Below.refl _ w) (.cells #[.int .i64 2, .int .u8 x.f1, .string x.f2, .int .i64 x.f3.f0, .int .i64 x.f3.f1, .string x.f3.f2, .int .i64 x.f4, .int .i64 x.f5] 106)))); have HBQ := a_ (below_at hgq (below_alloc HB.out (.cells #[.int .i64 2, .int .u8 x.f1, .string x.f2, .int .i64 x.f3.f0, .int .i64 x.f3.f1, .string x.f3.f2, .int .i64 x.f4, .int .i64 x.f5] 106))); have KQ := a_ (KeepT.below (below_at hgq (below_alloc (Below.refl _ w) (.cells #[.int .i64 2, .int .u8 x.f1, .string x.f2, .int .i64 x.f3.f0, .int .i64 x.f3.f1, .string x.f3.f2, .int .i64 x.f4, .int .i64 x.f5] 106)))); clear hgq; have hq0z := (blk_cell BQ.out 0).trans rfl; have hq1z := (blk_cell BQ.out 1).trans rfl; have ha4z := (blk_cell BX.out 6).trans rfl; have ha5z := (blk_cell BX.out 7).trans rfl; simp only [List.getElem?_toArray, List.getElem?_cons_zero, List.getElem?_cons_succ] at hq0z hq1z ha4z ha5z
   go_wp2_with (first
    | (at_builtin; refine print_append_num (w0 := w0) w0.heap.size rfl (.tmp 127) (.tmp 129) 23 3 .i64 8 rfl Tryz.underlying23 info3 (by decide) (.slice AF fs.length cF) fs ((fs.length : Int)) rfl (ev_new (by first | rfl | (simp; done))) OF.out HBQ.out (below_size HBQ.out) (by have := L60.out; omega) ?_; intro v1 w1 ho1 hb1 hg1 hat1; obtain ⟨A1, m1, c1, ev1, M1⟩ := own_form ho1; subst ev1; have B1 := blk_grown BQ.out hg1 (own_ne OF.out BQ.out (by decide)); have hd0 := (blk_cell B1 0).trans rfl; have hd1 := (blk_cell B1 1).trans rfl; have he0 := blk_frozen B1 0; have he1 := blk_frozen B1 1; simp only [List.getElem?_toArray, List.getElem?_cons_zero, List.getElem?_cons_succ] at hd0 hd1; have B2 := a_ (blk_put (cs' := #[.slice A1 m1 c1, .slice (AD) ds.length cD]) B1 0 (.slice A1 m1 c1) rfl); have F2 := a_ (own_setCell (p := ⟨b, 0, none⟩) ho1 (own_ne ho1 B1 (by decide)) (.slice A1 m1 c1)); have O1 := own_other OD.out hg1 (ne_other NE.out); have O2 := a_ (own_setCell (p := ⟨b, 0, none⟩) O1 (own_ne O1 B1 (by decide)) (.slice A1 m1 c1)); have HB2 := a_ (below_set (j := 0) (v := .slice A1 m1 c1) hb1 HWB.out); have K2 := a_ ((KQ.out.trans (KeepT.grown OF.out hg1)).trans (KeepT.set B1 0 (.slice A1 m1 c1))); have N2 := a_ (ne_append NE.out hat1 OD.out); clear B1 O1 ho1 hb1 hg1 hat1)
    | (at_builtin; refine print_append_num (w0 := w0) w0.heap.size rfl (.tmp 137) (.tmp 139) 23 3 .i64 8 rfl Tryz.underlying23 info3 (by decide) (.slice AD ds.length cD) ds (0) rfl (ev_new (by first | rfl | (simp; done))) O2.out HB2.out (below_size HB2.out) (by have := L60.out; omega) ?_; intro v2 w2 ho2 hb2 hg2 hat2; obtain ⟨A2, m2, c2, ev2, M2⟩ := own_form ho2; subst ev2; have B3 := a_ (blk_grown B2.out hg2 (own_ne O2.out B2.out (by decide))); have hg0 := (blk_cell B3.out 1).trans rfl; have hh1 := blk_frozen B3.out 1; simp only [List.getElem?_toArray, List.getElem?_cons_zero, List.getElem?_cons_succ] at hg0; have F3 := a_ (own_other F2.out hg2 (ne_other (ne_symm N2.out))); have O3 := a_ ho2; have HB3 := a_ hb2; have K3 := a_ (K2.out.trans (KeepT.grown O2.out hg2)); have N3 := a_ (ne_append' N2.out hat2 F2.out); clear ho2 hb2 hg2 hat2))
   go_ret; exact ⟨by first | rfl | (simp; done), ⟨_, _, blk_put B3.out 1 _ rfl, own_setCell F3.out (own_ne F3.out B3.out (by decide)) _, own_setCell O3.out (own_ne O3.out B3.out (by decide)) _, N3.out⟩, below_set HB3.out HWB.out, (K3.out).trans (KeepT.set B3.out _ _)⟩
  have ha1 : decide (0 ≤ arIdx x.f1) = true := a1
  by_cases b1 : x.f5 = (fs.length : Int) - 1
  rotate_left
  ·rw [if_neg (fun q => b1 q.2.2.1)] at h
   obtain ⟨rfl, rfl, rfl⟩ : r = (false) ∧ fs' = fs ++ [(fs.length : Int)] ∧ ds' = ds ++ [0] := by
    have := Option.some.inj h
    simp only [Prod.mk.injEq] at this; exact ⟨this.1.symm, this.2.1.symm, this.2.2.symm⟩
   clear h; have hb1 : (x.f5 == (fs.length : Int) - 1) = false := by simpa using b1
   have hw1 := HW1.out; clear a1 o1 b1; go_enter Tryz.func97, Tryz.ntmps97; go_wp2; go_quiet ((go_at_call 117; exact Calls.quiet_of_same (arIdx_calls x.f1 _)))
   generalize hgq : (w.alloc (.cells #[.int .i64 2, .int .u8 x.f1, .string x.f2, .int .i64 x.f3.f0, .int .i64 x.f3.f1, .string x.f3.f2, .int .i64 x.f4, .int .i64 x.f5] 106)).drewN nq = wq; have BQ := a_ (blk_at hgq (blk_alloc HT.out.1 (.cells #[.int .i64 2, .int .u8 x.f1, .string x.f2, .int .i64 x.f3.f0, .int .i64 x.f3.f1, .string x.f3.f2, .int .i64 x.f4, .int .i64 x.f5] 106))); have BX := a_ (blk_at hgq (blk_new w (.cells #[.int .i64 2, .int .u8 x.f1, .string x.f2, .int .i64 x.f3.f0, .int .i64 x.f3.f1, .string x.f3.f2, .int .i64 x.f4, .int .i64 x.f5] 106))); have OF := a_ (pw_own_below HT.out.2.1 (below_at hgq (below_alloc (Below.refl _ w) (.cells #[.int .i64 2, .int .u8 x.f1, .string x.f2, .int .i64 x.f3.f0, .int .i64 x.f3.f1, .string x.f3.f2, .int .i64 x.f4, .int .i64 x.f5] 106)))); have OD := a_ (pw_own_below HT.out.2.2.1 (below_at hgq (below_alloc (Below.refl _ w) (.cells #[.int .i64 2, .int .u8 x.f1, .string x.f2, .int .i64 x.f3.f0, .int .i64 x.f3.f1, .string x.f3.f2, .int .i64 x.f4, .int .i64 x.f5] 106)))); have HBQ := a_ (below_at hgq (below_alloc HB.out (.cells #[.int .i64 2, .int .u8 x.f1, .string x.f2, .int .i64 x.f3.f0, .int .i64 x.f3.f1, .string x.f3.f2, .int .i64 x.f4, .int .i64 x.f5] 106))); have KQ := a_ (KeepT.below (below_at hgq (below_alloc (Below.refl _ w) (.cells #[.int .i64 2, .int .u8 x.f1, .string x.f2, .int .i64 x.f3.f0, .int .i64 x.f3.f1, .string x.f3.f2, .int .i64 x.f4, .int .i64 x.f5] 106)))); clear hgq; have hq0z := (blk_cell BQ.out 0).trans rfl; have hq1z := (blk_cell BQ.out 1).trans rfl; have ha4z := (blk_cell BX.out 6).trans rfl; have ha5z := (blk_cell BX.out 7).trans rfl; simp only [List.getElem?_toArray, List.getElem?_cons_zero, List.getElem?_cons_succ] at hq0z hq1z ha4z ha5z
   go_wp2_with (first
    | (at_builtin; refine print_append_num (w0 := w0) w0.heap.size rfl (.tmp 127) (.tmp 129) 23 3 .i64 8 rfl Tryz.underlying23 info3 (by decide) (.slice AF fs.length cF) fs ((fs.length : Int)) rfl (ev_new (by first | rfl | (simp; done))) OF.out HBQ.out (below_size HBQ.out) (by have := L60.out; omega) ?_; intro v1 w1 ho1 hb1 hg1 hat1; obtain ⟨A1, m1, c1, ev1, M1⟩ := own_form ho1; subst ev1; have B1 := blk_grown BQ.out hg1 (own_ne OF.out BQ.out (by decide)); have hd0 := (blk_cell B1 0).trans rfl; have hd1 := (blk_cell B1 1).trans rfl; have he0 := blk_frozen B1 0; have he1 := blk_frozen B1 1; simp only [List.getElem?_toArray, List.getElem?_cons_zero, List.getElem?_cons_succ] at hd0 hd1; have B2 := a_ (blk_put (cs' := #[.slice A1 m1 c1, .slice (AD) ds.length cD]) B1 0 (.slice A1 m1 c1) rfl); have F2 := a_ (own_setCell (p := ⟨b, 0, none⟩) ho1 (own_ne ho1 B1 (by decide)) (.slice A1 m1 c1)); have O1 := own_other OD.out hg1 (ne_other NE.out); have O2 := a_ (own_setCell (p := ⟨b, 0, none⟩) O1 (own_ne O1 B1 (by decide)) (.slice A1 m1 c1)); have HB2 := a_ (below_set (j := 0) (v := .slice A1 m1 c1) hb1 HWB.out); have K2 := a_ ((KQ.out.trans (KeepT.grown OF.out hg1)).trans (KeepT.set B1 0 (.slice A1 m1 c1))); have N2 := a_ (ne_append NE.out hat1 OD.out); clear B1 O1 ho1 hb1 hg1 hat1)
    | (at_builtin; refine print_append_num (w0 := w0) w0.heap.size rfl (.tmp 137) (.tmp 139) 23 3 .i64 8 rfl Tryz.underlying23 info3 (by decide) (.slice AD ds.length cD) ds (0) rfl (ev_new (by first | rfl | (simp; done))) O2.out HB2.out (below_size HB2.out) (by have := L60.out; omega) ?_; intro v2 w2 ho2 hb2 hg2 hat2; obtain ⟨A2, m2, c2, ev2, M2⟩ := own_form ho2; subst ev2; have B3 := a_ (blk_grown B2.out hg2 (own_ne O2.out B2.out (by decide))); have hg0 := (blk_cell B3.out 1).trans rfl; have hh1 := blk_frozen B3.out 1; simp only [List.getElem?_toArray, List.getElem?_cons_zero, List.getElem?_cons_succ] at hg0; have F3 := a_ (own_other F2.out hg2 (ne_other (ne_symm N2.out))); have O3 := a_ ho2; have HB3 := a_ hb2; have K3 := a_ (K2.out.trans (KeepT.grown O2.out hg2)); have N3 := a_ (ne_append' N2.out hat2 F2.out); clear ho2 hb2 hg2 hat2))
   go_ret; exact ⟨by first | rfl | (simp; done), ⟨_, _, blk_put B3.out 1 _ rfl, own_setCell F3.out (own_ne F3.out B3.out (by decide)) _, own_setCell O3.out (own_ne O3.out B3.out (by decide)) _, N3.out⟩, below_set HB3.out HWB.out, (K3.out).trans (KeepT.set B3.out _ _)⟩
  have hb1 : (x.f5 == (fs.length : Int) - 1) = true := by simpa using b1
  by_cases b2 : 0 ≤ x.f5
  rotate_left
  ·rw [if_neg (fun q => b2 q.2.2.2.1)] at h
   obtain ⟨rfl, rfl, rfl⟩ : r = (false) ∧ fs' = fs ++ [(fs.length : Int)] ∧ ds' = ds ++ [0] := by
    have := Option.some.inj h
    simp only [Prod.mk.injEq] at this; exact ⟨this.1.symm, this.2.1.symm, this.2.2.symm⟩
   clear h; have hb2 : decide (0 ≤ x.f5) = false := decide_eq_false b2
   have hw1 := HW1.out; clear a1 o1 b1 b2; go_enter Tryz.func97, Tryz.ntmps97; go_wp2; go_quiet ((go_at_call 117; exact Calls.quiet_of_same (arIdx_calls x.f1 _)))
   generalize hgq : (w.alloc (.cells #[.int .i64 2, .int .u8 x.f1, .string x.f2, .int .i64 x.f3.f0, .int .i64 x.f3.f1, .string x.f3.f2, .int .i64 x.f4, .int .i64 x.f5] 106)).drewN nq = wq; have BQ := a_ (blk_at hgq (blk_alloc HT.out.1 (.cells #[.int .i64 2, .int .u8 x.f1, .string x.f2, .int .i64 x.f3.f0, .int .i64 x.f3.f1, .string x.f3.f2, .int .i64 x.f4, .int .i64 x.f5] 106))); have BX := a_ (blk_at hgq (blk_new w (.cells #[.int .i64 2, .int .u8 x.f1, .string x.f2, .int .i64 x.f3.f0, .int .i64 x.f3.f1, .string x.f3.f2, .int .i64 x.f4, .int .i64 x.f5] 106))); have OF := a_ (pw_own_below HT.out.2.1 (below_at hgq (below_alloc (Below.refl _ w) (.cells #[.int .i64 2, .int .u8 x.f1, .string x.f2, .int .i64 x.f3.f0, .int .i64 x.f3.f1, .string x.f3.f2, .int .i64 x.f4, .int .i64 x.f5] 106)))); have OD := a_ (pw_own_below HT.out.2.2.1 (below_at hgq (below_alloc (Below.refl _ w) (.cells #[.int .i64 2, .int .u8 x.f1, .string x.f2, .int .i64 x.f3.f0, .int .i64 x.f3.f1, .string x.f3.f2, .int .i64 x.f4, .int .i64 x.f5] 106)))); have HBQ := a_ (below_at hgq (below_alloc HB.out (.cells #[.int .i64 2, .int .u8 x.f1, .string x.f2, .int .i64 x.f3.f0, .int .i64 x.f3.f1, .string x.f3.f2, .int .i64 x.f4, .int .i64 x.f5] 106))); have KQ := a_ (KeepT.below (below_at hgq (below_alloc (Below.refl _ w) (.cells #[.int .i64 2, .int .u8 x.f1, .string x.f2, .int .i64 x.f3.f0, .int .i64 x.f3.f1, .string x.f3.f2, .int .i64 x.f4, .int .i64 x.f5] 106)))); clear hgq; have hq0z := (blk_cell BQ.out 0).trans rfl; have hq1z := (blk_cell BQ.out 1).trans rfl; have ha4z := (blk_cell BX.out 6).trans rfl; have ha5z := (blk_cell BX.out 7).trans rfl; simp only [List.getElem?_toArray, List.getElem?_cons_zero, List.getElem?_cons_succ] at hq0z hq1z ha4z ha5z
   go_wp2_with (first
    | (at_builtin; refine print_append_num (w0 := w0) w0.heap.size rfl (.tmp 127) (.tmp 129) 23 3 .i64 8 rfl Tryz.underlying23 info3 (by decide) (.slice AF fs.length cF) fs ((fs.length : Int)) rfl (ev_new (by first | rfl | (simp; done))) OF.out HBQ.out (below_size HBQ.out) (by have := L60.out; omega) ?_; intro v1 w1 ho1 hb1 hg1 hat1; obtain ⟨A1, m1, c1, ev1, M1⟩ := own_form ho1; subst ev1; have B1 := blk_grown BQ.out hg1 (own_ne OF.out BQ.out (by decide)); have hd0 := (blk_cell B1 0).trans rfl; have hd1 := (blk_cell B1 1).trans rfl; have he0 := blk_frozen B1 0; have he1 := blk_frozen B1 1; simp only [List.getElem?_toArray, List.getElem?_cons_zero, List.getElem?_cons_succ] at hd0 hd1; have B2 := a_ (blk_put (cs' := #[.slice A1 m1 c1, .slice (AD) ds.length cD]) B1 0 (.slice A1 m1 c1) rfl); have F2 := a_ (own_setCell (p := ⟨b, 0, none⟩) ho1 (own_ne ho1 B1 (by decide)) (.slice A1 m1 c1)); have O1 := own_other OD.out hg1 (ne_other NE.out); have O2 := a_ (own_setCell (p := ⟨b, 0, none⟩) O1 (own_ne O1 B1 (by decide)) (.slice A1 m1 c1)); have HB2 := a_ (below_set (j := 0) (v := .slice A1 m1 c1) hb1 HWB.out); have K2 := a_ ((KQ.out.trans (KeepT.grown OF.out hg1)).trans (KeepT.set B1 0 (.slice A1 m1 c1))); have N2 := a_ (ne_append NE.out hat1 OD.out); clear B1 O1 ho1 hb1 hg1 hat1)
    | (at_builtin; refine print_append_num (w0 := w0) w0.heap.size rfl (.tmp 137) (.tmp 139) 23 3 .i64 8 rfl Tryz.underlying23 info3 (by decide) (.slice AD ds.length cD) ds (0) rfl (ev_new (by first | rfl | (simp; done))) O2.out HB2.out (below_size HB2.out) (by have := L60.out; omega) ?_; intro v2 w2 ho2 hb2 hg2 hat2; obtain ⟨A2, m2, c2, ev2, M2⟩ := own_form ho2; subst ev2; have B3 := a_ (blk_grown B2.out hg2 (own_ne O2.out B2.out (by decide))); have hg0 := (blk_cell B3.out 1).trans rfl; have hh1 := blk_frozen B3.out 1; simp only [List.getElem?_toArray, List.getElem?_cons_zero, List.getElem?_cons_succ] at hg0; have F3 := a_ (own_other F2.out hg2 (ne_other (ne_symm N2.out))); have O3 := a_ ho2; have HB3 := a_ hb2; have K3 := a_ (K2.out.trans (KeepT.grown O2.out hg2)); have N3 := a_ (ne_append' N2.out hat2 F2.out); clear ho2 hb2 hg2 hat2))
   go_ret; exact ⟨by first | rfl | (simp; done), ⟨_, _, blk_put B3.out 1 _ rfl, own_setCell F3.out (own_ne F3.out B3.out (by decide)) _, own_setCell O3.out (own_ne O3.out B3.out (by decide)) _, N3.out⟩, below_set HB3.out HWB.out, (K3.out).trans (KeepT.set B3.out _ _)⟩
  have hb2 : decide (0 ≤ x.f5) = true := decide_eq_true b2
  by_cases a2 : 0 ≤ x.f4
  rotate_left
  ·rw [if_neg (fun q => a2 q.2.2.2.2)] at h
   obtain ⟨rfl, rfl, rfl⟩ : r = (false) ∧ fs' = fs ++ [(fs.length : Int)] ∧ ds' = ds ++ [0] := by
    have := Option.some.inj h
    simp only [Prod.mk.injEq] at this; exact ⟨this.1.symm, this.2.1.symm, this.2.2.symm⟩
   clear h; have ha2 : decide (0 ≤ x.f4) = false := decide_eq_false a2
   have hw1 := HW1.out; clear a1 o1 b1 b2 a2; go_enter Tryz.func97, Tryz.ntmps97; go_wp2; go_quiet ((go_at_call 117; exact Calls.quiet_of_same (arIdx_calls x.f1 _)))
   generalize hgq : (w.alloc (.cells #[.int .i64 2, .int .u8 x.f1, .string x.f2, .int .i64 x.f3.f0, .int .i64 x.f3.f1, .string x.f3.f2, .int .i64 x.f4, .int .i64 x.f5] 106)).drewN nq = wq; have BQ := a_ (blk_at hgq (blk_alloc HT.out.1 (.cells #[.int .i64 2, .int .u8 x.f1, .string x.f2, .int .i64 x.f3.f0, .int .i64 x.f3.f1, .string x.f3.f2, .int .i64 x.f4, .int .i64 x.f5] 106))); have BX := a_ (blk_at hgq (blk_new w (.cells #[.int .i64 2, .int .u8 x.f1, .string x.f2, .int .i64 x.f3.f0, .int .i64 x.f3.f1, .string x.f3.f2, .int .i64 x.f4, .int .i64 x.f5] 106))); have OF := a_ (pw_own_below HT.out.2.1 (below_at hgq (below_alloc (Below.refl _ w) (.cells #[.int .i64 2, .int .u8 x.f1, .string x.f2, .int .i64 x.f3.f0, .int .i64 x.f3.f1, .string x.f3.f2, .int .i64 x.f4, .int .i64 x.f5] 106)))); have OD := a_ (pw_own_below HT.out.2.2.1 (below_at hgq (below_alloc (Below.refl _ w) (.cells #[.int .i64 2, .int .u8 x.f1, .string x.f2, .int .i64 x.f3.f0, .int .i64 x.f3.f1, .string x.f3.f2, .int .i64 x.f4, .int .i64 x.f5] 106)))); have HBQ := a_ (below_at hgq (below_alloc HB.out (.cells #[.int .i64 2, .int .u8 x.f1, .string x.f2, .int .i64 x.f3.f0, .int .i64 x.f3.f1, .string x.f3.f2, .int .i64 x.f4, .int .i64 x.f5] 106))); have KQ := a_ (KeepT.below (below_at hgq (below_alloc (Below.refl _ w) (.cells #[.int .i64 2, .int .u8 x.f1, .string x.f2, .int .i64 x.f3.f0, .int .i64 x.f3.f1, .string x.f3.f2, .int .i64 x.f4, .int .i64 x.f5] 106)))); clear hgq; have hq0z := (blk_cell BQ.out 0).trans rfl; have hq1z := (blk_cell BQ.out 1).trans rfl; have ha4z := (blk_cell BX.out 6).trans rfl; have ha5z := (blk_cell BX.out 7).trans rfl; simp only [List.getElem?_toArray, List.getElem?_cons_zero, List.getElem?_cons_succ] at hq0z hq1z ha4z ha5z
   go_wp2_with (first
    | (at_builtin; refine print_append_num (w0 := w0) w0.heap.size rfl (.tmp 127) (.tmp 129) 23 3 .i64 8 rfl Tryz.underlying23 info3 (by decide) (.slice AF fs.length cF) fs ((fs.length : Int)) rfl (ev_new (by first | rfl | (simp; done))) OF.out HBQ.out (below_size HBQ.out) (by have := L60.out; omega) ?_; intro v1 w1 ho1 hb1 hg1 hat1; obtain ⟨A1, m1, c1, ev1, M1⟩ := own_form ho1; subst ev1; have B1 := blk_grown BQ.out hg1 (own_ne OF.out BQ.out (by decide)); have hd0 := (blk_cell B1 0).trans rfl; have hd1 := (blk_cell B1 1).trans rfl; have he0 := blk_frozen B1 0; have he1 := blk_frozen B1 1; simp only [List.getElem?_toArray, List.getElem?_cons_zero, List.getElem?_cons_succ] at hd0 hd1; have B2 := a_ (blk_put (cs' := #[.slice A1 m1 c1, .slice (AD) ds.length cD]) B1 0 (.slice A1 m1 c1) rfl); have F2 := a_ (own_setCell (p := ⟨b, 0, none⟩) ho1 (own_ne ho1 B1 (by decide)) (.slice A1 m1 c1)); have O1 := own_other OD.out hg1 (ne_other NE.out); have O2 := a_ (own_setCell (p := ⟨b, 0, none⟩) O1 (own_ne O1 B1 (by decide)) (.slice A1 m1 c1)); have HB2 := a_ (below_set (j := 0) (v := .slice A1 m1 c1) hb1 HWB.out); have K2 := a_ ((KQ.out.trans (KeepT.grown OF.out hg1)).trans (KeepT.set B1 0 (.slice A1 m1 c1))); have N2 := a_ (ne_append NE.out hat1 OD.out); clear B1 O1 ho1 hb1 hg1 hat1)
    | (at_builtin; refine print_append_num (w0 := w0) w0.heap.size rfl (.tmp 137) (.tmp 139) 23 3 .i64 8 rfl Tryz.underlying23 info3 (by decide) (.slice AD ds.length cD) ds (0) rfl (ev_new (by first | rfl | (simp; done))) O2.out HB2.out (below_size HB2.out) (by have := L60.out; omega) ?_; intro v2 w2 ho2 hb2 hg2 hat2; obtain ⟨A2, m2, c2, ev2, M2⟩ := own_form ho2; subst ev2; have B3 := a_ (blk_grown B2.out hg2 (own_ne O2.out B2.out (by decide))); have hg0 := (blk_cell B3.out 1).trans rfl; have hh1 := blk_frozen B3.out 1; simp only [List.getElem?_toArray, List.getElem?_cons_zero, List.getElem?_cons_succ] at hg0; have F3 := a_ (own_other F2.out hg2 (ne_other (ne_symm N2.out))); have O3 := a_ ho2; have HB3 := a_ hb2; have K3 := a_ (K2.out.trans (KeepT.grown O2.out hg2)); have N3 := a_ (ne_append' N2.out hat2 F2.out); clear ho2 hb2 hg2 hat2))
   go_ret; exact ⟨by first | rfl | (simp; done), ⟨_, _, blk_put B3.out 1 _ rfl, own_setCell F3.out (own_ne F3.out B3.out (by decide)) _, own_setCell O3.out (own_ne O3.out B3.out (by decide)) _, N3.out⟩, below_set HB3.out HWB.out, (K3.out).trans (KeepT.set B3.out _ _)⟩
  have ha2 : decide (0 ≤ x.f4) = true := decide_eq_true a2
  rw [if_pos ⟨o1, a1, b1, b2, a2⟩] at h; have hl5 : x.f5 < (fs.length : Int) := by omega
  have L1 : Aside0 (x.f5 < (ds.length : Int)) := ⟨by have := L60.out; omega⟩
  clear a1 o1 b1; by_cases g1 : 0 ≤ rd fs x.f5 ∧ rd fs x.f5 ≤ 64
  rotate_left
  ·rw [if_neg g1] at h; cases h
  rw [if_pos g1] at h; have hw2 : IntKind.i64.wrap (rd fs x.f5 - 1) = rd fs x.f5 - 1 := IntWalk.i64_in _ (by omega)
  have HW2 := a_ hw2; clear hw2 g1; obtain ⟨ad5, e5, hy5⟩ := (own_readsI (own_alloc HT.out.2.1 (.cells #[.int .i64 2, .int .u8 x.f1, .string x.f2, .int .i64 x.f3.f0, .int .i64 x.f3.f1, .string x.f3.f2, .int .i64 x.f4, .int .i64 x.f5] 106))).at_ x.f5 b2 hl5; cases e5; by_cases a3 : x.f4 = rd fs x.f5 - 1
  rotate_left
  ·rw [if_neg a3] at h
   obtain ⟨rfl, rfl, rfl⟩ : r = (false) ∧ fs' = fs ++ [(fs.length : Int)] ∧ ds' = ds ++ [0] := by
    have := Option.some.inj h
    simp only [Prod.mk.injEq] at this; exact ⟨this.1.symm, this.2.1.symm, this.2.2.symm⟩
   clear h; have ha3 : (x.f4 == rd fs x.f5 - 1) = false := by simpa using a3
   have hw1 := HW1.out; have hw2 := HW2.out; clear a3; go_enter Tryz.func97, Tryz.ntmps97; go_wp2; go_quiet ((go_at_call 117; exact Calls.quiet_of_same (arIdx_calls x.f1 _)))
   generalize hgq : (w.alloc (.cells #[.int .i64 2, .int .u8 x.f1, .string x.f2, .int .i64 x.f3.f0, .int .i64 x.f3.f1, .string x.f3.f2, .int .i64 x.f4, .int .i64 x.f5] 106)).drewN nq = wq; have BQ := a_ (blk_at hgq (blk_alloc HT.out.1 (.cells #[.int .i64 2, .int .u8 x.f1, .string x.f2, .int .i64 x.f3.f0, .int .i64 x.f3.f1, .string x.f3.f2, .int .i64 x.f4, .int .i64 x.f5] 106))); have BX := a_ (blk_at hgq (blk_new w (.cells #[.int .i64 2, .int .u8 x.f1, .string x.f2, .int .i64 x.f3.f0, .int .i64 x.f3.f1, .string x.f3.f2, .int .i64 x.f4, .int .i64 x.f5] 106))); have OF := a_ (pw_own_below HT.out.2.1 (below_at hgq (below_alloc (Below.refl _ w) (.cells #[.int .i64 2, .int .u8 x.f1, .string x.f2, .int .i64 x.f3.f0, .int .i64 x.f3.f1, .string x.f3.f2, .int .i64 x.f4, .int .i64 x.f5] 106)))); have OD := a_ (pw_own_below HT.out.2.2.1 (below_at hgq (below_alloc (Below.refl _ w) (.cells #[.int .i64 2, .int .u8 x.f1, .string x.f2, .int .i64 x.f3.f0, .int .i64 x.f3.f1, .string x.f3.f2, .int .i64 x.f4, .int .i64 x.f5] 106)))); have HBQ := a_ (below_at hgq (below_alloc HB.out (.cells #[.int .i64 2, .int .u8 x.f1, .string x.f2, .int .i64 x.f3.f0, .int .i64 x.f3.f1, .string x.f3.f2, .int .i64 x.f4, .int .i64 x.f5] 106))); have KQ := a_ (KeepT.below (below_at hgq (below_alloc (Below.refl _ w) (.cells #[.int .i64 2, .int .u8 x.f1, .string x.f2, .int .i64 x.f3.f0, .int .i64 x.f3.f1, .string x.f3.f2, .int .i64 x.f4, .int .i64 x.f5] 106)))); clear hgq; have hq0z := (blk_cell BQ.out 0).trans rfl; have hq1z := (blk_cell BQ.out 1).trans rfl; have ha4z := (blk_cell BX.out 6).trans rfl; have ha5z := (blk_cell BX.out 7).trans rfl; simp only [List.getElem?_toArray, List.getElem?_cons_zero, List.getElem?_cons_succ] at hq0z hq1z ha4z ha5z
   go_wp2_with (first
    | (at_builtin; refine print_append_num (w0 := w0) w0.heap.size rfl (.tmp 127) (.tmp 129) 23 3 .i64 8 rfl Tryz.underlying23 info3 (by decide) (.slice (some ad5) fs.length cF) fs ((fs.length : Int)) rfl (ev_new (by first | rfl | (simp; done))) OF.out HBQ.out (below_size HBQ.out) (by have := L60.out; omega) ?_; intro v1 w1 ho1 hb1 hg1 hat1; obtain ⟨A1, m1, c1, ev1, M1⟩ := own_form ho1; subst ev1; have B1 := blk_grown BQ.out hg1 (own_ne OF.out BQ.out (by decide)); have hd0 := (blk_cell B1 0).trans rfl; have hd1 := (blk_cell B1 1).trans rfl; have he0 := blk_frozen B1 0; have he1 := blk_frozen B1 1; simp only [List.getElem?_toArray, List.getElem?_cons_zero, List.getElem?_cons_succ] at hd0 hd1; have B2 := a_ (blk_put (cs' := #[.slice A1 m1 c1, .slice (AD) ds.length cD]) B1 0 (.slice A1 m1 c1) rfl); have F2 := a_ (own_setCell (p := ⟨b, 0, none⟩) ho1 (own_ne ho1 B1 (by decide)) (.slice A1 m1 c1)); have O1 := own_other OD.out hg1 (ne_other NE.out); have O2 := a_ (own_setCell (p := ⟨b, 0, none⟩) O1 (own_ne O1 B1 (by decide)) (.slice A1 m1 c1)); have HB2 := a_ (below_set (j := 0) (v := .slice A1 m1 c1) hb1 HWB.out); have K2 := a_ ((KQ.out.trans (KeepT.grown OF.out hg1)).trans (KeepT.set B1 0 (.slice A1 m1 c1))); have N2 := a_ (ne_append NE.out hat1 OD.out); clear B1 O1 ho1 hb1 hg1 hat1)
    | (at_builtin; refine print_append_num (w0 := w0) w0.heap.size rfl (.tmp 137) (.tmp 139) 23 3 .i64 8 rfl Tryz.underlying23 info3 (by decide) (.slice AD ds.length cD) ds (0) rfl (ev_new (by first | rfl | (simp; done))) O2.out HB2.out (below_size HB2.out) (by have := L60.out; omega) ?_; intro v2 w2 ho2 hb2 hg2 hat2; obtain ⟨A2, m2, c2, ev2, M2⟩ := own_form ho2; subst ev2; have B3 := a_ (blk_grown B2.out hg2 (own_ne O2.out B2.out (by decide))); have hg0 := (blk_cell B3.out 1).trans rfl; have hh1 := blk_frozen B3.out 1; simp only [List.getElem?_toArray, List.getElem?_cons_zero, List.getElem?_cons_succ] at hg0; have F3 := a_ (own_other F2.out hg2 (ne_other (ne_symm N2.out))); have O3 := a_ ho2; have HB3 := a_ hb2; have K3 := a_ (K2.out.trans (KeepT.grown O2.out hg2)); have N3 := a_ (ne_append' N2.out hat2 F2.out); clear ho2 hb2 hg2 hat2))
   go_ret; exact ⟨by first | rfl | (simp; done), ⟨_, _, blk_put B3.out 1 _ rfl, own_setCell F3.out (own_ne F3.out B3.out (by decide)) _, own_setCell O3.out (own_ne O3.out B3.out (by decide)) _, N3.out⟩, below_set HB3.out HWB.out, (K3.out).trans (KeepT.set B3.out _ _)⟩
  rw [if_pos a3] at h; have ha3 : (x.f4 == rd fs x.f5 - 1) = true := by simpa using a3
  clear a3; by_cases g2 : x.f4 < (fs.length : Int) ∧ 0 ≤ rd ds x.f4 ∧ rd ds x.f4 ≤ 64 ∧ 0 ≤ rd ds x.f5 ∧ rd ds x.f5 ≤ 64
  rotate_left
  ·rw [if_neg g2] at h; cases h
  rw [if_pos g2] at h; obtain ⟨hl4, g2, g3, g4, g5⟩ := g2; have L2 : Aside0 (x.f4 < (ds.length : Int)) := ⟨by have := L60.out; omega⟩
  have hw3 : IntKind.i64.wrap (1 + mx (rd ds x.f4) (rd ds x.f5)) = 1 + mx (rd ds x.f4) (rd ds x.f5) := IntWalk.i64_in _ (by unfold mx; split <;> omega)
  have HW3 := a_ hw3; clear hw3
  obtain ⟨rfl, rfl, rfl⟩ : r = decide (1 + mx (rd ds x.f4) (rd ds x.f5) ≤ 20) ∧ fs' = fs ++ [rd fs x.f4] ∧ ds' = ds ++ [1 + mx (rd ds x.f4) (rd ds x.f5)] := by
   have := Option.some.inj h
   simp only [Prod.mk.injEq] at this; exact ⟨this.1.symm, this.2.1.symm, this.2.2.symm⟩
  clear h; have hw1 := HW1.out; have hw2 := HW2.out; go_enter Tryz.func97, Tryz.ntmps97; go_wp2; go_quiet ((go_at_call 117; exact Calls.quiet_of_same (arIdx_calls x.f1 _)))
  generalize hgq : (w.alloc (.cells #[.int .i64 2, .int .u8 x.f1, .string x.f2, .int .i64 x.f3.f0, .int .i64 x.f3.f1, .string x.f3.f2, .int .i64 x.f4, .int .i64 x.f5] 106)).drewN nq = wq; have BQ := a_ (blk_at hgq (blk_alloc HT.out.1 (.cells #[.int .i64 2, .int .u8 x.f1, .string x.f2, .int .i64 x.f3.f0, .int .i64 x.f3.f1, .string x.f3.f2, .int .i64 x.f4, .int .i64 x.f5] 106))); have BX := a_ (blk_at hgq (blk_new w (.cells #[.int .i64 2, .int .u8 x.f1, .string x.f2, .int .i64 x.f3.f0, .int .i64 x.f3.f1, .string x.f3.f2, .int .i64 x.f4, .int .i64 x.f5] 106))); have OF := a_ (pw_own_below HT.out.2.1 (below_at hgq (below_alloc (Below.refl _ w) (.cells #[.int .i64 2, .int .u8 x.f1, .string x.f2, .int .i64 x.f3.f0, .int .i64 x.f3.f1, .string x.f3.f2, .int .i64 x.f4, .int .i64 x.f5] 106)))); have OD := a_ (pw_own_below HT.out.2.2.1 (below_at hgq (below_alloc (Below.refl _ w) (.cells #[.int .i64 2, .int .u8 x.f1, .string x.f2, .int .i64 x.f3.f0, .int .i64 x.f3.f1, .string x.f3.f2, .int .i64 x.f4, .int .i64 x.f5] 106)))); have HBQ := a_ (below_at hgq (below_alloc HB.out (.cells #[.int .i64 2, .int .u8 x.f1, .string x.f2, .int .i64 x.f3.f0, .int .i64 x.f3.f1, .string x.f3.f2, .int .i64 x.f4, .int .i64 x.f5] 106))); have KQ := a_ (KeepT.below (below_at hgq (below_alloc (Below.refl _ w) (.cells #[.int .i64 2, .int .u8 x.f1, .string x.f2, .int .i64 x.f3.f0, .int .i64 x.f3.f1, .string x.f3.f2, .int .i64 x.f4, .int .i64 x.f5] 106)))); clear hgq; have hq0z := (blk_cell BQ.out 0).trans rfl; have hq1z := (blk_cell BQ.out 1).trans rfl; have ha4z := (blk_cell BX.out 6).trans rfl; have ha5z := (blk_cell BX.out 7).trans rfl; simp only [List.getElem?_toArray, List.getElem?_cons_zero, List.getElem?_cons_succ] at hq0z hq1z ha4z ha5z; obtain ⟨ad4, e4, hy4⟩ := (own_readsI OF.out).at_ x.f4 a2 hl4; cases e4; have hi0 : (0 : Int) ≤ x.f4 := a2
  go_wp2; go_quiet (fail)
  generalize hgq : wq.drewN nq = wr; replace BQ := a_ (blk_at hgq BQ.out); replace BX := a_ (blk_at hgq BX.out); replace OF := a_ (pw_own_below OF.out (below_at hgq (Below.refl _ _))); replace OD := a_ (pw_own_below OD.out (below_at hgq (Below.refl _ _))); replace HBQ := a_ (below_at hgq HBQ.out); replace KQ := a_ (KQ.out.trans (KeepT.below (below_at hgq (Below.refl _ _)))); clear hgq; have hq0y := (blk_cell BQ.out 0).trans rfl; have hq1y := (blk_cell BQ.out 1).trans rfl; have ha4y := (blk_cell BX.out 6).trans rfl; have ha5y := (blk_cell BX.out 7).trans rfl; simp only [List.getElem?_toArray, List.getElem?_cons_zero, List.getElem?_cons_succ] at hq0y hq1y ha4y ha5y; obtain ⟨ad6, e6, hy6⟩ := (own_readsI OD.out).at_ x.f4 a2 L2.out; cases e6; obtain ⟨ad7, e7, hy7⟩ := (own_readsI OD.out).at_ x.f5 b2 L1.out; cases e7; have hl8 := L1.out; have hl9 := L2.out; by_cases cm : rd ds x.f4 < rd ds x.f5
  ·have em := mx_lt cm; have hw3 := HW3.out; rw [em] at hw3; have EM := a_ em; clear em; go_wp2; go_quiet (fail)
   generalize hgq : wr.drewN nq = ws; replace BQ := a_ (blk_at hgq BQ.out); replace BX := a_ (blk_at hgq BX.out); replace OF := a_ (pw_own_below OF.out (below_at hgq (Below.refl _ _))); replace OD := a_ (pw_own_below OD.out (below_at hgq (Below.refl _ _))); replace HBQ := a_ (below_at hgq HBQ.out); replace KQ := a_ (KQ.out.trans (KeepT.below (below_at hgq (Below.refl _ _)))); clear hgq; have hq0x := (blk_cell BQ.out 0).trans rfl; have hq1x := (blk_cell BQ.out 1).trans rfl; have ha4x := (blk_cell BX.out 6).trans rfl; have ha5x := (blk_cell BX.out 7).trans rfl; simp only [List.getElem?_toArray, List.getElem?_cons_zero, List.getElem?_cons_succ] at hq0x hq1x ha4x ha5x
   go_wp2_with (first
    | (at_builtin; refine print_append_num (w0 := w0) w0.heap.size rfl (.tmp 127) (.tmp 129) 23 3 .i64 8 rfl Tryz.underlying23 info3 (by decide) (.slice (some ad5) fs.length cF) fs (rd fs x.f4) rfl (ev_new (by first | rfl | (simp; done))) OF.out HBQ.out (below_size HBQ.out) (by have := L60.out; omega) ?_; intro v1 w1 ho1 hb1 hg1 hat1; obtain ⟨A1, m1, c1, ev1, M1⟩ := own_form ho1; subst ev1; have B1 := blk_grown BQ.out hg1 (own_ne OF.out BQ.out (by decide)); have hd0 := (blk_cell B1 0).trans rfl; have hd1 := (blk_cell B1 1).trans rfl; have he0 := blk_frozen B1 0; have he1 := blk_frozen B1 1; simp only [List.getElem?_toArray, List.getElem?_cons_zero, List.getElem?_cons_succ] at hd0 hd1; have B2 := a_ (blk_put (cs' := #[.slice A1 m1 c1, .slice ((some ad6)) ds.length cD]) B1 0 (.slice A1 m1 c1) rfl); have F2 := a_ (own_setCell (p := ⟨b, 0, none⟩) ho1 (own_ne ho1 B1 (by decide)) (.slice A1 m1 c1)); have O1 := own_other OD.out hg1 (ne_other NE.out); have O2 := a_ (own_setCell (p := ⟨b, 0, none⟩) O1 (own_ne O1 B1 (by decide)) (.slice A1 m1 c1)); have HB2 := a_ (below_set (j := 0) (v := .slice A1 m1 c1) hb1 HWB.out); have K2 := a_ ((KQ.out.trans (KeepT.grown OF.out hg1)).trans (KeepT.set B1 0 (.slice A1 m1 c1))); have N2 := a_ (ne_append NE.out hat1 OD.out); clear B1 O1 ho1 hb1 hg1 hat1)
    | (at_builtin; refine print_append_num (w0 := w0) w0.heap.size rfl (.tmp 137) (.tmp 139) 23 3 .i64 8 rfl Tryz.underlying23 info3 (by decide) (.slice (some ad6) ds.length cD) ds (1 + rd ds x.f5) rfl (ev_new (by first | rfl | (simp; done))) O2.out HB2.out (below_size HB2.out) (by have := L60.out; omega) ?_; intro v2 w2 ho2 hb2 hg2 hat2; obtain ⟨A2, m2, c2, ev2, M2⟩ := own_form ho2; subst ev2; have B3 := a_ (blk_grown B2.out hg2 (own_ne O2.out B2.out (by decide))); have hg0 := (blk_cell B3.out 1).trans rfl; have hh1 := blk_frozen B3.out 1; simp only [List.getElem?_toArray, List.getElem?_cons_zero, List.getElem?_cons_succ] at hg0; have F3 := a_ (own_other F2.out hg2 (ne_other (ne_symm N2.out))); have O3 := a_ ho2; have HB3 := a_ hb2; have K3 := a_ (K2.out.trans (KeepT.grown O2.out hg2)); have N3 := a_ (ne_append' N2.out hat2 F2.out); clear ho2 hb2 hg2 hat2))
   go_ret; rw [EM.out]; exact ⟨by first | rfl | (simp; done), ⟨_, _, blk_put B3.out 1 _ rfl, own_setCell F3.out (own_ne F3.out B3.out (by decide)) _, own_setCell O3.out (own_ne O3.out B3.out (by decide)) _, N3.out⟩, below_set HB3.out HWB.out, (K3.out).trans (KeepT.set B3.out _ _)⟩
  ·have em := mx_ge cm; have hw3 := HW3.out; rw [em] at hw3; have EM := a_ em; clear em; go_wp2; go_quiet (fail)
   generalize hgq : wr.drewN nq = ws; replace BQ := a_ (blk_at hgq BQ.out); replace BX := a_ (blk_at hgq BX.out); replace OF := a_ (pw_own_below OF.out (below_at hgq (Below.refl _ _))); replace OD := a_ (pw_own_below OD.out (below_at hgq (Below.refl _ _))); replace HBQ := a_ (below_at hgq HBQ.out); replace KQ := a_ (KQ.out.trans (KeepT.below (below_at hgq (Below.refl _ _)))); clear hgq; have hq0x := (blk_cell BQ.out 0).trans rfl; have hq1x := (blk_cell BQ.out 1).trans rfl; have ha4x := (blk_cell BX.out 6).trans rfl; have ha5x := (blk_cell BX.out 7).trans rfl; simp only [List.getElem?_toArray, List.getElem?_cons_zero, List.getElem?_cons_succ] at hq0x hq1x ha4x ha5x
   go_wp2_with (first
    | (at_builtin; refine print_append_num (w0 := w0) w0.heap.size rfl (.tmp 127) (.tmp 129) 23 3 .i64 8 rfl Tryz.underlying23 info3 (by decide) (.slice (some ad5) fs.length cF) fs (rd fs x.f4) rfl (ev_new (by first | rfl | (simp; done))) OF.out HBQ.out (below_size HBQ.out) (by have := L60.out; omega) ?_; intro v1 w1 ho1 hb1 hg1 hat1; obtain ⟨A1, m1, c1, ev1, M1⟩ := own_form ho1; subst ev1; have B1 := blk_grown BQ.out hg1 (own_ne OF.out BQ.out (by decide)); have hd0 := (blk_cell B1 0).trans rfl; have hd1 := (blk_cell B1 1).trans rfl; have he0 := blk_frozen B1 0; have he1 := blk_frozen B1 1; simp only [List.getElem?_toArray, List.getElem?_cons_zero, List.getElem?_cons_succ] at hd0 hd1; have B2 := a_ (blk_put (cs' := #[.slice A1 m1 c1, .slice ((some ad6)) ds.length cD]) B1 0 (.slice A1 m1 c1) rfl); have F2 := a_ (own_setCell (p := ⟨b, 0, none⟩) ho1 (own_ne ho1 B1 (by decide)) (.slice A1 m1 c1)); have O1 := own_other OD.out hg1 (ne_other NE.out); have O2 := a_ (own_setCell (p := ⟨b, 0, none⟩) O1 (own_ne O1 B1 (by decide)) (.slice A1 m1 c1)); have HB2 := a_ (below_set (j := 0) (v := .slice A1 m1 c1) hb1 HWB.out); have K2 := a_ ((KQ.out.trans (KeepT.grown OF.out hg1)).trans (KeepT.set B1 0 (.slice A1 m1 c1))); have N2 := a_ (ne_append NE.out hat1 OD.out); clear B1 O1 ho1 hb1 hg1 hat1)
    | (at_builtin; refine print_append_num (w0 := w0) w0.heap.size rfl (.tmp 137) (.tmp 139) 23 3 .i64 8 rfl Tryz.underlying23 info3 (by decide) (.slice (some ad6) ds.length cD) ds (1 + rd ds x.f4) rfl (ev_new (by first | rfl | (simp; done))) O2.out HB2.out (below_size HB2.out) (by have := L60.out; omega) ?_; intro v2 w2 ho2 hb2 hg2 hat2; obtain ⟨A2, m2, c2, ev2, M2⟩ := own_form ho2; subst ev2; have B3 := a_ (blk_grown B2.out hg2 (own_ne O2.out B2.out (by decide))); have hg0 := (blk_cell B3.out 1).trans rfl; have hh1 := blk_frozen B3.out 1; simp only [List.getElem?_toArray, List.getElem?_cons_zero, List.getElem?_cons_succ] at hg0; have F3 := a_ (own_other F2.out hg2 (ne_other (ne_symm N2.out))); have O3 := a_ ho2; have HB3 := a_ hb2; have K3 := a_ (K2.out.trans (KeepT.grown O2.out hg2)); have N3 := a_ (ne_append' N2.out hat2 F2.out); clear ho2 hb2 hg2 hat2))
   go_ret; rw [EM.out]; exact ⟨by first | rfl | (simp; done), ⟨_, _, blk_put B3.out 1 _ rfl, own_setCell F3.out (own_ne F3.out B3.out (by decide)) _, own_setCell O3.out (own_ne O3.out B3.out (by decide)) _, N3.out⟩, below_set HB3.out HWB.out, (K3.out).trans (KeepT.set B3.out _ _)⟩
 ·rw [if_neg k0, if_neg k1, if_neg k2] at h
  obtain ⟨rfl, rfl, rfl⟩ : r = (false) ∧ fs' = fs ++ [(fs.length : Int)] ∧ ds' = ds ++ [0] := by
   have := Option.some.inj h
   simp only [Prod.mk.injEq] at this; exact ⟨this.1.symm, this.2.1.symm, this.2.2.symm⟩
  clear h; have p0 : (x.f0 == 0) = false := beq_eq_false_iff_ne.mpr k0
  have p1 : (x.f0 == 1) = false := beq_eq_false_iff_ne.mpr k1
  have p2 : (x.f0 == 2) = false := beq_eq_false_iff_ne.mpr k2
  clear k0 k1 k2; have BQ := a_ (blk_alloc HT.out.1 (.cells #[.int .i64 x.f0, .int .u8 x.f1, .string x.f2, .int .i64 x.f3.f0, .int .i64 x.f3.f1, .string x.f3.f2, .int .i64 x.f4, .int .i64 x.f5] 106)); have OF := a_ (own_alloc HT.out.2.1 (.cells #[.int .i64 x.f0, .int .u8 x.f1, .string x.f2, .int .i64 x.f3.f0, .int .i64 x.f3.f1, .string x.f3.f2, .int .i64 x.f4, .int .i64 x.f5] 106)); have OD := a_ (own_alloc HT.out.2.2.1 (.cells #[.int .i64 x.f0, .int .u8 x.f1, .string x.f2, .int .i64 x.f3.f0, .int .i64 x.f3.f1, .string x.f3.f2, .int .i64 x.f4, .int .i64 x.f5] 106)); have HBQ := a_ (below_alloc HB.out (.cells #[.int .i64 x.f0, .int .u8 x.f1, .string x.f2, .int .i64 x.f3.f0, .int .i64 x.f3.f1, .string x.f3.f2, .int .i64 x.f4, .int .i64 x.f5] 106)); have KQ := a_ (KeepT.below (below_alloc (Below.refl _ w) (.cells #[.int .i64 x.f0, .int .u8 x.f1, .string x.f2, .int .i64 x.f3.f0, .int .i64 x.f3.f1, .string x.f3.f2, .int .i64 x.f4, .int .i64 x.f5] 106))); go_enter Tryz.func97, Tryz.ntmps97
  go_wp2_with (first
   | (at_builtin; refine print_append_num (w0 := w0) w0.heap.size rfl (.tmp 127) (.tmp 129) 23 3 .i64 8 rfl Tryz.underlying23 info3 (by decide) (.slice AF fs.length cF) fs ((fs.length : Int)) rfl (ev_new (by first | rfl | (simp; done))) OF.out HBQ.out (below_size HBQ.out) (by have := L60.out; omega) ?_; intro v1 w1 ho1 hb1 hg1 hat1; obtain ⟨A1, m1, c1, ev1, M1⟩ := own_form ho1; subst ev1; have B1 := blk_grown BQ.out hg1 (own_ne OF.out BQ.out (by decide)); have hd0 := (blk_cell B1 0).trans rfl; have hd1 := (blk_cell B1 1).trans rfl; have he0 := blk_frozen B1 0; have he1 := blk_frozen B1 1; simp only [List.getElem?_toArray, List.getElem?_cons_zero, List.getElem?_cons_succ] at hd0 hd1; have B2 := a_ (blk_put (cs' := #[.slice A1 m1 c1, .slice (AD) ds.length cD]) B1 0 (.slice A1 m1 c1) rfl); have F2 := a_ (own_setCell (p := ⟨b, 0, none⟩) ho1 (own_ne ho1 B1 (by decide)) (.slice A1 m1 c1)); have O1 := own_other OD.out hg1 (ne_other NE.out); have O2 := a_ (own_setCell (p := ⟨b, 0, none⟩) O1 (own_ne O1 B1 (by decide)) (.slice A1 m1 c1)); have HB2 := a_ (below_set (j := 0) (v := .slice A1 m1 c1) hb1 HWB.out); have K2 := a_ ((KQ.out.trans (KeepT.grown OF.out hg1)).trans (KeepT.set B1 0 (.slice A1 m1 c1))); have N2 := a_ (ne_append NE.out hat1 OD.out); clear B1 O1 ho1 hb1 hg1 hat1)
   | (at_builtin; refine print_append_num (w0 := w0) w0.heap.size rfl (.tmp 137) (.tmp 139) 23 3 .i64 8 rfl Tryz.underlying23 info3 (by decide) (.slice AD ds.length cD) ds (0) rfl (ev_new (by first | rfl | (simp; done))) O2.out HB2.out (below_size HB2.out) (by have := L60.out; omega) ?_; intro v2 w2 ho2 hb2 hg2 hat2; obtain ⟨A2, m2, c2, ev2, M2⟩ := own_form ho2; subst ev2; have B3 := a_ (blk_grown B2.out hg2 (own_ne O2.out B2.out (by decide))); have hg0 := (blk_cell B3.out 1).trans rfl; have hh1 := blk_frozen B3.out 1; simp only [List.getElem?_toArray, List.getElem?_cons_zero, List.getElem?_cons_succ] at hg0; have F3 := a_ (own_other F2.out hg2 (ne_other (ne_symm N2.out))); have O3 := a_ ho2; have HB3 := a_ hb2; have K3 := a_ (K2.out.trans (KeepT.grown O2.out hg2)); have N3 := a_ (ne_append' N2.out hat2 F2.out); clear ho2 hb2 hg2 hat2))
  go_ret; exact ⟨by first | rfl | (simp; done), ⟨_, _, blk_put B3.out 1 _ rfl, own_setCell F3.out (own_ne F3.out B3.out (by decide)) _, own_setCell O3.out (own_ne O3.out B3.out (by decide)) _, N3.out⟩, below_set HB3.out HWB.out, (K3.out).trans (KeepT.set B3.out _ _)⟩
end Go.Proofs.YtejjlkbbnhpbdaaGreat.P
namespace Go.Proofs.YtejjlkbbnhpbdaaGreat.P
open Go.Proofs.YtejjlkbbnhpbdaaGreatX
open Go.RowKit Go.Proofs.YtejjlkbbnhpbdaaGreatW.PrintWords Go.Proofs.YtejjlkbbnhpbdaaGreatW.PrintLast Go.Proofs.YtejjlkbbnhpbdaaGreatW.PrintMore
attribute [local go_sem] max2_int min2_int max_two min_two max_three min_three max_four min_four
set_option linter.unusedVariables false
set_option linter.unusedSimpArgs false
open Go.Proofs.YtejjlkbbnhpbdaaGreatX
def impl_Action_good.g (fs : List Int) : List Int → Int → Option (Bool × Int)
 | [], n => some (true, n)
 | x :: xs, n => if 0 ≤ x ∧ x < (fs.length : Int) then (if rd fs x = n then impl_Action_good.g fs xs (x + 1) else some (false, n)) else some (false, n)
def impl_Action_good.f (fs : List Int) (kd K : Int) (cls : ByteArray) (xs : List Int) (n : Int) : Option (Bool × Int) :=
 if kd = 1 then (if goodClsB cls = true then (if K = 0 then (if 6 < xs.length then some (false, n) else impl_Action_good.g fs xs n) else some (false, n)) else some (false, n)) else
 if kd = 2 then (if cls.toList = [] then (if K < -1000000 then some (false, n) else if 1000000 < K then some (false, n) else if xs = [] then some (true, n) else some (false, n)) else some (false, n)) else
 if kd = 3 then (if cls.toList = [] then (if K < -1000000 then some (false, n) else if 1000000 < K then some (false, n) else if 6 < xs.length then some (false, n) else impl_Action_good.g fs xs n) else some (false, n)) else
 if kd = 4 then (if cls.toList = [] then (if K = 0 then (if xs = [] then some (true, n) else some (false, n)) else some (false, n)) else some (false, n)) else some (false, n)
theorem ag_ba {a : ByteArray} (h : a.toList = []) : a = ⟨#[]⟩ := by
 rw [ByteArray.toList_eq] at h; cases a with | mk x =>
 exact congrArg ByteArray.mk (Array.toList_eq_nil_iff.1 h)
theorem ag_g_cons (fs xs : List Int) (n : Int) (i : Nat) (h : i < xs.length) (p : Bool × Int) (hg : impl_Action_good.g fs (xs.drop i) n = some p) : (if 0 ≤ rd xs (i : Int) ∧ rd xs (i : Int) < (fs.length : Int) then (if rd fs (rd xs (i : Int)) = n then impl_Action_good.g fs (xs.drop (i + 1)) (rd xs (i : Int) + 1) else some (false, n)) else some (false, n)) = some p := by
 have e : rd xs (i : Int) = xs[i] := by
  unfold rd
  simp [h]
 rw [List.drop_eq_getElem_cons h] at hg; unfold impl_Action_good.g at hg
 rw [e]; exact hg
set_option maxHeartbeats 8000000 in
set_option maxRecDepth 100000 in
theorem impl_Action_good.calls (kd K : Int) (cls : ByteArray) (B : Option Addr) (cB : Nat) (xs : List Int) (bt base : Nat) (AF : Option Addr) (cF : Nat) (vD : Value) (fs : List Int) (b : Nat) (n n' : Int) (r : Bool) (w0 w : World) (hB : Below w0.heap.size w0 w) (hrx : Kd.C (Kd.int .i64) w0 B xs.length xs) (ht : w.heap[bt]? = some (.cells #[.slice AF fs.length cF, vD] 148 (0, 0))) (hf : w.ownsRow base 3 1 (.slice AF fs.length cF) fs.length (nums .i64 fs)) (hne : some b ≠ (Value.slice AF fs.length cF).ownBlock) (hbb : w.heap[b]? = some (.cells #[.int .i64 n] 3 (0, 0))) (hb0 : w0.heap.size ≤ b) (h : impl_Action_good.f fs kd K cls xs n = some (r, n')) :
  Calls Tryz.prog 98 #[.agg #[.int .i64 kd, .int .i64 K, .string cls, .slice B xs.length cB], .pointer (some ⟨bt, 0, none⟩), .pointer (some ⟨b, 0, none⟩)] w fun e w' => e = .returned (.bool r) ∧ w'.heap[b]? = some (.cells #[.int .i64 n'] 3 (0, 0)) ∧ w.grownBy w' (some b) ∧ w.heap.size ≤ w'.heap.size := by
 have hu2 := Tryz.underlying108; have hu3 := Tryz.underlying148; have HB := a_ hB; have HX := a_ hrx; have HB0 := a_ hb0; have HT := a_ ht; have HF := a_ hf; have HNE := a_ hne; have HN := a_ hbb; have HBT : Aside0 (bt ≠ b) := ⟨blk_ne ht hbb (by decide)⟩
 have HXL : Aside0 (xs.length ≤ 9223372036854775807) := ⟨hrx.2.1⟩
 have HFL : Aside0 (fs.length ≤ 9223372036854775807) := ⟨(own_reads' hf).2.1⟩
 clear hB hrx hb0 ht hf hne hbb; unfold impl_Action_good.f at h
 by_cases k1 : kd = 1
 ·subst k1; rw [if_pos rfl] at h; by_cases c1 : goodClsB cls = true
  ·rw [if_pos c1] at h; have HGC : Aside0 (impl_goodCls.f cls = some true) := ⟨by rw [goodCls_some, c1]⟩
   clear c1; by_cases c2 : K = 0
   ·subst c2; rw [if_pos rfl] at h; by_cases c3 : 6 < xs.length
    ·rw [if_pos c3] at h; cases h; have q1 : decide ((6 : Int) < (xs.length : Int)) = true := decide_eq_true (by omega)
     clear c3; go_enter Tryz.func98, Tryz.ntmps98; go_wp2_with (go_at_call 112; refine (impl_goodCls.calls cls true _ HGC.out).mono ?_; rintro e w1 ⟨rfl, hd⟩; have HNA := a_ (blk_below (blk_alloc (blk_alloc HN.out (.cells #[.int .i64 1, .int .i64 0, .string cls, .slice B xs.length cB] 108)) (.cells #[.int .i64 1, .int .i64 0, .string cls, .slice none 0 0] 108)) hd); have HG := a_ (((World.grownBy_alloc w (.cells #[.int .i64 1, .int .i64 0, .string cls, .slice B xs.length cB] 108) (some b)).trans (World.grownBy_alloc _ (.cells #[.int .i64 1, .int .i64 0, .string cls, .slice none 0 0] 108) (some b))).trans (grown_of_below hd (some b))); have BA1 := blk_below (blk_alloc (blk_new w (.cells #[.int .i64 1, .int .i64 0, .string cls, .slice B xs.length cB] 108)) (.cells #[.int .i64 1, .int .i64 0, .string cls, .slice none 0 0] 108)) hd; have BP1 := blk_below (blk_new1 w (.cells #[.int .i64 1, .int .i64 0, .string cls, .slice B xs.length cB] 108) (.cells #[.int .i64 1, .int .i64 0, .string cls, .slice none 0 0] 108)) hd; have ha0 := (blk_cell BA1 0).trans rfl; have ha1 := (blk_cell BA1 1).trans rfl; have ha2 := (blk_cell BA1 2).trans rfl; have ha3 := (blk_cell BA1 3).trans rfl; have hp1 := (blk_cell BP1 1).trans rfl; have hp2 := (blk_cell BP1 2).trans rfl; simp only [List.getElem?_toArray, List.getElem?_cons_zero, List.getElem?_cons_succ] at ha0 ha1 ha2 ha3 hp1 hp2; clear hd BA1 BP1); go_ret; exact ⟨rfl, HNA.out, HG.out, HG.out.size⟩
    ·rw [if_neg c3] at h; have HH : Aside0 (impl_Action_good.g fs (xs.drop 0) n = some (r, n')) := ⟨h⟩
     have q1 : decide ((6 : Int) < (xs.length : Int)) = false := decide_eq_false (by omega)
     clear c3 h; by_cases c4 : 0 < xs.length
     ·have q2 : decide ((0 : Int) < (xs.length : Int)) = true := decide_eq_true (by omega)
      have q3 : decide (0 < xs.length) = true := decide_eq_true (by omega)
      clear c4; go_enter Tryz.func98, Tryz.ntmps98; go_wp2_with (go_at_call 112; refine (impl_goodCls.calls cls true _ HGC.out).mono ?_; rintro e w1 ⟨rfl, hd⟩; have HNA := a_ (blk_below (blk_alloc (blk_alloc HN.out (.cells #[.int .i64 1, .int .i64 0, .string cls, .slice B xs.length cB] 108)) (.cells #[.int .i64 1, .int .i64 0, .string cls, .slice none 0 0] 108)) hd); have HG := a_ (((World.grownBy_alloc w (.cells #[.int .i64 1, .int .i64 0, .string cls, .slice B xs.length cB] 108) (some b)).trans (World.grownBy_alloc _ (.cells #[.int .i64 1, .int .i64 0, .string cls, .slice none 0 0] 108) (some b))).trans (grown_of_below hd (some b))); have BA1 := blk_below (blk_alloc (blk_new w (.cells #[.int .i64 1, .int .i64 0, .string cls, .slice B xs.length cB] 108)) (.cells #[.int .i64 1, .int .i64 0, .string cls, .slice none 0 0] 108)) hd; have BP1 := blk_below (blk_new1 w (.cells #[.int .i64 1, .int .i64 0, .string cls, .slice B xs.length cB] 108) (.cells #[.int .i64 1, .int .i64 0, .string cls, .slice none 0 0] 108)) hd; have ha0 := (blk_cell BA1 0).trans rfl; have ha1 := (blk_cell BA1 1).trans rfl; have ha2 := (blk_cell BA1 2).trans rfl; have ha3 := (blk_cell BA1 3).trans rfl; have hp1 := (blk_cell BP1 1).trans rfl; have hp2 := (blk_cell BP1 2).trans rfl; simp only [List.getElem?_toArray, List.getElem?_cons_zero, List.getElem?_cons_succ] at ha0 ha1 ha2 ha3 hp1 hp2; clear hd BA1 BP1); go_loopg [77] xs.length (fun gg v77 wr => ∃ (i : Nat) (m : Int), i ≤ xs.length ∧ xs.length - i ≤ gg ∧ v77 = .int .i64 (i : Int) ∧ Aside0 (impl_Action_good.g fs (xs.drop i) m = some (r, n')) ∧ Aside0 (wr.heap[b]? = some (.cells #[.int .i64 m] 3 (0, 0))) ∧ Aside0 (w.grownBy wr (some b)))
      case atStart => exact ⟨0, n, Nat.zero_le _, Nat.le_refl _, rfl, HH, HNA, HG⟩
      obtain ⟨i, m, hi, hgg, rfl, HH2, HN2, HG2⟩ := hrel; by_cases hlt : i < xs.length
      ·have hz : (i : Int) < (xs.length : Int) := by omega
       have hz0 : (0 : Int) ≤ (i : Int) := by omega
       have HW : Aside0 (Below w0.heap.size w0 wr) := ⟨HB.out.grown HG2.out HB.out.size (by intro q e; injection e with e; have := HB0.out; omega)⟩
       obtain ⟨ad, eA, hx⟩ := Kd.at_int HX.out (i : Int) hz0 hz; subst eA; replace hx := (HW.out.cell (World.block_lt_of_cell? w0 _ hx)).trans hx; have hstep := ag_g_cons fs xs m i hlt _ HH2.out; have hn0 := cell_of_one HN2.out; have hnf := free_of_one HN2.out; have hT2 := blk_grown HT.out HG2.out (by intro e; injection e with e; exact HBT.out e); have hF2 := own_other HF.out HG2.out (Or.inr (fun e => HNE.out e.symm)); have ht0 := (blk_cell hT2 0).trans rfl; simp only [List.getElem?_toArray, List.getElem?_cons_zero, List.getElem?_cons_succ] at ht0; have HF2 := a_ hF2; have HFL2 := HFL.out; clear hT2 hF2; simp only [Int.toNat_natCast] at hx; generalize rd xs (i : Int) = x at *; by_cases d1 : x < 0
       ·rw [if_neg (by omega)] at hstep; cases hstep; have q1 : decide (x < 0) = true := decide_eq_true d1
        clear d1; go_wp2; go_quiet (fail)
        go_wp2; go_ret; exact ⟨rfl, blk_drewN HN2.out _, HG2.out.trans (grown_of_below (pw_below_drewN (Below.refl _ _) _) _), HG2.out.size⟩
       by_cases d2 : (fs.length : Int) ≤ x
       ·rw [if_neg (by omega)] at hstep; cases hstep; have q1 : decide (x < 0) = false := decide_eq_false d1
        have q2 : decide ((fs.length : Int) ≤ x) = true := decide_eq_true d2
        clear d1 d2; go_wp2; go_quiet (fail)
        go_wp2; go_ret; exact ⟨rfl, blk_drewN HN2.out _, HG2.out.trans (grown_of_below (pw_below_drewN (Below.refl _ _) _) _), HG2.out.size⟩
       rw [if_pos (by omega)] at hstep; have d1' : 0 ≤ x := by omega
       have d2' : x < (fs.length : Int) := by omega
       obtain ⟨adf, ef, hy⟩ := (own_reads' HF2.out).at_ x d1' d2'; cases ef; have q1 : decide (x < 0) = false := decide_eq_false d1
       have q2 : decide ((fs.length : Int) ≤ x) = false := decide_eq_false d2
       clear d1 d2; by_cases d3 : rd fs x = m
       ·rw [if_pos d3] at hstep; have q3 : (rd fs x == m) = true := by simpa using d3
        have q4 : (rd fs x != m) = false := by simpa using d3
        have HS2 := a_ hstep; have D3 := a_ d3; clear hstep d3; go_wp2; go_quiet (fail)
        generalize hq : wr.drewN nq = wq; have HN4 := a_ (blk_at hq HN2.out); have HG4 : Aside0 (w.grownBy wq (some b)) := ⟨by subst hq; exact HG2.out.trans (grown_of_below (pw_below_drewN (Below.refl _ _) _) _)⟩
        clear hq hn0 hnf ht0 hx hy; have hn4 := cell_of_one HN4.out; have hnf4 := free_of_one HN4.out; go_wp2; go_roundg (xs.length - (i + 1))
        case measure => omega
        case rel =>
         exact ⟨i + 1, _, by omega, by omega, by rw [show wrap64 ((i : Int) + 1) = ((i + 1 : Nat) : Int) by unfold wrap64; have := HXL.out; omega], HS2, ⟨one_setCell HN4.out⟩, ⟨HG4.out.trans (grownBy_setCell' _ _ _)⟩⟩
       ·rw [if_neg d3] at hstep; cases hstep; have q3 : (rd fs x == n') = false := by simpa using d3
        have q4 : (rd fs x != n') = true := by simpa using d3
        clear d3; go_wp2; go_quiet (fail)
        go_wp2; go_ret; exact ⟨rfl, blk_drewN HN2.out _, HG2.out.trans (grown_of_below (pw_below_drewN (Below.refl _ _) _) _), HG2.out.size⟩
      ·have hil : i = xs.length := by omega
       subst hil; have e0 := HH2.out; rw [List.drop_length] at e0; unfold impl_Action_good.g at e0
       cases e0; clear HH2; go_wp2; go_ret; exact ⟨rfl, HN2.out, HG2.out, HG2.out.size⟩
     ·have q2 : decide ((0 : Int) < (xs.length : Int)) = false := decide_eq_false (by omega)
      have q3 : decide (0 < xs.length) = false := decide_eq_false (by omega)
      clear c4; go_enter Tryz.func98, Tryz.ntmps98; go_wp2_with (go_at_call 112; refine (impl_goodCls.calls cls true _ HGC.out).mono ?_; rintro e w1 ⟨rfl, hd⟩; have HNA := a_ (blk_below (blk_alloc (blk_alloc HN.out (.cells #[.int .i64 1, .int .i64 0, .string cls, .slice B xs.length cB] 108)) (.cells #[.int .i64 1, .int .i64 0, .string cls, .slice none 0 0] 108)) hd); have HG := a_ (((World.grownBy_alloc w (.cells #[.int .i64 1, .int .i64 0, .string cls, .slice B xs.length cB] 108) (some b)).trans (World.grownBy_alloc _ (.cells #[.int .i64 1, .int .i64 0, .string cls, .slice none 0 0] 108) (some b))).trans (grown_of_below hd (some b))); have BA1 := blk_below (blk_alloc (blk_new w (.cells #[.int .i64 1, .int .i64 0, .string cls, .slice B xs.length cB] 108)) (.cells #[.int .i64 1, .int .i64 0, .string cls, .slice none 0 0] 108)) hd; have BP1 := blk_below (blk_new1 w (.cells #[.int .i64 1, .int .i64 0, .string cls, .slice B xs.length cB] 108) (.cells #[.int .i64 1, .int .i64 0, .string cls, .slice none 0 0] 108)) hd; have ha0 := (blk_cell BA1 0).trans rfl; have ha1 := (blk_cell BA1 1).trans rfl; have ha2 := (blk_cell BA1 2).trans rfl; have ha3 := (blk_cell BA1 3).trans rfl; have hp1 := (blk_cell BP1 1).trans rfl; have hp2 := (blk_cell BP1 2).trans rfl; simp only [List.getElem?_toArray, List.getElem?_cons_zero, List.getElem?_cons_succ] at ha0 ha1 ha2 ha3 hp1 hp2; clear hd BA1 BP1); go_loopg [77] xs.length (fun gg v77 wr => ∃ (i : Nat) (m : Int), i ≤ xs.length ∧ xs.length - i ≤ gg ∧ v77 = .int .i64 (i : Int) ∧ Aside0 (impl_Action_good.g fs (xs.drop i) m = some (r, n')) ∧ Aside0 (wr.heap[b]? = some (.cells #[.int .i64 m] 3 (0, 0))) ∧ Aside0 (w.grownBy wr (some b)))
      case atStart => exact ⟨0, n, Nat.zero_le _, Nat.le_refl _, rfl, HH, HNA, HG⟩
      obtain ⟨i, m, hi, hgg, rfl, HH2, HN2, HG2⟩ := hrel; by_cases hlt : i < xs.length
      ·have hz : (i : Int) < (xs.length : Int) := by omega
       have hz0 : (0 : Int) ≤ (i : Int) := by omega
       have HW : Aside0 (Below w0.heap.size w0 wr) := ⟨HB.out.grown HG2.out HB.out.size (by intro q e; injection e with e; have := HB0.out; omega)⟩
       obtain ⟨ad, eA, hx⟩ := Kd.at_int HX.out (i : Int) hz0 hz; subst eA; replace hx := (HW.out.cell (World.block_lt_of_cell? w0 _ hx)).trans hx; have hstep := ag_g_cons fs xs m i hlt _ HH2.out; have hn0 := cell_of_one HN2.out; have hnf := free_of_one HN2.out; have hT2 := blk_grown HT.out HG2.out (by intro e; injection e with e; exact HBT.out e); have hF2 := own_other HF.out HG2.out (Or.inr (fun e => HNE.out e.symm)); have ht0 := (blk_cell hT2 0).trans rfl; simp only [List.getElem?_toArray, List.getElem?_cons_zero, List.getElem?_cons_succ] at ht0; have HF2 := a_ hF2; have HFL2 := HFL.out; clear hT2 hF2; simp only [Int.toNat_natCast] at hx; generalize rd xs (i : Int) = x at *; by_cases d1 : x < 0
       ·rw [if_neg (by omega)] at hstep; cases hstep; have q1 : decide (x < 0) = true := decide_eq_true d1
        clear d1; go_wp2; go_quiet (fail)
        go_wp2; go_ret; exact ⟨rfl, blk_drewN HN2.out _, HG2.out.trans (grown_of_below (pw_below_drewN (Below.refl _ _) _) _), HG2.out.size⟩
       by_cases d2 : (fs.length : Int) ≤ x
       ·rw [if_neg (by omega)] at hstep; cases hstep; have q1 : decide (x < 0) = false := decide_eq_false d1
        have q2 : decide ((fs.length : Int) ≤ x) = true := decide_eq_true d2
        clear d1 d2; go_wp2; go_quiet (fail)
        go_wp2; go_ret; exact ⟨rfl, blk_drewN HN2.out _, HG2.out.trans (grown_of_below (pw_below_drewN (Below.refl _ _) _) _), HG2.out.size⟩
       rw [if_pos (by omega)] at hstep; have d1' : 0 ≤ x := by omega
       have d2' : x < (fs.length : Int) := by omega
       obtain ⟨adf, ef, hy⟩ := (own_reads' HF2.out).at_ x d1' d2'; cases ef; have q1 : decide (x < 0) = false := decide_eq_false d1
       have q2 : decide ((fs.length : Int) ≤ x) = false := decide_eq_false d2
       clear d1 d2; by_cases d3 : rd fs x = m
       ·rw [if_pos d3] at hstep; have q3 : (rd fs x == m) = true := by simpa using d3
        have q4 : (rd fs x != m) = false := by simpa using d3
        have HS2 := a_ hstep; have D3 := a_ d3; clear hstep d3; go_wp2; go_quiet (fail)
        generalize hq : wr.drewN nq = wq; have HN4 := a_ (blk_at hq HN2.out); have HG4 : Aside0 (w.grownBy wq (some b)) := ⟨by subst hq; exact HG2.out.trans (grown_of_below (pw_below_drewN (Below.refl _ _) _) _)⟩
        clear hq hn0 hnf ht0 hx hy; have hn4 := cell_of_one HN4.out; have hnf4 := free_of_one HN4.out; go_wp2; go_roundg (xs.length - (i + 1))
        case measure => omega
        case rel =>
         exact ⟨i + 1, _, by omega, by omega, by rw [show wrap64 ((i : Int) + 1) = ((i + 1 : Nat) : Int) by unfold wrap64; have := HXL.out; omega], HS2, ⟨one_setCell HN4.out⟩, ⟨HG4.out.trans (grownBy_setCell' _ _ _)⟩⟩
       ·rw [if_neg d3] at hstep; cases hstep; have q3 : (rd fs x == n') = false := by simpa using d3
        have q4 : (rd fs x != n') = true := by simpa using d3
        clear d3; go_wp2; go_quiet (fail)
        go_wp2; go_ret; exact ⟨rfl, blk_drewN HN2.out _, HG2.out.trans (grown_of_below (pw_below_drewN (Below.refl _ _) _) _), HG2.out.size⟩
      ·have hil : i = xs.length := by omega
       subst hil; have e0 := HH2.out; rw [List.drop_length] at e0; unfold impl_Action_good.g at e0
       cases e0; clear HH2; go_wp2; go_ret; exact ⟨rfl, HN2.out, HG2.out, HG2.out.size⟩
   ·rw [if_neg c2] at h; cases h; have q3 : ((0 : Int) == K) = false := by simpa using Ne.symm c2
    have q4 : ((0 : Int) != K) = true := by simpa using Ne.symm c2
    clear c2; go_enter Tryz.func98, Tryz.ntmps98; go_wp2_with (go_at_call 112; refine (impl_goodCls.calls cls true _ HGC.out).mono ?_; rintro e w1 ⟨rfl, hd⟩; have HNA := a_ (blk_below (blk_alloc (blk_alloc HN.out (.cells #[.int .i64 1, .int .i64 K, .string cls, .slice B xs.length cB] 108)) (.cells #[.int .i64 1, .int .i64 0, .string cls, .slice none 0 0] 108)) hd); have HG := a_ (((World.grownBy_alloc w (.cells #[.int .i64 1, .int .i64 K, .string cls, .slice B xs.length cB] 108) (some b)).trans (World.grownBy_alloc _ (.cells #[.int .i64 1, .int .i64 0, .string cls, .slice none 0 0] 108) (some b))).trans (grown_of_below hd (some b))); have BA1 := blk_below (blk_alloc (blk_new w (.cells #[.int .i64 1, .int .i64 K, .string cls, .slice B xs.length cB] 108)) (.cells #[.int .i64 1, .int .i64 0, .string cls, .slice none 0 0] 108)) hd; have BP1 := blk_below (blk_new1 w (.cells #[.int .i64 1, .int .i64 K, .string cls, .slice B xs.length cB] 108) (.cells #[.int .i64 1, .int .i64 0, .string cls, .slice none 0 0] 108)) hd; have ha0 := (blk_cell BA1 0).trans rfl; have ha1 := (blk_cell BA1 1).trans rfl; have ha2 := (blk_cell BA1 2).trans rfl; have ha3 := (blk_cell BA1 3).trans rfl; have hp1 := (blk_cell BP1 1).trans rfl; have hp2 := (blk_cell BP1 2).trans rfl; simp only [List.getElem?_toArray, List.getElem?_cons_zero, List.getElem?_cons_succ] at ha0 ha1 ha2 ha3 hp1 hp2; clear hd BA1 BP1); go_ret; exact ⟨rfl, HNA.out, HG.out, HG.out.size⟩
  ·rw [if_neg c1] at h; cases h; have HGC : Aside0 (impl_goodCls.f cls = some false) := ⟨by rw [goodCls_some, Bool.eq_false_iff.2 c1]⟩
   clear c1; go_enter Tryz.func98, Tryz.ntmps98; go_wp2_with (go_at_call 112; refine (impl_goodCls.calls cls false _ HGC.out).mono ?_; rintro e w1 ⟨rfl, hd⟩; have HNA := a_ (blk_below (blk_alloc (blk_alloc HN.out (.cells #[.int .i64 1, .int .i64 K, .string cls, .slice B xs.length cB] 108)) (.cells #[.int .i64 1, .int .i64 0, .string cls, .slice none 0 0] 108)) hd); have HG := a_ (((World.grownBy_alloc w (.cells #[.int .i64 1, .int .i64 K, .string cls, .slice B xs.length cB] 108) (some b)).trans (World.grownBy_alloc _ (.cells #[.int .i64 1, .int .i64 0, .string cls, .slice none 0 0] 108) (some b))).trans (grown_of_below hd (some b))); have BA1 := blk_below (blk_alloc (blk_new w (.cells #[.int .i64 1, .int .i64 K, .string cls, .slice B xs.length cB] 108)) (.cells #[.int .i64 1, .int .i64 0, .string cls, .slice none 0 0] 108)) hd; have BP1 := blk_below (blk_new1 w (.cells #[.int .i64 1, .int .i64 K, .string cls, .slice B xs.length cB] 108) (.cells #[.int .i64 1, .int .i64 0, .string cls, .slice none 0 0] 108)) hd; have ha0 := (blk_cell BA1 0).trans rfl; have ha1 := (blk_cell BA1 1).trans rfl; have ha2 := (blk_cell BA1 2).trans rfl; have ha3 := (blk_cell BA1 3).trans rfl; have hp1 := (blk_cell BP1 1).trans rfl; have hp2 := (blk_cell BP1 2).trans rfl; simp only [List.getElem?_toArray, List.getElem?_cons_zero, List.getElem?_cons_succ] at ha0 ha1 ha2 ha3 hp1 hp2; clear hd BA1 BP1); go_ret; exact ⟨rfl, HNA.out, HG.out, HG.out.size⟩
 by_cases k2 : kd = 2
 ·subst k2; clear k1; rw [if_neg (by decide), if_pos rfl] at h; by_cases c2 : cls.toList = []
  ·rw [if_pos c2] at h; have c3 : cls = ⟨#[]⟩ := ag_ba c2
   subst c3; clear c2; by_cases c4 : K < -1000000
   ·rw [if_pos c4] at h; cases h; have q4 : decide (K < -1000000) = true := ct_ c4
    clear c4; have HNA := a_ (blk_alloc (blk_alloc HN.out (.cells #[.int .i64 2, .int .i64 K, .string (⟨#[]⟩ : ByteArray), .slice B xs.length cB] 108)) (.cells #[.int .i64 2, .int .i64 K, .string (⟨#[]⟩ : ByteArray), .slice none 0 0] 108)); have HG := a_ ((World.grownBy_alloc w (.cells #[.int .i64 2, .int .i64 K, .string (⟨#[]⟩ : ByteArray), .slice B xs.length cB] 108) (some b)).trans (World.grownBy_alloc _ (.cells #[.int .i64 2, .int .i64 K, .string (⟨#[]⟩ : ByteArray), .slice none 0 0] 108) (some b))); go_enter Tryz.func98, Tryz.ntmps98; go_wp2; go_ret; exact ⟨rfl, HNA.out, HG.out, HG.out.size⟩
   rw [if_neg c4] at h; have q4 : decide (K < -1000000) = false := cf_ c4
   clear c4; by_cases c5 : 1000000 < K
   ·rw [if_pos c5] at h; cases h; have q5 : decide (1000000 < K) = true := ct_ c5
    clear c5; have HNA := a_ (blk_alloc (blk_alloc HN.out (.cells #[.int .i64 2, .int .i64 K, .string (⟨#[]⟩ : ByteArray), .slice B xs.length cB] 108)) (.cells #[.int .i64 2, .int .i64 K, .string (⟨#[]⟩ : ByteArray), .slice none 0 0] 108)); have HG := a_ ((World.grownBy_alloc w (.cells #[.int .i64 2, .int .i64 K, .string (⟨#[]⟩ : ByteArray), .slice B xs.length cB] 108) (some b)).trans (World.grownBy_alloc _ (.cells #[.int .i64 2, .int .i64 K, .string (⟨#[]⟩ : ByteArray), .slice none 0 0] 108) (some b))); go_enter Tryz.func98, Tryz.ntmps98; go_wp2; go_ret; exact ⟨rfl, HNA.out, HG.out, HG.out.size⟩
   rw [if_neg c5] at h; have q5 : decide (1000000 < K) = false := cf_ c5
   clear c5; by_cases c1 : xs = []
   ·subst c1; rw [if_pos rfl] at h; cases h; have HNA := a_ (blk_alloc (blk_alloc HN.out (.cells #[.int .i64 2, .int .i64 K, .string (⟨#[]⟩ : ByteArray), .slice B 0 cB] 108)) (.cells #[.int .i64 2, .int .i64 K, .string (⟨#[]⟩ : ByteArray), .slice none 0 0] 108)); have HG := a_ ((World.grownBy_alloc w (.cells #[.int .i64 2, .int .i64 K, .string (⟨#[]⟩ : ByteArray), .slice B 0 cB] 108) (some b)).trans (World.grownBy_alloc _ (.cells #[.int .i64 2, .int .i64 K, .string (⟨#[]⟩ : ByteArray), .slice none 0 0] 108) (some b))); go_enter Tryz.func98, Tryz.ntmps98; go_wp2; go_loopg [77] 0 (fun gg v77 wr => v77 = .int .i64 0 ∧ Aside0 (wr.heap[b]? = some (.cells #[.int .i64 n] 3 (0, 0))) ∧ Aside0 (w.grownBy wr (some b)))
    case atStart => exact ⟨rfl, HNA, HG⟩
    obtain ⟨rfl, HN2, HG2⟩ := hrel; go_wp2; go_ret; exact ⟨rfl, HN2.out, HG2.out, HG2.out.size⟩
   ·rw [if_neg c1] at h; cases h; have c3 : 0 < xs.length := by cases xs with | nil => exact absurd rfl c1 | cons a l => simp
    have q2 : decide ((0 : Int) < (xs.length : Int)) = true := decide_eq_true (by omega)
    have q3 : decide (0 < xs.length) = true := ct_ c3
    clear c1 c3; by_cases c4 : 6 < xs.length
    ·have q1 : decide ((6 : Int) < (xs.length : Int)) = true := decide_eq_true (by omega)
     clear c4; have HNA := a_ (blk_alloc (blk_alloc HN.out (.cells #[.int .i64 2, .int .i64 K, .string (⟨#[]⟩ : ByteArray), .slice B xs.length cB] 108)) (.cells #[.int .i64 2, .int .i64 K, .string (⟨#[]⟩ : ByteArray), .slice none 0 0] 108)); have HG := a_ ((World.grownBy_alloc w (.cells #[.int .i64 2, .int .i64 K, .string (⟨#[]⟩ : ByteArray), .slice B xs.length cB] 108) (some b)).trans (World.grownBy_alloc _ (.cells #[.int .i64 2, .int .i64 K, .string (⟨#[]⟩ : ByteArray), .slice none 0 0] 108) (some b))); go_enter Tryz.func98, Tryz.ntmps98; go_wp2; go_ret; exact ⟨rfl, HNA.out, HG.out, HG.out.size⟩
    ·have q1 : decide ((6 : Int) < (xs.length : Int)) = false := decide_eq_false (by omega)
     clear c4; have HNA := a_ (blk_alloc (blk_alloc HN.out (.cells #[.int .i64 2, .int .i64 K, .string (⟨#[]⟩ : ByteArray), .slice B xs.length cB] 108)) (.cells #[.int .i64 2, .int .i64 K, .string (⟨#[]⟩ : ByteArray), .slice none 0 0] 108)); have HG := a_ ((World.grownBy_alloc w (.cells #[.int .i64 2, .int .i64 K, .string (⟨#[]⟩ : ByteArray), .slice B xs.length cB] 108) (some b)).trans (World.grownBy_alloc _ (.cells #[.int .i64 2, .int .i64 K, .string (⟨#[]⟩ : ByteArray), .slice none 0 0] 108) (some b))); go_enter Tryz.func98, Tryz.ntmps98; go_wp2; go_ret; exact ⟨rfl, HNA.out, HG.out, HG.out.size⟩
  ·rw [if_neg c2] at h; cases h; have s1 : (cls.toList == ([] : List UInt8)) = false := beq_eq_false_iff_ne.mpr c2
   have s2 : (([] : List UInt8) == cls.toList) = false := beq_eq_false_iff_ne.mpr (Ne.symm c2)
   have s3 : cls.toList.isEmpty = false := by simpa using c2
   have s4 : (([] : List UInt8) != cls.toList) = true := bne_iff_ne.mpr (Ne.symm c2)
   have s5 : (cls.toList != ([] : List UInt8)) = true := bne_iff_ne.mpr c2
   clear c2; have HNA := a_ (blk_alloc (blk_alloc HN.out (.cells #[.int .i64 2, .int .i64 K, .string cls, .slice B xs.length cB] 108)) (.cells #[.int .i64 2, .int .i64 K, .string (⟨#[]⟩ : ByteArray), .slice none 0 0] 108)); have HG := a_ ((World.grownBy_alloc w (.cells #[.int .i64 2, .int .i64 K, .string cls, .slice B xs.length cB] 108) (some b)).trans (World.grownBy_alloc _ (.cells #[.int .i64 2, .int .i64 K, .string (⟨#[]⟩ : ByteArray), .slice none 0 0] 108) (some b))); go_enter Tryz.func98, Tryz.ntmps98; go_wp2; go_ret; exact ⟨rfl, HNA.out, HG.out, HG.out.size⟩
 by_cases k3 : kd = 3
 ·subst k3; clear k1 k2; rw [if_neg (by decide), if_neg (by decide), if_pos rfl] at h; by_cases c2 : cls.toList = []
  ·rw [if_pos c2] at h; have c3 : cls = ⟨#[]⟩ := ag_ba c2
   subst c3; clear c2; by_cases c4 : K < -1000000
   ·rw [if_pos c4] at h; cases h; have q4 : decide (K < -1000000) = true := ct_ c4
    clear c4; have HNA := a_ (blk_alloc (blk_alloc HN.out (.cells #[.int .i64 3, .int .i64 K, .string (⟨#[]⟩ : ByteArray), .slice B xs.length cB] 108)) (.cells #[.int .i64 3, .int .i64 K, .string (⟨#[]⟩ : ByteArray), .slice none 0 0] 108)); have HG := a_ ((World.grownBy_alloc w (.cells #[.int .i64 3, .int .i64 K, .string (⟨#[]⟩ : ByteArray), .slice B xs.length cB] 108) (some b)).trans (World.grownBy_alloc _ (.cells #[.int .i64 3, .int .i64 K, .string (⟨#[]⟩ : ByteArray), .slice none 0 0] 108) (some b))); go_enter Tryz.func98, Tryz.ntmps98; go_wp2; go_ret; exact ⟨rfl, HNA.out, HG.out, HG.out.size⟩
   rw [if_neg c4] at h; have q4 : decide (K < -1000000) = false := cf_ c4
   clear c4; by_cases c5 : 1000000 < K
   ·rw [if_pos c5] at h; cases h; have q5 : decide (1000000 < K) = true := ct_ c5
    clear c5; have HNA := a_ (blk_alloc (blk_alloc HN.out (.cells #[.int .i64 3, .int .i64 K, .string (⟨#[]⟩ : ByteArray), .slice B xs.length cB] 108)) (.cells #[.int .i64 3, .int .i64 K, .string (⟨#[]⟩ : ByteArray), .slice none 0 0] 108)); have HG := a_ ((World.grownBy_alloc w (.cells #[.int .i64 3, .int .i64 K, .string (⟨#[]⟩ : ByteArray), .slice B xs.length cB] 108) (some b)).trans (World.grownBy_alloc _ (.cells #[.int .i64 3, .int .i64 K, .string (⟨#[]⟩ : ByteArray), .slice none 0 0] 108) (some b))); go_enter Tryz.func98, Tryz.ntmps98; go_wp2; go_ret; exact ⟨rfl, HNA.out, HG.out, HG.out.size⟩
   rw [if_neg c5] at h; have q5 : decide (1000000 < K) = false := cf_ c5
   clear c5; by_cases c3 : 6 < xs.length
   ·rw [if_pos c3] at h; cases h; have q1 : decide ((6 : Int) < (xs.length : Int)) = true := decide_eq_true (by omega)
    clear c3; have HNA := a_ (blk_alloc (blk_alloc HN.out (.cells #[.int .i64 3, .int .i64 K, .string (⟨#[]⟩ : ByteArray), .slice B xs.length cB] 108)) (.cells #[.int .i64 3, .int .i64 K, .string (⟨#[]⟩ : ByteArray), .slice none 0 0] 108)); have HG := a_ ((World.grownBy_alloc w (.cells #[.int .i64 3, .int .i64 K, .string (⟨#[]⟩ : ByteArray), .slice B xs.length cB] 108) (some b)).trans (World.grownBy_alloc _ (.cells #[.int .i64 3, .int .i64 K, .string (⟨#[]⟩ : ByteArray), .slice none 0 0] 108) (some b))); go_enter Tryz.func98, Tryz.ntmps98; go_wp2; go_ret; exact ⟨rfl, HNA.out, HG.out, HG.out.size⟩
   ·rw [if_neg c3] at h; have HH : Aside0 (impl_Action_good.g fs (xs.drop 0) n = some (r, n')) := ⟨h⟩
    have q1 : decide ((6 : Int) < (xs.length : Int)) = false := decide_eq_false (by omega)
    clear c3 h; by_cases c4 : 0 < xs.length
    ·have q2 : decide ((0 : Int) < (xs.length : Int)) = true := decide_eq_true (by omega)
     have q3 : decide (0 < xs.length) = true := decide_eq_true (by omega)
     clear c4; have HNA := a_ (blk_alloc (blk_alloc HN.out (.cells #[.int .i64 3, .int .i64 K, .string (⟨#[]⟩ : ByteArray), .slice B xs.length cB] 108)) (.cells #[.int .i64 3, .int .i64 K, .string (⟨#[]⟩ : ByteArray), .slice none 0 0] 108)); have HG := a_ ((World.grownBy_alloc w (.cells #[.int .i64 3, .int .i64 K, .string (⟨#[]⟩ : ByteArray), .slice B xs.length cB] 108) (some b)).trans (World.grownBy_alloc _ (.cells #[.int .i64 3, .int .i64 K, .string (⟨#[]⟩ : ByteArray), .slice none 0 0] 108) (some b))); go_enter Tryz.func98, Tryz.ntmps98; go_wp2; go_loopg [77] xs.length (fun gg v77 wr => ∃ (i : Nat) (m : Int), i ≤ xs.length ∧ xs.length - i ≤ gg ∧ v77 = .int .i64 (i : Int) ∧ Aside0 (impl_Action_good.g fs (xs.drop i) m = some (r, n')) ∧ Aside0 (wr.heap[b]? = some (.cells #[.int .i64 m] 3 (0, 0))) ∧ Aside0 (w.grownBy wr (some b)))
     case atStart => exact ⟨0, n, Nat.zero_le _, Nat.le_refl _, rfl, HH, HNA, HG⟩
     obtain ⟨i, m, hi, hgg, rfl, HH2, HN2, HG2⟩ := hrel; by_cases hlt : i < xs.length
     ·have hz : (i : Int) < (xs.length : Int) := by omega
      have hz0 : (0 : Int) ≤ (i : Int) := by omega
      have HW : Aside0 (Below w0.heap.size w0 wr) := ⟨HB.out.grown HG2.out HB.out.size (by intro q e; injection e with e; have := HB0.out; omega)⟩
      obtain ⟨ad, eA, hx⟩ := Kd.at_int HX.out (i : Int) hz0 hz; subst eA; replace hx := (HW.out.cell (World.block_lt_of_cell? w0 _ hx)).trans hx; have hstep := ag_g_cons fs xs m i hlt _ HH2.out; have hn0 := cell_of_one HN2.out; have hnf := free_of_one HN2.out; have hT2 := blk_grown HT.out HG2.out (by intro e; injection e with e; exact HBT.out e); have hF2 := own_other HF.out HG2.out (Or.inr (fun e => HNE.out e.symm)); have ht0 := (blk_cell hT2 0).trans rfl; simp only [List.getElem?_toArray, List.getElem?_cons_zero, List.getElem?_cons_succ] at ht0; have HF2 := a_ hF2; have HFL2 := HFL.out; clear hT2 hF2; simp only [Int.toNat_natCast] at hx; generalize rd xs (i : Int) = x at *; by_cases d1 : x < 0
      ·rw [if_neg (by omega)] at hstep; cases hstep; have q1 : decide (x < 0) = true := decide_eq_true d1
       clear d1; go_wp2; go_quiet (fail)
       go_wp2; go_ret; exact ⟨rfl, blk_drewN HN2.out _, HG2.out.trans (grown_of_below (pw_below_drewN (Below.refl _ _) _) _), HG2.out.size⟩
      by_cases d2 : (fs.length : Int) ≤ x
      ·rw [if_neg (by omega)] at hstep; cases hstep; have q1 : decide (x < 0) = false := decide_eq_false d1
       have q2 : decide ((fs.length : Int) ≤ x) = true := decide_eq_true d2
       clear d1 d2; go_wp2; go_quiet (fail)
       go_wp2; go_ret; exact ⟨rfl, blk_drewN HN2.out _, HG2.out.trans (grown_of_below (pw_below_drewN (Below.refl _ _) _) _), HG2.out.size⟩
      rw [if_pos (by omega)] at hstep; have d1' : 0 ≤ x := by omega
      have d2' : x < (fs.length : Int) := by omega
      obtain ⟨adf, ef, hy⟩ := (own_reads' HF2.out).at_ x d1' d2'; cases ef; have q1 : decide (x < 0) = false := decide_eq_false d1
      have q2 : decide ((fs.length : Int) ≤ x) = false := decide_eq_false d2
      clear d1 d2; by_cases d3 : rd fs x = m
      ·rw [if_pos d3] at hstep; have q3 : (rd fs x == m) = true := by simpa using d3
       have q4 : (rd fs x != m) = false := by simpa using d3
       have HS2 := a_ hstep; have D3 := a_ d3; clear hstep d3; go_wp2; go_quiet (fail)
       generalize hq : wr.drewN nq = wq; have HN4 := a_ (blk_at hq HN2.out); have HG4 : Aside0 (w.grownBy wq (some b)) := ⟨by subst hq; exact HG2.out.trans (grown_of_below (pw_below_drewN (Below.refl _ _) _) _)⟩
       clear hq hn0 hnf ht0 hx hy; have hn4 := cell_of_one HN4.out; have hnf4 := free_of_one HN4.out; go_wp2; go_roundg (xs.length - (i + 1))
       case measure => omega
       case rel =>
        exact ⟨i + 1, _, by omega, by omega, by rw [show wrap64 ((i : Int) + 1) = ((i + 1 : Nat) : Int) by unfold wrap64; have := HXL.out; omega], HS2, ⟨one_setCell HN4.out⟩, ⟨HG4.out.trans (grownBy_setCell' _ _ _)⟩⟩
      ·rw [if_neg d3] at hstep; cases hstep; have q3 : (rd fs x == n') = false := by simpa using d3
       have q4 : (rd fs x != n') = true := by simpa using d3
       clear d3; go_wp2; go_quiet (fail)
       go_wp2; go_ret; exact ⟨rfl, blk_drewN HN2.out _, HG2.out.trans (grown_of_below (pw_below_drewN (Below.refl _ _) _) _), HG2.out.size⟩
     ·have hil : i = xs.length := by omega
      subst hil; have e0 := HH2.out; rw [List.drop_length] at e0; unfold impl_Action_good.g at e0
      cases e0; clear HH2; go_wp2; go_ret; exact ⟨rfl, HN2.out, HG2.out, HG2.out.size⟩
    ·have q2 : decide ((0 : Int) < (xs.length : Int)) = false := decide_eq_false (by omega)
     have q3 : decide (0 < xs.length) = false := decide_eq_false (by omega)
     clear c4; have HNA := a_ (blk_alloc (blk_alloc HN.out (.cells #[.int .i64 3, .int .i64 K, .string (⟨#[]⟩ : ByteArray), .slice B xs.length cB] 108)) (.cells #[.int .i64 3, .int .i64 K, .string (⟨#[]⟩ : ByteArray), .slice none 0 0] 108)); have HG := a_ ((World.grownBy_alloc w (.cells #[.int .i64 3, .int .i64 K, .string (⟨#[]⟩ : ByteArray), .slice B xs.length cB] 108) (some b)).trans (World.grownBy_alloc _ (.cells #[.int .i64 3, .int .i64 K, .string (⟨#[]⟩ : ByteArray), .slice none 0 0] 108) (some b))); go_enter Tryz.func98, Tryz.ntmps98; go_wp2; go_loopg [77] xs.length (fun gg v77 wr => ∃ (i : Nat) (m : Int), i ≤ xs.length ∧ xs.length - i ≤ gg ∧ v77 = .int .i64 (i : Int) ∧ Aside0 (impl_Action_good.g fs (xs.drop i) m = some (r, n')) ∧ Aside0 (wr.heap[b]? = some (.cells #[.int .i64 m] 3 (0, 0))) ∧ Aside0 (w.grownBy wr (some b)))
     case atStart => exact ⟨0, n, Nat.zero_le _, Nat.le_refl _, rfl, HH, HNA, HG⟩
     obtain ⟨i, m, hi, hgg, rfl, HH2, HN2, HG2⟩ := hrel; by_cases hlt : i < xs.length
     ·have hz : (i : Int) < (xs.length : Int) := by omega
      have hz0 : (0 : Int) ≤ (i : Int) := by omega
      have HW : Aside0 (Below w0.heap.size w0 wr) := ⟨HB.out.grown HG2.out HB.out.size (by intro q e; injection e with e; have := HB0.out; omega)⟩
      obtain ⟨ad, eA, hx⟩ := Kd.at_int HX.out (i : Int) hz0 hz; subst eA; replace hx := (HW.out.cell (World.block_lt_of_cell? w0 _ hx)).trans hx; have hstep := ag_g_cons fs xs m i hlt _ HH2.out; have hn0 := cell_of_one HN2.out; have hnf := free_of_one HN2.out; have hT2 := blk_grown HT.out HG2.out (by intro e; injection e with e; exact HBT.out e); have hF2 := own_other HF.out HG2.out (Or.inr (fun e => HNE.out e.symm)); have ht0 := (blk_cell hT2 0).trans rfl; simp only [List.getElem?_toArray, List.getElem?_cons_zero, List.getElem?_cons_succ] at ht0; have HF2 := a_ hF2; have HFL2 := HFL.out; clear hT2 hF2; simp only [Int.toNat_natCast] at hx; generalize rd xs (i : Int) = x at *; by_cases d1 : x < 0
      ·rw [if_neg (by omega)] at hstep; cases hstep; have q1 : decide (x < 0) = true := decide_eq_true d1
       clear d1; go_wp2; go_quiet (fail)
       go_wp2; go_ret; exact ⟨rfl, blk_drewN HN2.out _, HG2.out.trans (grown_of_below (pw_below_drewN (Below.refl _ _) _) _), HG2.out.size⟩
      by_cases d2 : (fs.length : Int) ≤ x
      ·rw [if_neg (by omega)] at hstep; cases hstep; have q1 : decide (x < 0) = false := decide_eq_false d1
       have q2 : decide ((fs.length : Int) ≤ x) = true := decide_eq_true d2
       clear d1 d2; go_wp2; go_quiet (fail)
       go_wp2; go_ret; exact ⟨rfl, blk_drewN HN2.out _, HG2.out.trans (grown_of_below (pw_below_drewN (Below.refl _ _) _) _), HG2.out.size⟩
      rw [if_pos (by omega)] at hstep; have d1' : 0 ≤ x := by omega
      have d2' : x < (fs.length : Int) := by omega
      obtain ⟨adf, ef, hy⟩ := (own_reads' HF2.out).at_ x d1' d2'; cases ef; have q1 : decide (x < 0) = false := decide_eq_false d1
      have q2 : decide ((fs.length : Int) ≤ x) = false := decide_eq_false d2
      clear d1 d2; by_cases d3 : rd fs x = m
      ·rw [if_pos d3] at hstep; have q3 : (rd fs x == m) = true := by simpa using d3
       have q4 : (rd fs x != m) = false := by simpa using d3
       have HS2 := a_ hstep; have D3 := a_ d3; clear hstep d3; go_wp2; go_quiet (fail)
       generalize hq : wr.drewN nq = wq; have HN4 := a_ (blk_at hq HN2.out); have HG4 : Aside0 (w.grownBy wq (some b)) := ⟨by subst hq; exact HG2.out.trans (grown_of_below (pw_below_drewN (Below.refl _ _) _) _)⟩
       clear hq hn0 hnf ht0 hx hy; have hn4 := cell_of_one HN4.out; have hnf4 := free_of_one HN4.out; go_wp2; go_roundg (xs.length - (i + 1))
       case measure => omega
       case rel =>
        exact ⟨i + 1, _, by omega, by omega, by rw [show wrap64 ((i : Int) + 1) = ((i + 1 : Nat) : Int) by unfold wrap64; have := HXL.out; omega], HS2, ⟨one_setCell HN4.out⟩, ⟨HG4.out.trans (grownBy_setCell' _ _ _)⟩⟩
      ·rw [if_neg d3] at hstep; cases hstep; have q3 : (rd fs x == n') = false := by simpa using d3
       have q4 : (rd fs x != n') = true := by simpa using d3
       clear d3; go_wp2; go_quiet (fail)
       go_wp2; go_ret; exact ⟨rfl, blk_drewN HN2.out _, HG2.out.trans (grown_of_below (pw_below_drewN (Below.refl _ _) _) _), HG2.out.size⟩
     ·have hil : i = xs.length := by omega
      subst hil; have e0 := HH2.out; rw [List.drop_length] at e0; unfold impl_Action_good.g at e0
      cases e0; clear HH2; go_wp2; go_ret; exact ⟨rfl, HN2.out, HG2.out, HG2.out.size⟩
  ·rw [if_neg c2] at h; cases h; have s1 : (cls.toList == ([] : List UInt8)) = false := beq_eq_false_iff_ne.mpr c2
   have s2 : (([] : List UInt8) == cls.toList) = false := beq_eq_false_iff_ne.mpr (Ne.symm c2)
   have s3 : cls.toList.isEmpty = false := by simpa using c2
   have s4 : (([] : List UInt8) != cls.toList) = true := bne_iff_ne.mpr (Ne.symm c2)
   have s5 : (cls.toList != ([] : List UInt8)) = true := bne_iff_ne.mpr c2
   clear c2; have HNA := a_ (blk_alloc (blk_alloc HN.out (.cells #[.int .i64 3, .int .i64 K, .string cls, .slice B xs.length cB] 108)) (.cells #[.int .i64 3, .int .i64 K, .string (⟨#[]⟩ : ByteArray), .slice none 0 0] 108)); have HG := a_ ((World.grownBy_alloc w (.cells #[.int .i64 3, .int .i64 K, .string cls, .slice B xs.length cB] 108) (some b)).trans (World.grownBy_alloc _ (.cells #[.int .i64 3, .int .i64 K, .string (⟨#[]⟩ : ByteArray), .slice none 0 0] 108) (some b))); go_enter Tryz.func98, Tryz.ntmps98; go_wp2; go_ret; exact ⟨rfl, HNA.out, HG.out, HG.out.size⟩
 by_cases k4 : kd = 4
 ·subst k4; clear k1 k2 k3; rw [if_neg (by decide), if_neg (by decide), if_neg (by decide), if_pos rfl] at h; by_cases c2 : cls.toList = []
  ·rw [if_pos c2] at h; have c3 : cls = ⟨#[]⟩ := ag_ba c2
   subst c3; clear c2; by_cases c4 : K = 0
   rotate_left
   ·rw [if_neg c4] at h; cases h; have q4 : ((0 : Int) == K) = false := by simpa using Ne.symm c4
    have q5 : ((0 : Int) != K) = true := by simpa using Ne.symm c4
    clear c4; have HNA := a_ (blk_alloc (blk_alloc HN.out (.cells #[.int .i64 4, .int .i64 K, .string (⟨#[]⟩ : ByteArray), .slice B xs.length cB] 108)) (.cells #[.int .i64 4, .int .i64 0, .string (⟨#[]⟩ : ByteArray), .slice none 0 0] 108)); have HG := a_ ((World.grownBy_alloc w (.cells #[.int .i64 4, .int .i64 K, .string (⟨#[]⟩ : ByteArray), .slice B xs.length cB] 108) (some b)).trans (World.grownBy_alloc _ (.cells #[.int .i64 4, .int .i64 0, .string (⟨#[]⟩ : ByteArray), .slice none 0 0] 108) (some b))); go_enter Tryz.func98, Tryz.ntmps98; go_wp2; go_ret; exact ⟨rfl, HNA.out, HG.out, HG.out.size⟩
   subst c4; rw [if_pos rfl] at h; by_cases c1 : xs = []
   ·subst c1; rw [if_pos rfl] at h; cases h; have HNA := a_ (blk_alloc (blk_alloc HN.out (.cells #[.int .i64 4, .int .i64 0, .string (⟨#[]⟩ : ByteArray), .slice B 0 cB] 108)) (.cells #[.int .i64 4, .int .i64 0, .string (⟨#[]⟩ : ByteArray), .slice none 0 0] 108)); have HG := a_ ((World.grownBy_alloc w (.cells #[.int .i64 4, .int .i64 0, .string (⟨#[]⟩ : ByteArray), .slice B 0 cB] 108) (some b)).trans (World.grownBy_alloc _ (.cells #[.int .i64 4, .int .i64 0, .string (⟨#[]⟩ : ByteArray), .slice none 0 0] 108) (some b))); go_enter Tryz.func98, Tryz.ntmps98; go_wp2; go_loopg [77] 0 (fun gg v77 wr => v77 = .int .i64 0 ∧ Aside0 (wr.heap[b]? = some (.cells #[.int .i64 n] 3 (0, 0))) ∧ Aside0 (w.grownBy wr (some b)))
    case atStart => exact ⟨rfl, HNA, HG⟩
    obtain ⟨rfl, HN2, HG2⟩ := hrel; go_wp2; go_ret; exact ⟨rfl, HN2.out, HG2.out, HG2.out.size⟩
   ·rw [if_neg c1] at h; cases h; have c3 : 0 < xs.length := by cases xs with | nil => exact absurd rfl c1 | cons a l => simp
    have q2 : decide ((0 : Int) < (xs.length : Int)) = true := decide_eq_true (by omega)
    have q3 : decide (0 < xs.length) = true := ct_ c3
    clear c1 c3; by_cases c4 : 6 < xs.length
    ·have q1 : decide ((6 : Int) < (xs.length : Int)) = true := decide_eq_true (by omega)
     clear c4; have HNA := a_ (blk_alloc (blk_alloc HN.out (.cells #[.int .i64 4, .int .i64 0, .string (⟨#[]⟩ : ByteArray), .slice B xs.length cB] 108)) (.cells #[.int .i64 4, .int .i64 0, .string (⟨#[]⟩ : ByteArray), .slice none 0 0] 108)); have HG := a_ ((World.grownBy_alloc w (.cells #[.int .i64 4, .int .i64 0, .string (⟨#[]⟩ : ByteArray), .slice B xs.length cB] 108) (some b)).trans (World.grownBy_alloc _ (.cells #[.int .i64 4, .int .i64 0, .string (⟨#[]⟩ : ByteArray), .slice none 0 0] 108) (some b))); go_enter Tryz.func98, Tryz.ntmps98; go_wp2; go_ret; exact ⟨rfl, HNA.out, HG.out, HG.out.size⟩
    ·have q1 : decide ((6 : Int) < (xs.length : Int)) = false := decide_eq_false (by omega)
     clear c4; have HNA := a_ (blk_alloc (blk_alloc HN.out (.cells #[.int .i64 4, .int .i64 0, .string (⟨#[]⟩ : ByteArray), .slice B xs.length cB] 108)) (.cells #[.int .i64 4, .int .i64 0, .string (⟨#[]⟩ : ByteArray), .slice none 0 0] 108)); have HG := a_ ((World.grownBy_alloc w (.cells #[.int .i64 4, .int .i64 0, .string (⟨#[]⟩ : ByteArray), .slice B xs.length cB] 108) (some b)).trans (World.grownBy_alloc _ (.cells #[.int .i64 4, .int .i64 0, .string (⟨#[]⟩ : ByteArray), .slice none 0 0] 108) (some b))); go_enter Tryz.func98, Tryz.ntmps98; go_wp2; go_ret; exact ⟨rfl, HNA.out, HG.out, HG.out.size⟩
  ·rw [if_neg c2] at h; cases h; have s1 : (cls.toList == ([] : List UInt8)) = false := beq_eq_false_iff_ne.mpr c2
   have s2 : (([] : List UInt8) == cls.toList) = false := beq_eq_false_iff_ne.mpr (Ne.symm c2)
   have s3 : cls.toList.isEmpty = false := by simpa using c2
   have s4 : (([] : List UInt8) != cls.toList) = true := bne_iff_ne.mpr (Ne.symm c2)
   have s5 : (cls.toList != ([] : List UInt8)) = true := bne_iff_ne.mpr c2
   clear c2; have HNA := a_ (blk_alloc (blk_alloc HN.out (.cells #[.int .i64 4, .int .i64 K, .string cls, .slice B xs.length cB] 108)) (.cells #[.int .i64 4, .int .i64 0, .string (⟨#[]⟩ : ByteArray), .slice none 0 0] 108)); have HG := a_ ((World.grownBy_alloc w (.cells #[.int .i64 4, .int .i64 K, .string cls, .slice B xs.length cB] 108) (some b)).trans (World.grownBy_alloc _ (.cells #[.int .i64 4, .int .i64 0, .string (⟨#[]⟩ : ByteArray), .slice none 0 0] 108) (some b))); go_enter Tryz.func98, Tryz.ntmps98; go_wp2; go_ret; exact ⟨rfl, HNA.out, HG.out, HG.out.size⟩
 rw [if_neg k1, if_neg k2, if_neg k3, if_neg k4] at h; cases h; have p1 : (kd == 1) = false := by simpa using k1
 have p2 : (kd == 2) = false := by simpa using k2
 have p3 : (kd == 3) = false := by simpa using k3
 have p4 : (kd == 4) = false := by simpa using k4
 clear k1 k2 k3 k4; have HNA := a_ (blk_alloc (blk_alloc HN.out (.cells #[.int .i64 kd, .int .i64 K, .string cls, .slice B xs.length cB] 108)) (.cells #[.int .i64 kd, .int .i64 0, .string (⟨#[]⟩ : ByteArray), .slice none 0 0] 108)); have HG := a_ ((World.grownBy_alloc w (.cells #[.int .i64 kd, .int .i64 K, .string cls, .slice B xs.length cB] 108) (some b)).trans (World.grownBy_alloc _ (.cells #[.int .i64 kd, .int .i64 0, .string (⟨#[]⟩ : ByteArray), .slice none 0 0] 108) (some b))); go_enter Tryz.func98, Tryz.ntmps98; go_wp2; go_ret; exact ⟨rfl, HNA.out, HG.out, HG.out.size⟩
end Go.Proofs.YtejjlkbbnhpbdaaGreat.P
