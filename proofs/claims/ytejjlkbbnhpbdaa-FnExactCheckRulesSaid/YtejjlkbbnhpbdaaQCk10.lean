/- The row of the law FnExactCheckRules: for every input the call returns true, and each argument reads behind it as it read before; no condition of ours. -/
import Derived.Carry
import Derived.IntWalk
import Derived.ChangeArms
import Derived.DataReads
import Derived.WideShapes
import Derived.Test.YtejjlkbbnhpbdaaQCk9
namespace Go.Proofs.Ytejjlkbbnhpbdaa.P
open Go.Proofs.YtejjlkbbnhpbdaaX
open Go.RowKit Go.Proofs.YtejjlkbbnhpbdaaW.PrintWords Go.Proofs.YtejjlkbbnhpbdaaW.PrintLast Go.Proofs.YtejjlkbbnhpbdaaW.PrintMore
attribute [local go_sem] max2_int min2_int max_two min_two max_three min_three max_four min_four
set_option linter.unusedVariables false
set_option linter.unusedSimpArgs false
open Go.Proofs.YtejjlkbbnhpbdaaX
def ck_acts (n : Int) (lp : Nat) : List S46 → Nat → Int
 | [], _ => -1
 | a :: as_, j => if (a.f0 = 2 ∨ a.f0 = 3) ∧ (a.f1 < 1 ∨ n < a.f1) then (lp : Int) + (j : Int) + 1 else ck_acts n lp as_ (j + 1)
def ck_rules (k : Nat) : List S42 → Nat → List ByteArray → Option (Int × Int × Int)
 | [], _, _ => some (0, 0, 0)
 | q :: qs, i, M => if q.f0.size ≤ maxLen then (impl_Rule_shapeFault.f q.f0 q.f1 q.f2 q.f3 q.f4).bind fun s => if 0 ≤ s then some (1, (i : Int), s) else
   if memS q.f0 M = true then some (2, (i : Int), 0) else
   (impl_Rule_positives.f k q.f0 q.f1 q.f2 q.f3 q.f4).bind fun n => if n < 1 ∨ 3 < n then some (3, (i : Int), 0) else
   (impl_Rule_scopeFault.f q.f0 q.f1 q.f2 q.f3 q.f4).bind fun c => if 0 ≤ c then some (4, (i : Int), c) else
   if q.f2.length ≤ 6 ∧ q.f4.length ≤ 8 then (if ck_acts n q.f2.length q.f4 0 = -1 then ck_rules k qs (i + 1) (q.f0 :: M) else some (5, (i : Int), ck_acts n q.f2.length q.f4 0)) else none
  else none
def impl_CheckRules.f (k : Nat) (l0 : List S42) : Option (Int × Int × Int) := if 16 < l0.length then some (1, 0, 0) else ck_rules k l0 0 []
theorem ck_rules_mono (k : Nat) : ∀ (l : List S42) (i : Nat) (M : List ByteArray), LeO (ck_rules k l i M) (ck_rules (k + 1) l i M)
 | [], i, M => LeO.refl _
 | q :: qs, i, M => LeO.ite (LeO.bind (LeO.refl _) (fun _ => LeO.ite (LeO.refl _) (LeO.ite (LeO.refl _) (LeO.bind (impl_Rule_positives.mono _ _ _ _ _ k) (fun _ => LeO.ite (LeO.refl _) (LeO.bind (LeO.refl _) (fun _ => LeO.ite (LeO.refl _) (LeO.ite (LeO.ite (ck_rules_mono k qs _ _) (LeO.refl _)) (LeO.refl _))))))))) (LeO.refl _)
theorem impl_CheckRules.mono : ∀ a0 k, LeO (impl_CheckRules.f k a0) (impl_CheckRules.f (k + 1) a0) := by
 intro a0 k; unfold impl_CheckRules.f
 exact LeO.ite (LeO.refl _) (ck_rules_mono k _ _ _)
theorem ck_acts_cons (n : Int) (lp : Nat) (as_ : List S46) (j : Nat) (h : j < as_.length) (v : Int) (hg : ck_acts n lp (as_.drop j) j = v) : (if ((rd_T46 as_ (j : Int)).f0 = 2 ∨ (rd_T46 as_ (j : Int)).f0 = 3) ∧ ((rd_T46 as_ (j : Int)).f1 < 1 ∨ n < (rd_T46 as_ (j : Int)).f1) then (lp : Int) + (j : Int) + 1 else ck_acts n lp (as_.drop (j + 1)) (j + 1)) = v := by
 have e : rd_T46 as_ (j : Int) = as_[j] := by
  unfold rd_T46
  simp [h]
 rw [List.drop_eq_getElem_cons h] at hg; unfold ck_acts at hg
 rw [e]; exact hg
theorem ck_rules_cons (k : Nat) (l : List S42) (i : Nat) (h : i < l.length) (M : List ByteArray) (y : Int × Int × Int) (hg : ck_rules k (l.drop i) i M = some y) :
  (fun q : S42 => if q.f0.size ≤ maxLen then (impl_Rule_shapeFault.f q.f0 q.f1 q.f2 q.f3 q.f4).bind fun s => if 0 ≤ s then some (1, (i : Int), s) else
   if memS q.f0 M = true then some (2, (i : Int), 0) else
   (impl_Rule_positives.f k q.f0 q.f1 q.f2 q.f3 q.f4).bind fun n => if n < 1 ∨ 3 < n then some (3, (i : Int), 0) else
   (impl_Rule_scopeFault.f q.f0 q.f1 q.f2 q.f3 q.f4).bind fun c => if 0 ≤ c then some (4, (i : Int), c) else
   if q.f2.length ≤ 6 ∧ q.f4.length ≤ 8 then (if ck_acts n q.f2.length q.f4 0 = -1 then ck_rules k (l.drop (i + 1)) (i + 1) (q.f0 :: M) else some (5, (i : Int), ck_acts n q.f2.length q.f4 0)) else none
  else none) (rd_T42 l (i : Int)) = some y := by
 have e : rd_T42 l (i : Int) = l[i] := by
  unfold rd_T42
  simp [h]
 rw [List.drop_eq_getElem_cons h] at hg; unfold ck_rules at hg
 rw [e]; exact hg
theorem ck_res {w : World} {g : Nat} {a b c x y z : Int} (h : w.heap[g]? = some (.cells #[.int .i64 a, .int .i64 b, .int .i64 c] 25 (0, 0))) :
  (((w.setCell ⟨g, 0, none⟩ (.int .i64 x)).setCell ⟨g, 1, none⟩ (.int .i64 y)).setCell ⟨g, 2, none⟩ (.int .i64 z)).heap[g]? = some (.cells #[.int .i64 x, .int .i64 y, .int .i64 z] 25 (0, 0)) :=
 blk_put (blk_put (blk_put h 0 _ rfl) 1 _ rfl) 2 _ rfl
theorem ck_below {w W : World} {g : Nat} {u v x : Value} (h : Below w.heap.size w W) (hg : w.heap.size ≤ g) : Below w.heap.size w (((W.setCell ⟨g, 0, none⟩ u).setCell ⟨g, 1, none⟩ v).setCell ⟨g, 2, none⟩ x) :=
 below_set (below_set (below_set h hg) hg) hg
set_option maxHeartbeats 16000000 in
set_option maxRecDepth 100000 in
theorem impl_CheckRules.calls (k : Nat) (A0 : Option Addr) (c0 : Nat) (l0 : List (S42)) (r1 : Int) (r2 : Int) (r3 : Int) (w : World) (hr0 : Kd.C k42 w A0 l0.length l0) (hc0 : l0.length ≤ c0) (h : impl_CheckRules.f k l0 = some (r1, r2, r3)) :
  Calls Try.prog 7 #[.slice A0 l0.length c0] w fun e w' => e = .returned (.agg #[.int .i64 r1, .int .i64 r2, .int .i64 r3]) ∧ Below w.heap.size w w' := by
 have hu := Try.underlying42; have hu2 := Try.underlying46; have hu3 := Try.underlying25; have HR0 := a_ hr0; clear hr0 hc0; have HB0 := a_ (below_alloc (Below.refl w.heap.size w) (.cells #[.int .i64 0, .int .i64 0, .int .i64 0] 25)); have BR0 := a_ (blk_new w (.cells #[.int .i64 0, .int .i64 0, .int .i64 0] 25)); unfold impl_CheckRules.f at h
 by_cases c16 : 16 < l0.length
 ·rw [if_pos c16] at h; cases h; have q16 : decide ((16 : Int) < (l0.length : Int)) = true := decide_eq_true (by omega)
  clear c16; go_enter Try.func7, Try.ntmps7; go_wp2; refine bodyPost_ret (results_cell_row rfl _ _ w.heap.size 25 #[.int .i64 1, .int .i64 0, .int .i64 0] (0, 0) _ rfl (blk_new w _) Try.underlying25 rfl (by kernel_rfl)) rfl ⟨rfl, below_alloc (Below.refl _ _) _⟩
 rw [if_neg c16] at h; have q16 : decide ((16 : Int) < (l0.length : Int)) = false := decide_eq_false (by omega)
 have L16 : Aside0 (l0.length ≤ 16) := ⟨by omega⟩
 clear c16; have HY : Aside0 (ck_rules k (l0.drop 0) 0 [] = some (r1, r2, r3)) := ⟨h⟩
 clear h; have HB := a_ (below_alloc HB0.out (.map #[] 0)); have BR := a_ (blk_alloc BR0.out (.map #[] 0)); have SN : Aside0 (SetS ((w.alloc (.cells #[.int .i64 0, .int .i64 0, .int .i64 0] 25)).alloc (.map #[] 0)) (w.heap.size + 1) 0 []) := ⟨by have := SetS_made (w.alloc (.cells #[.int .i64 0, .int .i64 0, .int .i64 0] 25)); rwa [show (w.alloc (.cells #[.int .i64 0, .int .i64 0, .int .i64 0] 25)).heap.size = w.heap.size + 1 by simp] at this⟩
 clear BR0 HB0; have hmm := @run_makeMap Try.prog; go_enter Try.func7, Try.ntmps7; go_wp2; go_loopg [18] l0.length (fun gg v18 wr => ∃ (i nN : Nat) (M : List ByteArray), i ≤ l0.length ∧ l0.length - i ≤ gg ∧ v18 = .int .i64 (i : Int) ∧ Aside0 (nN ≤ i) ∧ Aside0 (ck_rules k (l0.drop i) i M = some (r1, r2, r3)) ∧ Aside0 (Below w.heap.size w wr) ∧ Aside0 (wr.heap[w.heap.size]? = some (.cells #[.int .i64 0, .int .i64 0, .int .i64 0] 25 (0, 0))) ∧ Aside0 (SetS wr (w.heap.size + 1) nN M))
 case atStart => exact ⟨0, 0, [], Nat.zero_le _, Nat.le_refl _, rfl, ⟨Nat.le_refl _⟩, HY, HB, BR, SN⟩
 clear HY HB BR SN; obtain ⟨i, nN, M, hi, hgg, rfl, HN, HY, HB, BR, SN⟩ := hrel; obtain ⟨wa, hwa⟩ : ∃ x, x = wr := ⟨_, rfl⟩; subst hwa; by_cases hlt : i < l0.length
 ·have hz : (i : Int) < (l0.length : Int) := by omega
  have hz0 : (0 : Int) ≤ (i : Int) := by omega
  have HI : Aside0 (i ≤ 16) := ⟨by have := L16.out; omega⟩
  have HS1 : Aside0 (w.heap.size + 1 < wa.heap.size) := ⟨SN.out.lt⟩
  obtain ⟨ad, B2, d2, B3, d3, B4, d4, e0, hx0, hx1, hx2, hx3, hx4, hl2, hC2, hl3, hC3, hl4, hC4⟩ := at_T42 HR0.out (i : Int) hz0 hz; cases e0; replace hx0 := mx_ HB hx0; replace hx1 := mx_ HB hx1; replace hx2 := mx_ HB hx2; replace hx3 := mx_ HB hx3; replace hx4 := mx_ HB hx4; simp only [Int.toNat_natCast] at hx0 hx1 hx2 hx3 hx4; have HC2 := a_ hC2; have HC3 := a_ hC3; have HC4 := a_ hC4; have HL2 := a_ hl2; have HL3 := a_ hl3; have HL4 := a_ hl4; have hst := ck_rules_cons k l0 i hlt M (r1, r2, r3) HY.out; clear hC2 hC3 hC4 hl2 hl3 hl4 HY; replace hst : (fun q : S42 => _) (rd_T42 l0 (i : Int)) = some (r1, r2, r3) := hst
  generalize rd_T42 l0 (i : Int) = q at *; simp only [] at hst; by_cases hsz : q.f0.size ≤ maxLen
  rotate_left
  ·rw [if_neg hsz] at hst; cases hst
  rw [if_pos hsz] at hst; have HSZ := a_ hsz; clear hsz; obtain ⟨s, hs, hst⟩ := Option.bind_eq_some_iff.1 hst; have HSF := a_ hs; clear hs; go_wp2_with fail; refine (impl_Rule_shapeFault.calls q.f0 q.f1 B2 d2 q.f2 B3 d3 q.f3 B4 d4 q.f4 s _ (Kd.C_below HC2.out (below_alloc HB.out _)) HL2.out (Kd.C_below HC3.out (below_alloc HB.out _)) HL3.out (Kd.C_below HC4.out (below_alloc HB.out _)) HL4.out HSF.out).mono ?_; rintro e w1 ⟨rfl, hd⟩; have HB1 := a_ (below_step (below_alloc HB.out (.cells #[.string q.f0, .int .i64 q.f1, .slice B2 q.f2.length d2, .slice B3 q.f3.length d3, .slice B4 q.f4.length d4] 42)) hd); have BR1 := a_ (blk_below (blk_alloc BR.out (.cells #[.string q.f0, .int .i64 q.f1, .slice B2 q.f2.length d2, .slice B3 q.f3.length d3, .slice B4 q.f4.length d4] 42)) hd); have BX1 := a_ (blk_below (blk_new wa (.cells #[.string q.f0, .int .i64 q.f1, .slice B2 q.f2.length d2, .slice B3 q.f3.length d3, .slice B4 q.f4.length d4] 42)) hd); have SN1 := a_ ((SetS.alloc SN.out (.cells #[.string q.f0, .int .i64 q.f1, .slice B2 q.f2.length d2, .slice B3 q.f3.length d3, .slice B4 q.f4.length d4] 42)).kept (grown_of_below hd none) (by simp)); clear hd hx0 hx1 hx2 hx3 hx4; by_cases s0 : 0 ≤ s
  ·rw [if_pos s0] at hst; have q0 : decide (0 ≤ s) = true := decide_eq_true s0
   clear s0; cases hst; have hr0 := (blk_cell BR1.out 0).trans rfl; have hr1 := (blk_cell BR1.out 1).trans rfl; have hr2 := (blk_cell BR1.out 2).trans rfl; have hf0 := blk_frozen BR1.out 0; have hf1 := blk_frozen BR1.out 1; have hf2 := blk_frozen BR1.out 2; simp only [List.getElem?_toArray, List.getElem?_cons_zero, List.getElem?_cons_succ] at hr0 hr1 hr2; go_wp2; refine bodyPost_ret (results_cell_row rfl _ _ w.heap.size 25 _ (0, 0) _ rfl (ck_res BR1.out) Try.underlying25 rfl (by kernel_rfl)) rfl ⟨rfl, ck_below HB1.out (Nat.le_refl _)⟩
  rw [if_neg s0] at hst; have q0 : decide (0 ≤ s) = false := decide_eq_false s0
  clear s0; have hxa0 := (blk_cell BX1.out 0).trans rfl; have hxa1 := (blk_cell BX1.out 1).trans rfl; have hxa2 := (blk_cell BX1.out 2).trans rfl; have hxa3 := (blk_cell BX1.out 3).trans rfl; have hxa4 := (blk_cell BX1.out 4).trans rfl; simp only [List.getElem?_toArray, List.getElem?_cons_zero, List.getElem?_cons_succ] at hxa0 hxa1 hxa2 hxa3 hxa4; go_wp2_with fail; refine (impl_nameSet_has.calls (w.heap.size + 1) nN M q.f0 _ SN1.out HSZ.out).mono ?_; rintro e w2 ⟨rfl, hd⟩; have HB2 := a_ (below_step HB1.out hd); have BR2 := a_ (blk_below BR1.out hd); have BX2 := a_ (blk_below BX1.out hd); have SN2 := a_ (SN1.out.kept (grown_of_below hd none) (by simp)); clear hd hxa0 hxa1 hxa2 hxa3 hxa4 HB1 BR1 BX1 SN1 q0; cases hm : memS q.f0 M with
  | true =>
   rw [if_pos hm] at hst; cases hst; have hr0 := (blk_cell BR2.out 0).trans rfl; have hr1 := (blk_cell BR2.out 1).trans rfl; have hr2 := (blk_cell BR2.out 2).trans rfl; have hf0 := blk_frozen BR2.out 0; have hf1 := blk_frozen BR2.out 1; have hf2 := blk_frozen BR2.out 2; simp only [List.getElem?_toArray, List.getElem?_cons_zero, List.getElem?_cons_succ] at hr0 hr1 hr2; go_wp2; refine bodyPost_ret (results_cell_row rfl _ _ w.heap.size 25 _ (0, 0) _ rfl (ck_res BR2.out) Try.underlying25 rfl (by kernel_rfl)) rfl ⟨rfl, ck_below HB2.out (Nat.le_refl _)⟩
  | false =>
  rw [if_neg (by rw [hm]; decide)] at hst; obtain ⟨n, hn, hst⟩ := Option.bind_eq_some_iff.1 hst; have HPN := a_ hn; clear hn; have hxb0 := (blk_cell BX2.out 0).trans rfl; have hxb1 := (blk_cell BX2.out 1).trans rfl; have hxb2 := (blk_cell BX2.out 2).trans rfl; have hxb3 := (blk_cell BX2.out 3).trans rfl; have hxb4 := (blk_cell BX2.out 4).trans rfl; simp only [List.getElem?_toArray, List.getElem?_cons_zero, List.getElem?_cons_succ] at hxb0 hxb1 hxb2 hxb3 hxb4; go_wp2_with (at_mapUpdate; refine wpList_addS rfl _ _ _ 49 52 Try.underlying49 rfl (w.heap.size + 1) nN M SN2.out (lt_maxLen (by have := HN.out; have := HI.out; omega)) rfl q.f0 HSZ.out rfl rfl ?_; intro w3 hs3 hg3; have HB3 : Aside0 (Below w.heap.size w w3) := ⟨HB2.out.grown hg3 HB2.out.size (by intro z e; injection e with e; omega)⟩; have BR3 := a_ (blk_grown BR2.out hg3 (by intro e; injection e with e; omega)); have BX3 := a_ (blk_grown BX2.out hg3 (by intro e; injection e with e; have := HS1.out; omega)); have SN3 := a_ hs3; have hxc0 := (blk_cell BX3.out 0).trans rfl; have hxc1 := (blk_cell BX3.out 1).trans rfl; have hxc2 := (blk_cell BX3.out 2).trans rfl; have hxc3 := (blk_cell BX3.out 3).trans rfl; have hxc4 := (blk_cell BX3.out 4).trans rfl; simp only [List.getElem?_toArray, List.getElem?_cons_zero, List.getElem?_cons_succ] at hxc0 hxc1 hxc2 hxc3 hxc4; clear hs3 hg3); refine (impl_Rule_positives.calls k q.f0 q.f1 B2 d2 q.f2 B3 d3 q.f3 B4 d4 q.f4 n _ (Kd.C_below HC2.out HB3.out) HL2.out (Kd.C_below HC3.out HB3.out) HL3.out (Kd.C_below HC4.out HB3.out) HL4.out HPN.out).mono ?_; rintro e w4 ⟨rfl, hd⟩; have HB4 := a_ (below_step HB3.out hd); have BR4 := a_ (blk_below BR3.out hd); have BX4 := a_ (blk_below BX3.out hd); have SN4 := a_ (SN3.out.kept (grown_of_below hd none) (by simp)); clear hd hxb0 hxb1 hxb2 hxb3 hxb4 hxc0 hxc1 hxc2 hxc3 hxc4 HB2 BR2 BX2 SN2 HB3 BR3 BX3 SN3 hm; by_cases n1 : n < 1
  ·rw [if_pos (Or.inl n1)] at hst; cases hst; have q1 : decide (n < 1) = true := decide_eq_true n1
   clear n1; have hr0 := (blk_cell BR4.out 0).trans rfl; have hr1 := (blk_cell BR4.out 1).trans rfl; have hr2 := (blk_cell BR4.out 2).trans rfl; have hf0 := blk_frozen BR4.out 0; have hf1 := blk_frozen BR4.out 1; have hf2 := blk_frozen BR4.out 2; simp only [List.getElem?_toArray, List.getElem?_cons_zero, List.getElem?_cons_succ] at hr0 hr1 hr2; go_wp2; refine bodyPost_ret (results_cell_row rfl _ _ w.heap.size 25 _ (0, 0) _ rfl (ck_res BR4.out) Try.underlying25 rfl (by kernel_rfl)) rfl ⟨rfl, ck_below HB4.out (Nat.le_refl _)⟩
  have q1 : decide (n < 1) = false := decide_eq_false n1
  by_cases n3 : 3 < n
  ·rw [if_pos (Or.inr n3)] at hst; cases hst; have q3 : decide (3 < n) = true := decide_eq_true n3
   clear n1 n3; have hr0 := (blk_cell BR4.out 0).trans rfl; have hr1 := (blk_cell BR4.out 1).trans rfl; have hr2 := (blk_cell BR4.out 2).trans rfl; have hf0 := blk_frozen BR4.out 0; have hf1 := blk_frozen BR4.out 1; have hf2 := blk_frozen BR4.out 2; simp only [List.getElem?_toArray, List.getElem?_cons_zero, List.getElem?_cons_succ] at hr0 hr1 hr2; go_wp2; refine bodyPost_ret (results_cell_row rfl _ _ w.heap.size 25 _ (0, 0) _ rfl (ck_res BR4.out) Try.underlying25 rfl (by kernel_rfl)) rfl ⟨rfl, ck_below HB4.out (Nat.le_refl _)⟩
  rw [if_neg (by omega)] at hst; have q3 : decide (3 < n) = false := decide_eq_false n3
  clear n1 n3; obtain ⟨c, hc, hst⟩ := Option.bind_eq_some_iff.1 hst; have HCF := a_ hc; clear hc; have hxd0 := (blk_cell BX4.out 0).trans rfl; have hxd1 := (blk_cell BX4.out 1).trans rfl; have hxd2 := (blk_cell BX4.out 2).trans rfl; have hxd3 := (blk_cell BX4.out 3).trans rfl; have hxd4 := (blk_cell BX4.out 4).trans rfl; simp only [List.getElem?_toArray, List.getElem?_cons_zero, List.getElem?_cons_succ] at hxd0 hxd1 hxd2 hxd3 hxd4; go_wp2_with fail; refine (impl_Rule_scopeFault.calls q.f0 q.f1 B2 d2 q.f2 B3 d3 q.f3 B4 d4 q.f4 c _ (Kd.C_below HC2.out HB4.out) HL2.out (Kd.C_below HC3.out HB4.out) HL3.out (Kd.C_below HC4.out HB4.out) HL4.out HCF.out).mono ?_; rintro e w5 ⟨rfl, hd⟩; have HB5 := a_ (below_step HB4.out hd); have BR5 := a_ (blk_below BR4.out hd); have BX5 := a_ (blk_below BX4.out hd); have SN5 := a_ (SN4.out.kept (grown_of_below hd none) (by simp)); clear hd hxd0 hxd1 hxd2 hxd3 hxd4 HB4 BR4 BX4 SN4 q1 q3; by_cases c1 : 0 ≤ c
  ·rw [if_pos c1] at hst; have q0 : decide (0 ≤ c) = true := decide_eq_true c1
   clear c1; cases hst; have hr0 := (blk_cell BR5.out 0).trans rfl; have hr1 := (blk_cell BR5.out 1).trans rfl; have hr2 := (blk_cell BR5.out 2).trans rfl; have hf0 := blk_frozen BR5.out 0; have hf1 := blk_frozen BR5.out 1; have hf2 := blk_frozen BR5.out 2; simp only [List.getElem?_toArray, List.getElem?_cons_zero, List.getElem?_cons_succ] at hr0 hr1 hr2; go_wp2; refine bodyPost_ret (results_cell_row rfl _ _ w.heap.size 25 _ (0, 0) _ rfl (ck_res BR5.out) Try.underlying25 rfl (by kernel_rfl)) rfl ⟨rfl, ck_below HB5.out (Nat.le_refl _)⟩
  rw [if_neg c1] at hst; have q0 : decide (0 ≤ c) = false := decide_eq_false c1
  clear c1; by_cases hln : q.f2.length ≤ 6 ∧ q.f4.length ≤ 8
  rotate_left
  ·rw [if_neg hln] at hst; cases hst
  rw [if_pos hln] at hst; have HLN := a_ hln; clear hln; obtain ⟨m, hm⟩ : ∃ m, ck_acts n q.f2.length q.f4 0 = m := ⟨_, rfl⟩; rw [hm] at hst; have HM : Aside0 (ck_acts n q.f2.length (q.f4.drop 0) 0 = m) := ⟨hm⟩
  have HST := a_ hst; clear hm hst; have hxe0 := (blk_cell BX5.out 0).trans rfl; have hxe1 := (blk_cell BX5.out 1).trans rfl; have hxe2 := (blk_cell BX5.out 2).trans rfl; have hxe3 := (blk_cell BX5.out 3).trans rfl; have hxe4 := (blk_cell BX5.out 4).trans rfl; simp only [List.getElem?_toArray, List.getElem?_cons_zero, List.getElem?_cons_succ] at hxe0 hxe1 hxe2 hxe3 hxe4; go_wp2; go_loopg [60] q.f4.length (fun gg v60 wr => ∃ j : Nat, j ≤ q.f4.length ∧ q.f4.length - j ≤ gg ∧ v60 = .int .i64 (j : Int) ∧ Aside0 (ck_acts n q.f2.length (q.f4.drop j) j = m) ∧ Aside0 (Below w.heap.size w wr) ∧ Aside0 (wr.heap[w.heap.size]? = some (.cells #[.int .i64 0, .int .i64 0, .int .i64 0] 25 (0, 0))) ∧ Aside0 (wr.heap[wa.heap.size]? = some (.cells #[.string q.f0, .int .i64 q.f1, .slice B2 q.f2.length d2, .slice B3 q.f3.length d3, .slice B4 q.f4.length d4] 42 (0, 0))) ∧ Aside0 (SetS wr (w.heap.size + 1) (nN + 1) (q.f0 :: M)))
  case atStart => exact ⟨0, Nat.zero_le _, Nat.le_refl _, rfl, HM, HB5, BR5, BX5, SN5⟩
  clear HM HB5 BR5 BX5 SN5 hxe0 hxe1 hxe2 hxe3 hxe4 q0; obtain ⟨j, hj, hggj, rfl, HM, HB6, BR6, BX6, SN6⟩ := hrel; by_cases hltj : j < q.f4.length
  ·have hzj : (j : Int) < (q.f4.length : Int) := by omega
   have hzj0 : (0 : Int) ≤ (j : Int) := by omega
   have HJ8 : Aside0 (j ≤ 8) := ⟨by have := HLN.out.2; omega⟩
   obtain ⟨ad7, A7, c7, e0, hy0, hy1, hy2, hy3, hl7, hC7⟩ := at_T46 HC4.out (j : Int) hzj0 hzj; cases e0; replace hy0 := (HB6.out.cell (World.block_lt_of_cell? w _ hy0)).trans hy0; replace hy1 := (HB6.out.cell (World.block_lt_of_cell? w _ hy1)).trans hy1; replace hy2 := (HB6.out.cell (World.block_lt_of_cell? w _ hy2)).trans hy2; replace hy3 := (HB6.out.cell (World.block_lt_of_cell? w _ hy3)).trans hy3; simp only [Int.toNat_natCast] at hy0 hy1 hy2 hy3; have hac := ck_acts_cons n q.f2.length q.f4 j hltj m HM.out; clear hl7 hC7 HM; generalize rd_T46 q.f4 (j : Int) = a at *; by_cases k2 : a.f0 = 2
   ·have p2 : (a.f0 == 2) = true := by simpa using k2
    have K2 := a_ k2; clear k2; by_cases b1 : a.f1 < 1
    ·have p4 : decide (a.f1 < 1) = true := decide_eq_true b1
     rw [if_pos ⟨(Or.inl K2.out), Or.inl b1⟩] at hac; subst hac; have h2 := HST.out; rw [if_neg (by omega)] at h2; cases h2; have hb2 := (blk_cell (blk_alloc BX6.out (.cells #[.int .i64 a.f0, .int .i64 a.f1, .string a.f2, .slice A7 a.f3.length c7] 46)) 2).trans rfl; have hr0 := (blk_cell (blk_alloc BR6.out (.cells #[.int .i64 a.f0, .int .i64 a.f1, .string a.f2, .slice A7 a.f3.length c7] 46)) 0).trans rfl; have hr1 := (blk_cell (blk_alloc BR6.out (.cells #[.int .i64 a.f0, .int .i64 a.f1, .string a.f2, .slice A7 a.f3.length c7] 46)) 1).trans rfl; have hr2 := (blk_cell (blk_alloc BR6.out (.cells #[.int .i64 a.f0, .int .i64 a.f1, .string a.f2, .slice A7 a.f3.length c7] 46)) 2).trans rfl; have hf0 := blk_frozen (blk_alloc BR6.out (.cells #[.int .i64 a.f0, .int .i64 a.f1, .string a.f2, .slice A7 a.f3.length c7] 46)) 0; have hf1 := blk_frozen (blk_alloc BR6.out (.cells #[.int .i64 a.f0, .int .i64 a.f1, .string a.f2, .slice A7 a.f3.length c7] 46)) 1; have hf2 := blk_frozen (blk_alloc BR6.out (.cells #[.int .i64 a.f0, .int .i64 a.f1, .string a.f2, .slice A7 a.f3.length c7] 46)) 2; simp only [List.getElem?_toArray, List.getElem?_cons_zero, List.getElem?_cons_succ] at hb2 hr0 hr1 hr2; have HW1 : Aside0 (wrap64 ((q.f2.length : Int) + (j : Int)) = (q.f2.length : Int) + (j : Int) ∧ wrap64 ((q.f2.length : Int) + (j : Int) + 1) = (q.f2.length : Int) + (j : Int) + 1) := ⟨by unfold wrap64; have := HLN.out.1; have := HJ8.out; omega⟩
     go_wp2; rw [HW1.out.1, HW1.out.2]; refine bodyPost_ret (results_cell_row rfl _ _ w.heap.size 25 _ (0, 0) _ rfl (ck_res (blk_alloc BR6.out (.cells #[.int .i64 a.f0, .int .i64 a.f1, .string a.f2, .slice A7 a.f3.length c7] 46))) Try.underlying25 rfl (by kernel_rfl)) rfl ⟨rfl, ck_below (below_alloc HB6.out (.cells #[.int .i64 a.f0, .int .i64 a.f1, .string a.f2, .slice A7 a.f3.length c7] 46)) (Nat.le_refl _)⟩
    have p4 : decide (a.f1 < 1) = false := decide_eq_false b1
    by_cases b2 : n < a.f1
    ·have p5 : decide (n < a.f1) = true := decide_eq_true b2
     rw [if_pos ⟨(Or.inl K2.out), Or.inr b2⟩] at hac; subst hac; have h2 := HST.out; rw [if_neg (by omega)] at h2; cases h2; have hb2 := (blk_cell (blk_alloc BX6.out (.cells #[.int .i64 a.f0, .int .i64 a.f1, .string a.f2, .slice A7 a.f3.length c7] 46)) 2).trans rfl; have hr0 := (blk_cell (blk_alloc BR6.out (.cells #[.int .i64 a.f0, .int .i64 a.f1, .string a.f2, .slice A7 a.f3.length c7] 46)) 0).trans rfl; have hr1 := (blk_cell (blk_alloc BR6.out (.cells #[.int .i64 a.f0, .int .i64 a.f1, .string a.f2, .slice A7 a.f3.length c7] 46)) 1).trans rfl; have hr2 := (blk_cell (blk_alloc BR6.out (.cells #[.int .i64 a.f0, .int .i64 a.f1, .string a.f2, .slice A7 a.f3.length c7] 46)) 2).trans rfl; have hf0 := blk_frozen (blk_alloc BR6.out (.cells #[.int .i64 a.f0, .int .i64 a.f1, .string a.f2, .slice A7 a.f3.length c7] 46)) 0; have hf1 := blk_frozen (blk_alloc BR6.out (.cells #[.int .i64 a.f0, .int .i64 a.f1, .string a.f2, .slice A7 a.f3.length c7] 46)) 1; have hf2 := blk_frozen (blk_alloc BR6.out (.cells #[.int .i64 a.f0, .int .i64 a.f1, .string a.f2, .slice A7 a.f3.length c7] 46)) 2; simp only [List.getElem?_toArray, List.getElem?_cons_zero, List.getElem?_cons_succ] at hb2 hr0 hr1 hr2; have HW1 : Aside0 (wrap64 ((q.f2.length : Int) + (j : Int)) = (q.f2.length : Int) + (j : Int) ∧ wrap64 ((q.f2.length : Int) + (j : Int) + 1) = (q.f2.length : Int) + (j : Int) + 1) := ⟨by unfold wrap64; have := HLN.out.1; have := HJ8.out; omega⟩
     go_wp2; rw [HW1.out.1, HW1.out.2]; refine bodyPost_ret (results_cell_row rfl _ _ w.heap.size 25 _ (0, 0) _ rfl (ck_res (blk_alloc BR6.out (.cells #[.int .i64 a.f0, .int .i64 a.f1, .string a.f2, .slice A7 a.f3.length c7] 46))) Try.underlying25 rfl (by kernel_rfl)) rfl ⟨rfl, ck_below (below_alloc HB6.out (.cells #[.int .i64 a.f0, .int .i64 a.f1, .string a.f2, .slice A7 a.f3.length c7] 46)) (Nat.le_refl _)⟩
    have p5 : decide (n < a.f1) = false := decide_eq_false b2
    rw [if_neg (by intro z; rcases z.2 with z | z; exact b1 z; exact b2 z)] at hac; have HM2 := a_ hac; clear hac b1 b2; go_wp2; go_roundg (q.f4.length - (j + 1))
    case measure => omega
    case rel => exact ⟨j + 1, by omega, by omega, by rw [show wrap64 ((j : Int) + 1) = ((j + 1 : Nat) : Int) by unfold wrap64; have := HJ8.out; omega], HM2, ⟨below_alloc HB6.out _⟩, ⟨blk_alloc BR6.out _⟩, ⟨blk_alloc BX6.out _⟩, ⟨SetS.alloc SN6.out _⟩⟩
   ·have p2 : (a.f0 == 2) = false := by simpa using k2
    by_cases k3 : a.f0 = 3
    ·have p3 : (a.f0 == 3) = true := by simpa using k3
     have K3 := a_ k3; clear k3 k2; by_cases b1 : a.f1 < 1
     ·have p4 : decide (a.f1 < 1) = true := decide_eq_true b1
      rw [if_pos ⟨(Or.inr K3.out), Or.inl b1⟩] at hac; subst hac; have h2 := HST.out; rw [if_neg (by omega)] at h2; cases h2; have hb2 := (blk_cell (blk_alloc BX6.out (.cells #[.int .i64 a.f0, .int .i64 a.f1, .string a.f2, .slice A7 a.f3.length c7] 46)) 2).trans rfl; have hr0 := (blk_cell (blk_alloc BR6.out (.cells #[.int .i64 a.f0, .int .i64 a.f1, .string a.f2, .slice A7 a.f3.length c7] 46)) 0).trans rfl; have hr1 := (blk_cell (blk_alloc BR6.out (.cells #[.int .i64 a.f0, .int .i64 a.f1, .string a.f2, .slice A7 a.f3.length c7] 46)) 1).trans rfl; have hr2 := (blk_cell (blk_alloc BR6.out (.cells #[.int .i64 a.f0, .int .i64 a.f1, .string a.f2, .slice A7 a.f3.length c7] 46)) 2).trans rfl; have hf0 := blk_frozen (blk_alloc BR6.out (.cells #[.int .i64 a.f0, .int .i64 a.f1, .string a.f2, .slice A7 a.f3.length c7] 46)) 0; have hf1 := blk_frozen (blk_alloc BR6.out (.cells #[.int .i64 a.f0, .int .i64 a.f1, .string a.f2, .slice A7 a.f3.length c7] 46)) 1; have hf2 := blk_frozen (blk_alloc BR6.out (.cells #[.int .i64 a.f0, .int .i64 a.f1, .string a.f2, .slice A7 a.f3.length c7] 46)) 2; simp only [List.getElem?_toArray, List.getElem?_cons_zero, List.getElem?_cons_succ] at hb2 hr0 hr1 hr2; have HW1 : Aside0 (wrap64 ((q.f2.length : Int) + (j : Int)) = (q.f2.length : Int) + (j : Int) ∧ wrap64 ((q.f2.length : Int) + (j : Int) + 1) = (q.f2.length : Int) + (j : Int) + 1) := ⟨by unfold wrap64; have := HLN.out.1; have := HJ8.out; omega⟩
      go_wp2; rw [HW1.out.1, HW1.out.2]; refine bodyPost_ret (results_cell_row rfl _ _ w.heap.size 25 _ (0, 0) _ rfl (ck_res (blk_alloc BR6.out (.cells #[.int .i64 a.f0, .int .i64 a.f1, .string a.f2, .slice A7 a.f3.length c7] 46))) Try.underlying25 rfl (by kernel_rfl)) rfl ⟨rfl, ck_below (below_alloc HB6.out (.cells #[.int .i64 a.f0, .int .i64 a.f1, .string a.f2, .slice A7 a.f3.length c7] 46)) (Nat.le_refl _)⟩
     have p4 : decide (a.f1 < 1) = false := decide_eq_false b1
     by_cases b2 : n < a.f1
     ·have p5 : decide (n < a.f1) = true := decide_eq_true b2
      rw [if_pos ⟨(Or.inr K3.out), Or.inr b2⟩] at hac; subst hac; have h2 := HST.out; rw [if_neg (by omega)] at h2; cases h2; have hb2 := (blk_cell (blk_alloc BX6.out (.cells #[.int .i64 a.f0, .int .i64 a.f1, .string a.f2, .slice A7 a.f3.length c7] 46)) 2).trans rfl; have hr0 := (blk_cell (blk_alloc BR6.out (.cells #[.int .i64 a.f0, .int .i64 a.f1, .string a.f2, .slice A7 a.f3.length c7] 46)) 0).trans rfl; have hr1 := (blk_cell (blk_alloc BR6.out (.cells #[.int .i64 a.f0, .int .i64 a.f1, .string a.f2, .slice A7 a.f3.length c7] 46)) 1).trans rfl; have hr2 := (blk_cell (blk_alloc BR6.out (.cells #[.int .i64 a.f0, .int .i64 a.f1, .string a.f2, .slice A7 a.f3.length c7] 46)) 2).trans rfl; have hf0 := blk_frozen (blk_alloc BR6.out (.cells #[.int .i64 a.f0, .int .i64 a.f1, .string a.f2, .slice A7 a.f3.length c7] 46)) 0; have hf1 := blk_frozen (blk_alloc BR6.out (.cells #[.int .i64 a.f0, .int .i64 a.f1, .string a.f2, .slice A7 a.f3.length c7] 46)) 1; have hf2 := blk_frozen (blk_alloc BR6.out (.cells #[.int .i64 a.f0, .int .i64 a.f1, .string a.f2, .slice A7 a.f3.length c7] 46)) 2; simp only [List.getElem?_toArray, List.getElem?_cons_zero, List.getElem?_cons_succ] at hb2 hr0 hr1 hr2; have HW1 : Aside0 (wrap64 ((q.f2.length : Int) + (j : Int)) = (q.f2.length : Int) + (j : Int) ∧ wrap64 ((q.f2.length : Int) + (j : Int) + 1) = (q.f2.length : Int) + (j : Int) + 1) := ⟨by unfold wrap64; have := HLN.out.1; have := HJ8.out; omega⟩
      go_wp2; rw [HW1.out.1, HW1.out.2]; refine bodyPost_ret (results_cell_row rfl _ _ w.heap.size 25 _ (0, 0) _ rfl (ck_res (blk_alloc BR6.out (.cells #[.int .i64 a.f0, .int .i64 a.f1, .string a.f2, .slice A7 a.f3.length c7] 46))) Try.underlying25 rfl (by kernel_rfl)) rfl ⟨rfl, ck_below (below_alloc HB6.out (.cells #[.int .i64 a.f0, .int .i64 a.f1, .string a.f2, .slice A7 a.f3.length c7] 46)) (Nat.le_refl _)⟩
     have p5 : decide (n < a.f1) = false := decide_eq_false b2
     rw [if_neg (by intro z; rcases z.2 with z | z; exact b1 z; exact b2 z)] at hac; have HM2 := a_ hac; clear hac b1 b2; go_wp2; go_roundg (q.f4.length - (j + 1))
     case measure => omega
     case rel => exact ⟨j + 1, by omega, by omega, by rw [show wrap64 ((j : Int) + 1) = ((j + 1 : Nat) : Int) by unfold wrap64; have := HJ8.out; omega], HM2, ⟨below_alloc HB6.out _⟩, ⟨blk_alloc BR6.out _⟩, ⟨blk_alloc BX6.out _⟩, ⟨SetS.alloc SN6.out _⟩⟩
    ·have p3 : (a.f0 == 3) = false := by simpa using k3
     rw [if_neg (by intro z; rcases z.1 with z | z; exact k2 z; exact k3 z)] at hac; have HM2 := a_ hac; clear hac k2 k3; go_wp2; go_roundg (q.f4.length - (j + 1))
     case measure => omega
     case rel => exact ⟨j + 1, by omega, by omega, by rw [show wrap64 ((j : Int) + 1) = ((j + 1 : Nat) : Int) by unfold wrap64; have := HJ8.out; omega], HM2, ⟨below_alloc HB6.out _⟩, ⟨blk_alloc BR6.out _⟩, ⟨blk_alloc BX6.out _⟩, ⟨SetS.alloc SN6.out _⟩⟩
  ·have hjl : j = q.f4.length := by omega
   have e0 := HM.out; rw [hjl, List.drop_length] at e0; unfold ck_acts at e0
   have h2 := HST.out; rw [← e0, if_pos rfl] at h2; have HY2 := a_ h2; clear e0 h2 hjl; go_wp2; go_roundg (l0.length - (i + 1))
   case measure => omega
   case rel => exact ⟨i + 1, nN + 1, q.f0 :: M, by omega, by omega, by rw [show wrap64 ((i : Int) + 1) = ((i + 1 : Nat) : Int) by unfold wrap64; have := HI.out; omega], ⟨by have := HN.out; omega⟩, HY2, HB6, BR6, SN6⟩
 ·have hil : i = l0.length := by omega
  subst hil; have e0 := HY.out; rw [List.drop_length] at e0; unfold ck_rules at e0
  cases e0; clear HY; have hr0 := (blk_cell BR.out 0).trans rfl; have hr1 := (blk_cell BR.out 1).trans rfl; have hr2 := (blk_cell BR.out 2).trans rfl; have hf0 := blk_frozen BR.out 0; have hf1 := blk_frozen BR.out 1; have hf2 := blk_frozen BR.out 2; simp only [List.getElem?_toArray, List.getElem?_cons_zero, List.getElem?_cons_succ] at hr0 hr1 hr2; go_wp2; refine bodyPost_ret (results_cell_row rfl _ _ w.heap.size 25 _ (0, 0) _ rfl (ck_res BR.out) Try.underlying25 rfl (by kernel_rfl)) rfl ⟨rfl, ck_below HB.out (Nat.le_refl _)⟩
end Go.Proofs.Ytejjlkbbnhpbdaa.P
namespace Go.Proofs.Ytejjlkbbnhpbdaa.P
open Go.Proofs.YtejjlkbbnhpbdaaX
open Go.RowKit Go.Proofs.YtejjlkbbnhpbdaaW.PrintWords Go.Proofs.YtejjlkbbnhpbdaaW.PrintLast Go.Proofs.YtejjlkbbnhpbdaaW.PrintMore
attribute [local go_sem] max2_int min2_int max_two min_two max_three min_three max_four min_four
set_option linter.unusedVariables false
set_option linter.unusedSimpArgs false
def laws_eqCheck.f (a0_0 : Int) (a0_1 : Int) (a0_2 : Int) (a1_0 : Int) (a1_1 : Int) (a1_2 : Int) : Option (Bool) := if a0_0 = a1_0 then (if a0_1 = a1_1 then (if a0_2 = a1_2 then (some true) else (some false)) else (some false)) else (some false)
set_option maxHeartbeats 8000000 in
set_option maxRecDepth 100000 in
theorem laws_eqCheck.calls (a0_0 : Int) (a0_1 : Int) (a0_2 : Int) (a1_0 : Int) (a1_1 : Int) (a1_2 : Int) (r : Bool) (w : World) (h : laws_eqCheck.f a0_0 a0_1 a0_2 a1_0 a1_1 a1_2 = some r) (hT_ : r = true := by first | rfl | assumption) :
  Calls Try.prog 8 #[.agg #[.int .i64 a0_0, .int .i64 a0_1, .int .i64 a0_2], .agg #[.int .i64 a1_0, .int .i64 a1_1, .int .i64 a1_2]] w fun e w' => e = .returned (.bool r) ∧ Below w.heap.size w w' := by
 subst hT_; have hu25 := Try.underlying25; have HB := a_ (Below.refl w.heap.size w); have H : (if a0_0 = a1_0 then (if a0_1 = a1_1 then (if a0_2 = a1_2 then (some true) else (some false)) else (some false)) else (some false)) = some true := h
 clear h; by_cases c3 : a0_0 = a1_0
 ·rw [if_pos c3] at H; have c3b0 := beq_iff_eq.mpr c3; have c3b1 := bne_eq_false_iff_eq.mpr c3; clear c3; by_cases c4 : a0_1 = a1_1
  ·rw [if_pos c4] at H; have c4b0 := beq_iff_eq.mpr c4; have c4b1 := bne_eq_false_iff_eq.mpr c4; clear c4; by_cases c5 : a0_2 = a1_2
   ·rw [if_pos c5] at H; have c5b0 := beq_iff_eq.mpr c5; have c5b1 := bne_eq_false_iff_eq.mpr c5; clear c5; clear H; go_enter Try.func8, Try.ntmps8; go_wp2_with (first | ((with_reducible refine gate_dst (N := 2) rfl ?_); refine bx_ 2 #[.int .i64 a0_0, .int .i64 a0_1, .int .i64 a0_2] 25 ?_; intro gb318 hg w6 hbox hb; have BK318 := a_ (hbox); have GE318 := mg_ HB hg; replace HB := ms_ HB hb; clear hb hbox hg) | ((with_reducible refine gate_dst (N := 3) rfl ?_); refine bx_ 3 #[.int .i64 a1_0, .int .i64 a1_1, .int .i64 a1_2] 25 ?_; intro gb319 hg w7 hbox hb; have BK319 := a_ (hbox); have GE319 := mg_ HB hg; have NB318_319 := ml_ BK318 hg; have NB319_318 := mr_ BK318 hg; replace BK318 := mk_ BK318 hb; replace HB := ms_ HB hb; clear hb hbox hg; have hnb8 := NB318_319.out; have hnc8 := NB319_318.out; obtain ⟨z9_0, z9_1, z9_2, zf9_0, zf9_1, zf9_2⟩ := cz3 BK318; obtain ⟨z10_0, z10_1, z10_2, zf10_0, zf10_1, zf10_2⟩ := cz3 BK319)); go_ret; exact ⟨me_, mb_ HB⟩
   ·rw [if_neg c5] at H; have c5b0 := beq_eq_false_iff_ne.mpr c5; have c5b1 := bne_iff_ne.mpr c5; exact absurd (Option.some.inj H) (by decide)
  ·rw [if_neg c4] at H; have c4b0 := beq_eq_false_iff_ne.mpr c4; have c4b1 := bne_iff_ne.mpr c4; exact absurd (Option.some.inj H) (by decide)
 ·rw [if_neg c3] at H; have c3b0 := beq_eq_false_iff_ne.mpr c3; have c3b1 := bne_iff_ne.mpr c3; exact absurd (Option.some.inj H) (by decide)
def laws_eqValue.f (a0_0 : Int) (a0_1 : Int) (a0_2 : ByteArray) (a1_0 : Int) (a1_1 : Int) (a1_2 : ByteArray) : Option (Bool) := if a0_0 = a1_0 then (if a0_1 = a1_1 then (if a0_2.toList = a1_2.toList then (some true) else (some false)) else (some false)) else (some false)
set_option maxHeartbeats 8000000 in
set_option maxRecDepth 100000 in
theorem laws_eqValue.calls (a0_0 : Int) (a0_1 : Int) (a0_2 : ByteArray) (a1_0 : Int) (a1_1 : Int) (a1_2 : ByteArray) (r : Bool) (w : World) (h : laws_eqValue.f a0_0 a0_1 a0_2 a1_0 a1_1 a1_2 = some r) (hT_ : r = true := by first | rfl | assumption) :
  Calls Try.prog 69 #[.agg #[.int .i64 a0_0, .int .i64 a0_1, .string a0_2], .agg #[.int .i64 a1_0, .int .i64 a1_1, .string a1_2]] w fun e w' => e = .returned (.bool r) ∧ Below w.heap.size w w' := by
 subst hT_; have hu66 := Try.underlying66; have HB := a_ (Below.refl w.heap.size w); have H : (if a0_0 = a1_0 then (if a0_1 = a1_1 then (if a0_2.toList = a1_2.toList then (some true) else (some false)) else (some false)) else (some false)) = some true := h
 clear h; by_cases c3 : a0_0 = a1_0
 ·rw [if_pos c3] at H; have c3b0 := beq_iff_eq.mpr c3; have c3b1 := bne_eq_false_iff_eq.mpr c3; clear c3; by_cases c4 : a0_1 = a1_1
  ·rw [if_pos c4] at H; have c4b0 := beq_iff_eq.mpr c4; have c4b1 := bne_eq_false_iff_eq.mpr c4; clear c4; by_cases c5 : a0_2.toList = a1_2.toList
   ·rw [if_pos c5] at H; have c5b0 := beq_iff_eq.mpr c5; have c5b1 := bne_eq_false_iff_eq.mpr c5; clear c5; clear H; go_enter Try.func69, Try.ntmps69; go_wp2_with (first | ((with_reducible refine gate_dst (N := 2) rfl ?_); refine bx_ 2 #[.int .i64 a0_0, .int .i64 a0_1, .string a0_2] 66 ?_; intro gb320 hg w6 hbox hb; have BK320 := a_ (hbox); have GE320 := mg_ HB hg; replace HB := ms_ HB hb; clear hb hbox hg) | ((with_reducible refine gate_dst (N := 3) rfl ?_); refine bx_ 3 #[.int .i64 a1_0, .int .i64 a1_1, .string a1_2] 66 ?_; intro gb321 hg w7 hbox hb; have BK321 := a_ (hbox); have GE321 := mg_ HB hg; have NB320_321 := ml_ BK320 hg; have NB321_320 := mr_ BK320 hg; replace BK320 := mk_ BK320 hb; replace HB := ms_ HB hb; clear hb hbox hg; have hnb8 := NB320_321.out; have hnc8 := NB321_320.out; obtain ⟨z9_0, z9_1, z9_2, zf9_0, zf9_1, zf9_2⟩ := cz3 BK320; obtain ⟨z10_0, z10_1, z10_2, zf10_0, zf10_1, zf10_2⟩ := cz3 BK321)); go_ret; exact ⟨me_, mb_ HB⟩
   ·rw [if_neg c5] at H; have c5b0 := beq_eq_false_iff_ne.mpr c5; have c5b1 := bne_iff_ne.mpr c5; exact absurd (Option.some.inj H) (by decide)
  ·rw [if_neg c4] at H; have c4b0 := beq_eq_false_iff_ne.mpr c4; have c4b1 := bne_iff_ne.mpr c4; exact absurd (Option.some.inj H) (by decide)
 ·rw [if_neg c3] at H; have c3b0 := beq_eq_false_iff_ne.mpr c3; have c3b1 := bne_iff_ne.mpr c3; exact absurd (Option.some.inj H) (by decide)
def laws_eqTerm.f (a0_0 : Int) (a0_1 : Int) (a0_2 : ByteArray) (a0_3 : Int) (a0_4 : Int) (a0_5 : ByteArray) (a1_0 : Int) (a1_1 : Int) (a1_2 : ByteArray) (a1_3 : Int) (a1_4 : Int) (a1_5 : ByteArray) : Option (Bool) := if a0_0 = a1_0 then (if a0_1 = a1_1 then (if a0_2.toList = a1_2.toList then ((laws_eqValue.f a0_3 a0_4 a0_5 a1_3 a1_4 a1_5).bind fun t324 => (if t324 = true then (some true) else (some false))) else (some false)) else (some false)) else (some false)
set_option maxHeartbeats 8000000 in
set_option maxRecDepth 100000 in
theorem laws_eqTerm.calls (a0_0 : Int) (a0_1 : Int) (a0_2 : ByteArray) (a0_3 : Int) (a0_4 : Int) (a0_5 : ByteArray) (a1_0 : Int) (a1_1 : Int) (a1_2 : ByteArray) (a1_3 : Int) (a1_4 : Int) (a1_5 : ByteArray) (r : Bool) (w : World) (h : laws_eqTerm.f a0_0 a0_1 a0_2 a0_3 a0_4 a0_5 a1_0 a1_1 a1_2 a1_3 a1_4 a1_5 = some r) (hT_ : r = true := by first | rfl | assumption) :
  Calls Try.prog 74 #[.agg #[.int .i64 a0_0, .int .i64 a0_1, .string a0_2, .int .i64 a0_3, .int .i64 a0_4, .string a0_5], .agg #[.int .i64 a1_0, .int .i64 a1_1, .string a1_2, .int .i64 a1_3, .int .i64 a1_4, .string a1_5]] w fun e w' => e = .returned (.bool r) ∧ Below w.heap.size w w' := by
 subst hT_; have hu68 := Try.underlying68; have hu66 := Try.underlying66; have HB := a_ (Below.refl w.heap.size w); have H : (if a0_0 = a1_0 then (if a0_1 = a1_1 then (if a0_2.toList = a1_2.toList then ((laws_eqValue.f a0_3 a0_4 a0_5 a1_3 a1_4 a1_5).bind fun t324 => (if t324 = true then (some true) else (some false))) else (some false)) else (some false)) else (some false)) = some true := h
 clear h; by_cases c3 : a0_0 = a1_0
 ·rw [if_pos c3] at H; have c3b0 := beq_iff_eq.mpr c3; have c3b1 := bne_eq_false_iff_eq.mpr c3; clear c3; by_cases c4 : a0_1 = a1_1
  ·rw [if_pos c4] at H; have c4b0 := beq_iff_eq.mpr c4; have c4b1 := bne_eq_false_iff_eq.mpr c4; clear c4; by_cases c5 : a0_2.toList = a1_2.toList
   ·rw [if_pos c5] at H; have c5b0 := beq_iff_eq.mpr c5; have c5b1 := bne_eq_false_iff_eq.mpr c5; clear c5; replace H := Option.bind_eq_some_iff.mp H; obtain ⟨t324, A60, H⟩ := H; have A6 := a_ A60; clear A60; by_cases c7 : t324 = true
    ·subst c7; rw [if_pos rfl] at H; clear H; go_enter Try.func74, Try.ntmps74; go_wp2_with (first | ((with_reducible refine gate_dst (N := 2) rfl ?_); refine bx_ 2 #[.int .i64 a0_0, .int .i64 a0_1, .string a0_2, .int .i64 a0_3, .int .i64 a0_4, .string a0_5] 68 ?_; intro gb322 hg w8 hbox hb; have BK322 := a_ (hbox); have GE322 := mg_ HB hg; replace HB := ms_ HB hb; clear hb hbox hg) | ((with_reducible refine gate_dst (N := 3) rfl ?_); refine bx_ 3 #[.int .i64 a1_0, .int .i64 a1_1, .string a1_2, .int .i64 a1_3, .int .i64 a1_4, .string a1_5] 68 ?_; intro gb323 hg w9 hbox hb; have BK323 := a_ (hbox); have GE323 := mg_ HB hg; have NB322_323 := ml_ BK322 hg; have NB323_322 := mr_ BK322 hg; replace BK322 := mk_ BK322 hb; replace HB := ms_ HB hb; clear hb hbox hg; have hnb10 := NB322_323.out; have hnc10 := NB323_322.out; obtain ⟨z11_0, z11_1, z11_2, z11_3, z11_4, z11_5, zf11_0, zf11_1, zf11_2, zf11_3, zf11_4, zf11_5⟩ := cz6 BK322; obtain ⟨z12_0, z12_1, z12_2, z12_3, z12_4, z12_5, zf12_0, zf12_1, zf12_2, zf12_3, zf12_4, zf12_5⟩ := cz6 BK323) | ((with_reducible refine gate_callee (f := 69) rfl ?_); refine goesL_ (some 24) rfl rfl Try.func69 (by kernel_rfl) rfl #[.agg #[.int .i64 a0_3, .int .i64 a0_4, .string a0_5], .agg #[.int .i64 a1_3, .int .i64 a1_4, .string a1_5]] rfl mw_ ?_; (with_reducible refine (laws_eqValue.calls a0_3 a0_4 a0_5 a1_3 a1_4 a1_5 true _ A6.out).mono ?_); rintro e w13 ⟨rfl, hb⟩; refine ⟨_, rfl, ?_⟩; replace BK322 := mk_ BK322 hb; replace BK323 := mk_ BK323 hb; replace HB := ms_ HB hb; (try clear hb); (try clear hb2); (try clear hk); (try clear hi))); go_ret; exact ⟨me_, mb_ HB⟩
    ·replace c7 := Bool.eq_false_iff.mpr c7; subst c7; rw [if_neg (show ¬ (false = true) by decide)] at H; exact absurd (Option.some.inj H) (by decide)
   ·rw [if_neg c5] at H; have c5b0 := beq_eq_false_iff_ne.mpr c5; have c5b1 := bne_iff_ne.mpr c5; exact absurd (Option.some.inj H) (by decide)
  ·rw [if_neg c4] at H; have c4b0 := beq_eq_false_iff_ne.mpr c4; have c4b1 := bne_iff_ne.mpr c4; exact absurd (Option.some.inj H) (by decide)
 ·rw [if_neg c3] at H; have c3b0 := beq_eq_false_iff_ne.mpr c3; have c3b1 := bne_iff_ne.mpr c3; exact absurd (Option.some.inj H) (by decide)
def laws_eqTermS.l0 : Nat → List (S68) → List (S68) → Int → Option (Bool)
 | 0, _, _, _ => none
 | k + 1, x0, x1, x5 => if x5 < (x0.length : Int) then (if 0 ≤ x5 then (if x5 < (x1.length : Int) then ((laws_eqTerm.f ((rd_T68 x0 x5).f0) ((rd_T68 x0 x5).f1) ((rd_T68 x0 x5).f2) ((rd_T68 x0 x5).f3.f0) ((rd_T68 x0 x5).f3.f1) ((rd_T68 x0 x5).f3.f2) ((rd_T68 x1 x5).f0) ((rd_T68 x1 x5).f1) ((rd_T68 x1 x5).f2) ((rd_T68 x1 x5).f3.f0) ((rd_T68 x1 x5).f3.f1) ((rd_T68 x1 x5).f3.f2)).bind fun t327 => (if t327 = true then (laws_eqTermS.l0 k x0 x1 (wrap64 (x5 + 1))) else (some false))) else (none)) else (none)) else (some true)
def laws_eqTermS.f (k : Nat) (l0 : List (S68)) (l1 : List (S68)) : Option (Bool) := if (l0.length : Int) = (l1.length : Int) then (laws_eqTermS.l0 k l0 l1 0) else (some false)
theorem laws_eqTermS.mono_l : ∀ k, (∀ y0 y1 y2, LeO (laws_eqTermS.l0 k y0 y1 y2) (laws_eqTermS.l0 (k + 1) y0 y1 y2))
 | 0 => fun _ _ _ r h => by simp [laws_eqTermS.l0] at h
 | k + 1 => by
  have ih0 := laws_eqTermS.mono_l k
  ·intro y0 y1 y2; unfold laws_eqTermS.l0
   repeat' with_reducible first | apply ih0 | apply LeO.refl | apply LeO.none | refine LeO.ite ?_ ?_ | refine LeO.bind ?_ (fun _ => ?_)
theorem laws_eqTermS.mono : ∀ a0 a1 k, LeO (laws_eqTermS.f k a0 a1) (laws_eqTermS.f (k + 1) a0 a1) := by
 intro a0 a1 k; have ih0 := laws_eqTermS.mono_l k; unfold laws_eqTermS.f
 repeat' with_reducible first | apply ih0 | apply LeO.refl | apply LeO.none | refine LeO.ite ?_ ?_ | refine LeO.bind ?_ (fun _ => ?_)
def laws_eqTermS.T6 : Bool × List (List Nat × List Nat) := (true, [([], []), ([], []), ([0, 1], [0, 1]), ([2], [2]), ([], []), ([], []), ([4, 5], [4, 5]), ([6], [6]), ([3, 7], [3, 7]), ([8], [8])])
def laws_eqTermS.B6 : List Nat := [0, 0, 3, 7, 0, 0, 48, 112, 255, 511]
theorem laws_eqTermS.tab6 : rtab .any (opsOf Try.f68 6) = laws_eqTermS.T6 := by kernel_rfl
theorem laws_eqTermS.bits6 : waitsOk laws_eqTermS.T6.2 laws_eqTermS.B6 = true := by kernel_rfl
abbrev b198_0 : Array Bool := #[false, false, false, false, false, false, false, false, false, false]
abbrev b198_1 : Array Bool := #[true, false, false, false, false, false, false, false, false, false]
abbrev b198_2 : Array Bool := #[true, true, false, false, false, false, false, false, false, false]
abbrev b198_3 : Array Bool := #[true, true, true, false, false, false, false, false, false, false]
abbrev b198_4 : Array Bool := #[true, true, true, false, true, false, false, false, false, false]
abbrev b198_5 : Array Bool := #[true, true, true, false, true, true, false, false, false, false]
abbrev b198_6 : Array Bool := #[true, true, true, false, true, true, true, false, false, false]
abbrev b198_7 : Array Bool := #[true, true, true, true, true, true, true, false, false, false]
abbrev b198_8 : Array Bool := #[true, true, true, true, true, true, true, true, false, false]
abbrev b198_9 : Array Bool := #[true, true, true, true, true, true, true, true, true, false]
abbrev b198_10 : Array Bool := #[true, true, true, true, true, true, true, true, true, true]
set_option maxHeartbeats 8000000 in
set_option maxRecDepth 100000 in
theorem laws_eqTermS.calls (k : Nat) (A0 : Option Addr) (c0 : Nat) (l0 : List (S68)) (A1 : Option Addr) (c1 : Nat) (l1 : List (S68)) (r : Bool) (w : World) (hr0 : Kd.C k68 w A0 l0.length l0) (hc0 : l0.length ≤ c0) (hr1 : Kd.C k68 w A1 l1.length l1) (hc1 : l1.length ≤ c1) (h : laws_eqTermS.f k l0 l1 = some r) (hT_ : r = true := by first | rfl | assumption) :
  Calls Try.prog 68 #[.slice A0 l0.length c0, .slice A1 l1.length c1] w fun e w' => e = .returned (.bool r) ∧ Below w.heap.size w w' := by
 subst hT_; have hu68 := Try.underlying68; have HR0 := a_ hr0; have HC0 := a_ hc0; clear hr0 hc0; have HR1 := a_ hr1; have HC1 := a_ hc1; clear hr1 hc1; have HB := a_ (Below.refl w.heap.size w); have H : (if (l0.length : Int) = (l1.length : Int) then (laws_eqTermS.l0 k l0 l1 0) else (some false)) = some true := h
 clear h; by_cases c3 : (l0.length : Int) = (l1.length : Int)
 ·rw [if_pos c3] at H; have c3b0 := beq_iff_eq.mpr c3; have c3b1 := bne_eq_false_iff_eq.mpr c3; have c3b2 : (l0.length == l1.length) = true := by first | simpa using c3 | (simp at c3 ⊢; omega)
  clear c3; have H' := a_ H; clear H; go_enter Try.func68, Try.ntmps68; go_wp2; go_loopg [5] k (fun kq v5 w' => ∃ (x5_1 : Int), v5 = .int .i64 x5_1 ∧ Aside0 (laws_eqTermS.l0 kq l0 l1 x5_1 = some true) ∧ Aside0 (kq ≤ k) ∧ Aside0 (Below w.heap.size w w'))
  case atStart => exact ⟨(0), mq_, H', ⟨Nat.le_refl _⟩, ⟨mb_ HB⟩⟩
  clear H'; (try clear c3b0); (try clear c3b1); (try clear c3b2); obtain ⟨x5_1, rfl, HA, HK1, HB⟩ := hrel; obtain _ | k1 := gk
  ·exact absurd HA.out (by simp [laws_eqTermS.l0])
  have H := HA.out; clear HA; simp only [laws_eqTermS.l0] at H; by_cases c4 : x5_1 < (l0.length : Int)
  ·rw [if_pos c4] at H; have c4b0 := decide_eq_true c4; clear c4; by_cases c5 : 0 ≤ x5_1
   case neg => rw [if_neg c5] at H; cases H
   rw [if_pos c5] at H; have c5b0 := decide_eq_true c5; clear c5; by_cases c6 : x5_1 < (l1.length : Int)
   case neg => rw [if_neg c6] at H; cases H
   rw [if_pos c6] at H; have c6b0 := decide_eq_true c6; clear c6; replace H := Option.bind_eq_some_iff.mp H; obtain ⟨t327, A70, H⟩ := H; have A7 := a_ A70; clear A70; by_cases c8 : t327 = true
   ·subst c8; rw [if_pos rfl] at H; have H' := a_ H; clear H; try go_wp2
    replace HB := a_ (below_drew1 HB.out); have p325 : 0 ≤ (x5_1 : Int) := md_
    have q325 : x5_1 < (l0.length : Int) := md_
    obtain ⟨ad325, e325, hx325_0, hx325_1, hx325_2, hx325_3, hx325_4, hx325_5⟩ := at_T68 HR0.out x5_1 p325 q325; have hw325_5 := hx325_5; have hw325_4 := hx325_4; have hw325_3 := hx325_3; have hw325_2 := hx325_2; have hw325_1 := hx325_1; have hw325_0 := hx325_0; cases e325; replace hx325_0 := mx_ HB hx325_0; replace hx325_1 := mx_ HB hx325_1; replace hx325_2 := mx_ HB hx325_2; replace hx325_3 := mx_ HB hx325_3; replace hx325_4 := mx_ HB hx325_4; replace hx325_5 := mx_ HB hx325_5; replace p325 := eq_true p325; replace q325 := eq_true q325; have p326 : 0 ≤ (x5_1 : Int) := md_
    have q326 : x5_1 < (l1.length : Int) := md_
    obtain ⟨ad326, e326, hx326_0, hx326_1, hx326_2, hx326_3, hx326_4, hx326_5⟩ := at_T68 HR1.out x5_1 p326 q326; have hw326_5 := hx326_5; have hw326_4 := hx326_4; have hw326_3 := hx326_3; have hw326_2 := hx326_2; have hw326_1 := hx326_1; have hw326_0 := hx326_0; cases e326; replace hx326_0 := mx_ HB hx326_0; replace hx326_1 := mx_ HB hx326_1; replace hx326_2 := mx_ HB hx326_2; replace hx326_3 := mx_ HB hx326_3; replace hx326_4 := mx_ HB hx326_4; replace hx326_5 := mx_ HB hx326_5; replace p326 := eq_true p326; replace q326 := eq_true q326; refine start_ (n := 10) (S := fun w' => w'.cell? (ad325.add ((x5_1).toNat * 6)) = some (.int .i64 ((rd_T68 l0 x5_1).f0)) ∧ w'.cell? ⟨(ad325.add ((x5_1).toNat * 6)).block, (ad325.add ((x5_1).toNat * 6)).off + 1, none⟩ = some (.int .i64 ((rd_T68 l0 x5_1).f1)) ∧ w'.cell? ⟨(ad325.add ((x5_1).toNat * 6)).block, (ad325.add ((x5_1).toNat * 6)).off + 2, none⟩ = some (.string ((rd_T68 l0 x5_1).f2)) ∧ w'.cell? ⟨(ad325.add ((x5_1).toNat * 6)).block, (ad325.add ((x5_1).toNat * 6)).off + 3, none⟩ = some (.int .i64 ((rd_T68 l0 x5_1).f3.f0)) ∧ w'.cell? ⟨(ad325.add ((x5_1).toNat * 6)).block, (ad325.add ((x5_1).toNat * 6)).off + 4, none⟩ = some (.int .i64 ((rd_T68 l0 x5_1).f3.f1)) ∧ w'.cell? ⟨(ad325.add ((x5_1).toNat * 6)).block, (ad325.add ((x5_1).toNat * 6)).off + 5, none⟩ = some (.string ((rd_T68 l0 x5_1).f3.f2)) ∧ w'.cell? (ad326.add ((x5_1).toNat * 6)) = some (.int .i64 ((rd_T68 l1 x5_1).f0)) ∧ w'.cell? ⟨(ad326.add ((x5_1).toNat * 6)).block, (ad326.add ((x5_1).toNat * 6)).off + 1, none⟩ = some (.int .i64 ((rd_T68 l1 x5_1).f1)) ∧ w'.cell? ⟨(ad326.add ((x5_1).toNat * 6)).block, (ad326.add ((x5_1).toNat * 6)).off + 2, none⟩ = some (.string ((rd_T68 l1 x5_1).f2)) ∧ w'.cell? ⟨(ad326.add ((x5_1).toNat * 6)).block, (ad326.add ((x5_1).toNat * 6)).off + 3, none⟩ = some (.int .i64 ((rd_T68 l1 x5_1).f3.f0)) ∧ w'.cell? ⟨(ad326.add ((x5_1).toNat * 6)).block, (ad326.add ((x5_1).toNat * 6)).off + 4, none⟩ = some (.int .i64 ((rd_T68 l1 x5_1).f3.f1)) ∧ w'.cell? ⟨(ad326.add ((x5_1).toNat * 6)).block, (ad326.add ((x5_1).toNat * 6)).off + 5, none⟩ = some (.string ((rd_T68 l1 x5_1).f3.f2))) (ds := []) b198_0 (by kernel_rfl) rfl rfl ⟨(mx_ HB hw325_0), (mx_ HB hw325_1), (mx_ HB hw325_2), (mx_ HB hw325_3), (mx_ HB hw325_4), (mx_ HB hw325_5), (mx_ HB hw326_0), (mx_ HB hw326_1), (mx_ HB hw326_2), (mx_ HB hw326_3), (mx_ HB hw326_4), (mx_ HB hw326_5)⟩ (fun hHeld => ?_); refine with_tabW laws_eqTermS.tab6 laws_eqTermS.bits6 (fun HT_ HW_ => ?_); generalize wr.drew = w9 at HB hx325_0 hx325_1 hx325_2 hx325_3 hx325_4 hx325_5 hx326_0 hx326_1 hx326_2 hx326_3 hx326_4 hx326_5 hHeld ⊢; refine pu_ 0 17 b198_1 (any_of HT_.out (by kernel_rfl)) ?_; refine pu_ 1 18 b198_2 (any_of HT_.out (by kernel_rfl)) ?_; refine pu_ 2 19 b198_3 (any_of HT_.out (by kernel_rfl)) ?_
    refine pu_ 4 21 b198_4 (any_of HT_.out (by kernel_rfl)) ?_; refine pu_ 5 22 b198_5 (any_of HT_.out (by kernel_rfl)) ?_; refine pu_ 6 23 b198_6 (any_of HT_.out (by kernel_rfl)) ?_; refine take_ (i := 3) (N := some 20) (v := ?_) (a' := ?_) b198_7 rfl rfl (take_ofW HT_.out HW_.out (by kernel_rfl)) (fun _ _ _ h => h) (Or.inl ⟨by rfl, ?_⟩) hHeld ?_ ?_; rotate_left
    ·rintro w' ⟨s0, s1, s2, s3, s4, s5, s6, s7, s8, s9, s10, s11⟩; go_simp; with_reducible rfl
    rotate_left
    ·simp only [Act.put, ps_]; rfl
    refine take_ (i := 7) (N := some 24) (v := ?_) (a' := ?_) b198_8 rfl rfl (take_ofW HT_.out HW_.out (by kernel_rfl)) (fun _ _ _ h => h) (Or.inl ⟨by rfl, ?_⟩) hHeld ?_ ?_; rotate_left
    ·rintro w' ⟨s0, s1, s2, s3, s4, s5, s6, s7, s8, s9, s10, s11⟩; go_simp; with_reducible rfl
    rotate_left
    ·simp only [Act.put, ps_]; rfl
    refine one_ (i := 8) (N := some 25) b198_9 rfl rfl (one_of HT_.out (by kernel_rfl)) (by decide) (fun K hK => ?_); refine goes_ Try.func74 (by kernel_rfl) rfl #[.agg #[.int .i64 ((rd_T68 l0 x5_1).f0), .int .i64 ((rd_T68 l0 x5_1).f1), .string ((rd_T68 l0 x5_1).f2), .int .i64 ((rd_T68 l0 x5_1).f3.f0), .int .i64 ((rd_T68 l0 x5_1).f3.f1), .string ((rd_T68 l0 x5_1).f3.f2)], .agg #[.int .i64 ((rd_T68 l1 x5_1).f0), .int .i64 ((rd_T68 l1 x5_1).f1), .string ((rd_T68 l1 x5_1).f2), .int .i64 ((rd_T68 l1 x5_1).f3.f0), .int .i64 ((rd_T68 l1 x5_1).f3.f1), .string ((rd_T68 l1 x5_1).f3.f2)]] (by rfl) rfl rfl mw_ ?_; with_reducible refine (laws_eqTerm.calls ((rd_T68 l0 x5_1).f0) ((rd_T68 l0 x5_1).f1) ((rd_T68 l0 x5_1).f2) ((rd_T68 l0 x5_1).f3.f0) ((rd_T68 l0 x5_1).f3.f1) ((rd_T68 l0 x5_1).f3.f2) ((rd_T68 l1 x5_1).f0) ((rd_T68 l1 x5_1).f1) ((rd_T68 l1 x5_1).f2) ((rd_T68 l1 x5_1).f3.f0) ((rd_T68 l1 x5_1).f3.f1) ((rd_T68 l1 x5_1).f3.f2) true _ A7.out).mono ?_
    rintro e w10 ⟨rfl, hb⟩; refine ⟨_, rfl, ?_⟩; replace HB := ms_ HB hb; (try clear hb); (try clear hb2); (try clear hk); (try clear hi); refine hK.out _ _ ⟨(mx_ HB hw325_0), (mx_ HB hw325_1), (mx_ HB hw325_2), (mx_ HB hw325_3), (mx_ HB hw325_4), (mx_ HB hw325_5), (mx_ HB hw326_0), (mx_ HB hw326_1), (mx_ HB hw326_2), (mx_ HB hw326_3), (mx_ HB hw326_4), (mx_ HB hw326_5)⟩ (fun hHeld => ?_); clear hK K; refine nm_ 25 ?_; refine pu_ 9 26 b198_10 (any_of HT_.out (by kernel_rfl)) ?_; refine done_ (done_of HT_.out (by kernel_rfl)) ?_; try go_wp2
    go_roundg k1
    case measure => have := HK1.out; omega
    case rel => exact ⟨(wrap64 (x5_1 + 1)), mq_, H', ⟨by have := HK1.out; omega⟩, ⟨mb_ HB⟩⟩
   ·replace c8 := Bool.eq_false_iff.mpr c8; subst c8; rw [if_neg (show ¬ (false = true) by decide)] at H; exact absurd (Option.some.inj H) (by decide)
  ·rw [if_neg c4] at H; have c4b0 := decide_eq_false c4; clear c4; clear H; go_wp2; go_ret; exact ⟨me_, mb_ HB⟩
 ·rw [if_neg c3] at H; have c3b0 := beq_eq_false_iff_ne.mpr c3; have c3b1 := bne_iff_ne.mpr c3; have c3b2 : (l0.length == l1.length) = false := by first | simpa using c3 | (simp at c3 ⊢; omega)
  exact absurd (Option.some.inj H) (by decide)
def laws_eqPattern.f (k : Nat) (a0_0 : Bool) (a0_1 : ByteArray) (l0_2 : List (S68)) (a1_0 : Bool) (a1_1 : ByteArray) (l1_2 : List (S68)) : Option (Bool) := if (a0_0 != a1_0) = true then (some false) else (if a0_1.toList = a1_1.toList then ((laws_eqTermS.f k l0_2 l1_2).bind fun t330 => (if t330 = true then (some true) else (some false))) else (some false))
theorem laws_eqPattern.mono : ∀ a0 a1 a2 a3 a4 a5 k, LeO (laws_eqPattern.f k a0 a1 a2 a3 a4 a5) (laws_eqPattern.f (k + 1) a0 a1 a2 a3 a4 a5) := by
 intro a0 a1 a2 a3 a4 a5 k; unfold laws_eqPattern.f
 repeat' with_reducible first | apply laws_eqTermS.mono | apply LeO.refl | apply LeO.none | refine LeO.ite ?_ ?_ | refine LeO.bind ?_ (fun _ => ?_)
set_option maxHeartbeats 8000000 in
set_option maxRecDepth 100000 in
theorem laws_eqPattern.calls (k : Nat) (a0_0 : Bool) (a0_1 : ByteArray) (A0_2 : Option Addr) (c0_2 : Nat) (l0_2 : List (S68)) (a1_0 : Bool) (a1_1 : ByteArray) (A1_2 : Option Addr) (c1_2 : Nat) (l1_2 : List (S68)) (r : Bool) (w : World) (hr0_2 : Kd.C k68 w A0_2 l0_2.length l0_2) (hc0_2 : l0_2.length ≤ c0_2) (hr1_2 : Kd.C k68 w A1_2 l1_2.length l1_2) (hc1_2 : l1_2.length ≤ c1_2) (h : laws_eqPattern.f k a0_0 a0_1 l0_2 a1_0 a1_1 l1_2 = some r) (hT_ : r = true := by first | rfl | assumption) :
  Calls Try.prog 57 #[.agg #[.bool a0_0, .string a0_1, .slice A0_2 l0_2.length c0_2], .agg #[.bool a1_0, .string a1_1, .slice A1_2 l1_2.length c1_2]] w fun e w' => e = .returned (.bool r) ∧ Below w.heap.size w w' := by
 subst hT_; have hu59 := Try.underlying59; have HR0_2 := a_ hr0_2; have HC0_2 := a_ hc0_2; clear hr0_2 hc0_2; have HR1_2 := a_ hr1_2; have HC1_2 := a_ hc1_2; clear hr1_2 hc1_2; have HB := a_ (Below.refl w.heap.size w); have H : (if (a0_0 != a1_0) = true then (some false) else (if a0_1.toList = a1_1.toList then ((laws_eqTermS.f k l0_2 l1_2).bind fun t330 => (if t330 = true then (some true) else (some false))) else (some false))) = some true := h
 clear h; by_cases c3 : (a0_0 != a1_0) = true
 ·rw [if_pos c3] at H; have c3b0 : (a0_0 != a1_0) = true := c3
  (try (have c3b1 : decide (a0_0 = a1_0) = false := by simpa using c3)); (try (have c3b2 : (a0_0 == a1_0) = false := by simpa using c3)); (try (have c3b3 : ¬ (a0_0 = a1_0) := by simpa using c3)); clear c3; exact absurd (Option.some.inj H) (by decide)
 ·rw [if_neg c3] at H; have c3b0 : (a0_0 != a1_0) = false := by simpa using c3
  (try (have c3b1 : decide (a0_0 = a1_0) = true := by simpa using c3)); (try (have c3b2 : (a0_0 == a1_0) = true := by simpa using c3)); clear c3; by_cases c4 : a0_1.toList = a1_1.toList
  ·rw [if_pos c4] at H; have c4b0 := beq_iff_eq.mpr c4; have c4b1 := bne_eq_false_iff_eq.mpr c4; clear c4; replace H := Option.bind_eq_some_iff.mp H; obtain ⟨t330, A50, H⟩ := H; have A5 := a_ A50; clear A50; by_cases c6 : t330 = true
   ·subst c6; rw [if_pos rfl] at H; clear H; go_enter Try.func57, Try.ntmps57; go_wp2_with (first | ((with_reducible refine gate_dst (N := 2) rfl ?_); refine bx_ 2 #[.bool a0_0, .string a0_1, .slice A0_2 l0_2.length c0_2] 59 ?_; intro gb328 hg w7 hbox hb; have BK328 := a_ (hbox); have GE328 := mg_ HB hg; replace HB := ms_ HB hb; clear hb hbox hg) | ((with_reducible refine gate_dst (N := 3) rfl ?_); refine bx_ 3 #[.bool a1_0, .string a1_1, .slice A1_2 l1_2.length c1_2] 59 ?_; intro gb329 hg w8 hbox hb; have BK329 := a_ (hbox); have GE329 := mg_ HB hg; have NB328_329 := ml_ BK328 hg; have NB329_328 := mr_ BK328 hg; replace BK328 := mk_ BK328 hb; replace HB := ms_ HB hb; clear hb hbox hg; have hnb9 := NB328_329.out; have hnc9 := NB329_328.out; obtain ⟨z10_0, z10_1, z10_2, zf10_0, zf10_1, zf10_2⟩ := cz3 BK328; obtain ⟨z11_0, z11_1, z11_2, zf11_0, zf11_1, zf11_2⟩ := cz3 BK329) | ((with_reducible refine gate_callee (f := 68) rfl ?_); refine goesL_ (some 19) rfl rfl Try.func68 (by kernel_rfl) rfl #[.slice A0_2 l0_2.length c0_2, .slice A1_2 l1_2.length c1_2] rfl mw_ ?_; (with_reducible refine (laws_eqTermS.calls k _ _ l0_2 _ _ l1_2 true _ ?side1 ?side2 ?side3 ?side4 A5.out).mono ?_); (case side1 => repeat (first | exact (Kd.C_below HR0_2.out HB.out) | (with_reducible refine Kd.C_alloc ?_ _) | (with_reducible refine Kd.C_drewN ?_ _) | (with_reducible refine Kd.C_drew ?_))); (case side2 => exact HC0_2.out); (case side3 => repeat (first | exact (Kd.C_below HR1_2.out HB.out) | (with_reducible refine Kd.C_alloc ?_ _) | (with_reducible refine Kd.C_drewN ?_ _) | (with_reducible refine Kd.C_drew ?_))); (case side4 => exact HC1_2.out); rintro e w12 ⟨rfl, hb⟩; refine ⟨_, rfl, ?_⟩; replace BK328 := mk_ BK328 hb; replace BK329 := mk_ BK329 hb; replace HB := ms_ HB hb; (try clear hb); (try clear hb2); (try clear hk); (try clear hi))); go_ret; exact ⟨me_, mb_ HB⟩
   ·replace c6 := Bool.eq_false_iff.mpr c6; subst c6; rw [if_neg (show ¬ (false = true) by decide)] at H; exact absurd (Option.some.inj H) (by decide)
  ·rw [if_neg c4] at H; have c4b0 := beq_eq_false_iff_ne.mpr c4; have c4b1 := bne_iff_ne.mpr c4; exact absurd (Option.some.inj H) (by decide)
end Go.Proofs.Ytejjlkbbnhpbdaa.P
namespace Go.Proofs.Ytejjlkbbnhpbdaa.P
open Go.Proofs.YtejjlkbbnhpbdaaX
open Go.RowKit Go.Proofs.YtejjlkbbnhpbdaaW.PrintWords Go.Proofs.YtejjlkbbnhpbdaaW.PrintLast Go.Proofs.YtejjlkbbnhpbdaaW.PrintMore
attribute [local go_sem] max2_int min2_int max_two min_two max_three min_three max_four min_four
set_option linter.unusedVariables false
set_option linter.unusedSimpArgs false
def laws_eqPatternS.l0 : Nat → List (S59) → List (S59) → Int → Option (Bool)
 | 0, _, _, _ => none
 | k + 1, x0, x1, x5 => if x5 < (x0.length : Int) then (if 0 ≤ x5 then (if x5 < (x1.length : Int) then ((laws_eqPattern.f k ((rd_T59 x0 x5).f0) ((rd_T59 x0 x5).f1) ((rd_T59 x0 x5).f2) ((rd_T59 x1 x5).f0) ((rd_T59 x1 x5).f1) ((rd_T59 x1 x5).f2)).bind fun t333 => (if t333 = true then (laws_eqPatternS.l0 k x0 x1 (wrap64 (x5 + 1))) else (some false))) else (none)) else (none)) else (some true)
def laws_eqPatternS.f (k : Nat) (l0 : List (S59)) (l1 : List (S59)) : Option (Bool) := if (l0.length : Int) = (l1.length : Int) then (laws_eqPatternS.l0 k l0 l1 0) else (some false)
theorem laws_eqPatternS.mono_l : ∀ k, (∀ y0 y1 y2, LeO (laws_eqPatternS.l0 k y0 y1 y2) (laws_eqPatternS.l0 (k + 1) y0 y1 y2))
 | 0 => fun _ _ _ r h => by simp [laws_eqPatternS.l0] at h
 | k + 1 => by
  have ih0 := laws_eqPatternS.mono_l k
  ·intro y0 y1 y2; unfold laws_eqPatternS.l0
   repeat' with_reducible first | apply ih0 | apply laws_eqPattern.mono | apply LeO.refl | apply LeO.none | refine LeO.ite ?_ ?_ | refine LeO.bind ?_ (fun _ => ?_)
theorem laws_eqPatternS.mono : ∀ a0 a1 k, LeO (laws_eqPatternS.f k a0 a1) (laws_eqPatternS.f (k + 1) a0 a1) := by
 intro a0 a1 k; have ih0 := laws_eqPatternS.mono_l k; unfold laws_eqPatternS.f
 repeat' with_reducible first | apply ih0 | apply laws_eqPattern.mono | apply LeO.refl | apply LeO.none | refine LeO.ite ?_ ?_ | refine LeO.bind ?_ (fun _ => ?_)
def laws_eqPatternS.T6 : Bool × List (List Nat × List Nat) := (true, [([], []), ([], []), ([0, 1], [0, 1]), ([2], [2]), ([], []), ([], []), ([4, 5], [4, 5]), ([6], [6]), ([3, 7], [3, 7]), ([8], [8])])
def laws_eqPatternS.B6 : List Nat := [0, 0, 3, 7, 0, 0, 48, 112, 255, 511]
theorem laws_eqPatternS.tab6 : rtab .any (opsOf Try.f36 6) = laws_eqPatternS.T6 := by kernel_rfl
theorem laws_eqPatternS.bits6 : waitsOk laws_eqPatternS.T6.2 laws_eqPatternS.B6 = true := by kernel_rfl
abbrev bb60_0 : Array Bool := #[false, false, false, false, false, false, false, false, false, false]
abbrev bb60_1 : Array Bool := #[true, false, false, false, false, false, false, false, false, false]
abbrev bb60_2 : Array Bool := #[true, true, false, false, false, false, false, false, false, false]
abbrev bb60_3 : Array Bool := #[true, true, true, false, false, false, false, false, false, false]
abbrev bb60_4 : Array Bool := #[true, true, true, false, true, false, false, false, false, false]
abbrev bb60_5 : Array Bool := #[true, true, true, false, true, true, false, false, false, false]
abbrev bb60_6 : Array Bool := #[true, true, true, false, true, true, true, false, false, false]
abbrev bb60_7 : Array Bool := #[true, true, true, true, true, true, true, false, false, false]
abbrev bb60_8 : Array Bool := #[true, true, true, true, true, true, true, true, false, false]
abbrev bb60_9 : Array Bool := #[true, true, true, true, true, true, true, true, true, false]
abbrev bb60_10 : Array Bool := #[true, true, true, true, true, true, true, true, true, true]
set_option maxHeartbeats 8000000 in
set_option maxRecDepth 100000 in
theorem laws_eqPatternS.calls (k : Nat) (A0 : Option Addr) (c0 : Nat) (l0 : List (S59)) (A1 : Option Addr) (c1 : Nat) (l1 : List (S59)) (r : Bool) (w : World) (hr0 : Kd.C k59 w A0 l0.length l0) (hc0 : l0.length ≤ c0) (hr1 : Kd.C k59 w A1 l1.length l1) (hc1 : l1.length ≤ c1) (h : laws_eqPatternS.f k l0 l1 = some r) (hT_ : r = true := by first | rfl | assumption) :
  Calls Try.prog 36 #[.slice A0 l0.length c0, .slice A1 l1.length c1] w fun e w' => e = .returned (.bool r) ∧ Below w.heap.size w w' := by
 subst hT_; have hu59 := Try.underlying59; have HR0 := a_ hr0; have HC0 := a_ hc0; clear hr0 hc0; have HR1 := a_ hr1; have HC1 := a_ hc1; clear hr1 hc1; have HB := a_ (Below.refl w.heap.size w); have H : (if (l0.length : Int) = (l1.length : Int) then (laws_eqPatternS.l0 k l0 l1 0) else (some false)) = some true := h
 clear h; by_cases c3 : (l0.length : Int) = (l1.length : Int)
 ·rw [if_pos c3] at H; have c3b0 := beq_iff_eq.mpr c3; have c3b1 := bne_eq_false_iff_eq.mpr c3; have c3b2 : (l0.length == l1.length) = true := by first | simpa using c3 | (simp at c3 ⊢; omega)
  clear c3; have H' := a_ H; clear H; go_enter Try.func36, Try.ntmps36; go_wp2; go_loopg [5] k (fun kq v5 w' => ∃ (x5_1 : Int), v5 = .int .i64 x5_1 ∧ Aside0 (laws_eqPatternS.l0 kq l0 l1 x5_1 = some true) ∧ Aside0 (kq ≤ k) ∧ Aside0 (Below w.heap.size w w'))
  case atStart => exact ⟨(0), mq_, H', ⟨Nat.le_refl _⟩, ⟨mb_ HB⟩⟩
  clear H'; (try clear c3b0); (try clear c3b1); (try clear c3b2); obtain ⟨x5_1, rfl, HA, HK1, HB⟩ := hrel; obtain _ | k1 := gk
  ·exact absurd HA.out (by simp [laws_eqPatternS.l0])
  have H := HA.out; clear HA; simp only [laws_eqPatternS.l0] at H; by_cases c4 : x5_1 < (l0.length : Int)
  ·rw [if_pos c4] at H; have c4b0 := decide_eq_true c4; clear c4; by_cases c5 : 0 ≤ x5_1
   case neg => rw [if_neg c5] at H; cases H
   rw [if_pos c5] at H; have c5b0 := decide_eq_true c5; clear c5; by_cases c6 : x5_1 < (l1.length : Int)
   case neg => rw [if_neg c6] at H; cases H
   rw [if_pos c6] at H; have c6b0 := decide_eq_true c6; clear c6; replace H := Option.bind_eq_some_iff.mp H; obtain ⟨t333, A70, H⟩ := H; have A7 := a_ A70; clear A70; by_cases c8 : t333 = true
   ·subst c8; rw [if_pos rfl] at H; have H' := a_ H; clear H; try go_wp2
    replace HB := a_ (below_drew1 HB.out); have p331 : 0 ≤ (x5_1 : Int) := md_
    have q331 : x5_1 < (l0.length : Int) := md_
    obtain ⟨ad331, A331_2, c331_2, e331, hx331_0, hx331_1, hx331_2, hl331_2, hi331_2⟩ := at_T59 HR0.out x5_1 p331 q331; have hw331_2 := hx331_2; have hw331_1 := hx331_1; have hw331_0 := hx331_0; cases e331; replace hx331_0 := mx_ HB hx331_0; replace hx331_1 := mx_ HB hx331_1; replace hx331_2 := mx_ HB hx331_2; have HR331_2 := a_ hi331_2; have HC331_2 := a_ hl331_2; clear hi331_2 hl331_2; replace p331 := eq_true p331; replace q331 := eq_true q331; have p332 : 0 ≤ (x5_1 : Int) := md_
    have q332 : x5_1 < (l1.length : Int) := md_
    obtain ⟨ad332, A332_2, c332_2, e332, hx332_0, hx332_1, hx332_2, hl332_2, hi332_2⟩ := at_T59 HR1.out x5_1 p332 q332; have hw332_2 := hx332_2; have hw332_1 := hx332_1; have hw332_0 := hx332_0; cases e332; replace hx332_0 := mx_ HB hx332_0; replace hx332_1 := mx_ HB hx332_1; replace hx332_2 := mx_ HB hx332_2; have HR332_2 := a_ hi332_2; have HC332_2 := a_ hl332_2; clear hi332_2 hl332_2; replace p332 := eq_true p332; replace q332 := eq_true q332; refine start_ (n := 10) (S := fun w' => w'.cell? (ad331.add ((x5_1).toNat * 3)) = some (.bool ((rd_T59 l0 x5_1).f0)) ∧ w'.cell? ⟨(ad331.add ((x5_1).toNat * 3)).block, (ad331.add ((x5_1).toNat * 3)).off + 1, none⟩ = some (.string ((rd_T59 l0 x5_1).f1)) ∧ w'.cell? ⟨(ad331.add ((x5_1).toNat * 3)).block, (ad331.add ((x5_1).toNat * 3)).off + 2, none⟩ = some (.slice A331_2 ((rd_T59 l0 x5_1).f2).length c331_2) ∧ w'.cell? (ad332.add ((x5_1).toNat * 3)) = some (.bool ((rd_T59 l1 x5_1).f0)) ∧ w'.cell? ⟨(ad332.add ((x5_1).toNat * 3)).block, (ad332.add ((x5_1).toNat * 3)).off + 1, none⟩ = some (.string ((rd_T59 l1 x5_1).f1)) ∧ w'.cell? ⟨(ad332.add ((x5_1).toNat * 3)).block, (ad332.add ((x5_1).toNat * 3)).off + 2, none⟩ = some (.slice A332_2 ((rd_T59 l1 x5_1).f2).length c332_2)) (ds := []) bb60_0 (by kernel_rfl) rfl rfl ⟨(mx_ HB hw331_0), (mx_ HB hw331_1), (mx_ HB hw331_2), (mx_ HB hw332_0), (mx_ HB hw332_1), (mx_ HB hw332_2)⟩ (fun hHeld => ?_); refine with_tabW laws_eqPatternS.tab6 laws_eqPatternS.bits6 (fun HT_ HW_ => ?_); generalize wr.drew = w9 at HB HR331_2 HR332_2 hx331_0 hx331_1 hx331_2 hx332_0 hx332_1 hx332_2 hHeld ⊢; refine pu_ 0 17 bb60_1 (any_of HT_.out (by kernel_rfl)) ?_; refine pu_ 1 18 bb60_2 (any_of HT_.out (by kernel_rfl)) ?_; refine pu_ 2 19 bb60_3 (any_of HT_.out (by kernel_rfl)) ?_; refine pu_ 4 21 bb60_4 (any_of HT_.out (by kernel_rfl)) ?_; refine pu_ 5 22 bb60_5 (any_of HT_.out (by kernel_rfl)) ?_; refine pu_ 6 23 bb60_6 (any_of HT_.out (by kernel_rfl)) ?_; refine take_ (i := 3) (N := some 20) (v := ?_) (a' := ?_) bb60_7 rfl rfl (take_ofW HT_.out HW_.out (by kernel_rfl)) (fun _ _ _ h => h) (Or.inl ⟨by rfl, ?_⟩) hHeld ?_ ?_; rotate_left
    ·rintro w' ⟨s0, s1, s2, s3, s4, s5⟩; go_simp; with_reducible rfl
    rotate_left
    ·simp only [Act.put, ps_]; rfl
    refine take_ (i := 7) (N := some 24) (v := ?_) (a' := ?_) bb60_8 rfl rfl (take_ofW HT_.out HW_.out (by kernel_rfl)) (fun _ _ _ h => h) (Or.inl ⟨by rfl, ?_⟩) hHeld ?_ ?_; rotate_left
    ·rintro w' ⟨s0, s1, s2, s3, s4, s5⟩; go_simp; with_reducible rfl
    rotate_left
    ·simp only [Act.put, ps_]; rfl
    refine one_ (i := 8) (N := some 25) bb60_9 rfl rfl (one_of HT_.out (by kernel_rfl)) (by decide) (fun K hK => ?_); refine goes_ Try.func57 (by kernel_rfl) rfl #[.agg #[.bool ((rd_T59 l0 x5_1).f0), .string ((rd_T59 l0 x5_1).f1), .slice A331_2 ((rd_T59 l0 x5_1).f2).length c331_2], .agg #[.bool ((rd_T59 l1 x5_1).f0), .string ((rd_T59 l1 x5_1).f1), .slice A332_2 ((rd_T59 l1 x5_1).f2).length c332_2]] (by rfl) rfl rfl mw_ ?_; with_reducible refine (laws_eqPattern.calls k1 ((rd_T59 l0 x5_1).f0) ((rd_T59 l0 x5_1).f1) _ _ ((rd_T59 l0 x5_1).f2) ((rd_T59 l1 x5_1).f0) ((rd_T59 l1 x5_1).f1) _ _ ((rd_T59 l1 x5_1).f2) true _ ?side1 ?side2 ?side3 ?side4 A7.out).mono ?_
    (case side1 => repeat (first | exact (Kd.C_below HR331_2.out HB.out) | (with_reducible refine Kd.C_alloc ?_ _) | (with_reducible refine Kd.C_drewN ?_ _) | (with_reducible refine Kd.C_drew ?_)))
    (case side2 => exact HC331_2.out)
    (case side3 => repeat (first | exact (Kd.C_below HR332_2.out HB.out) | (with_reducible refine Kd.C_alloc ?_ _) | (with_reducible refine Kd.C_drewN ?_ _) | (with_reducible refine Kd.C_drew ?_)))
    (case side4 => exact HC332_2.out)
    rintro e w10 ⟨rfl, hb⟩; refine ⟨_, rfl, ?_⟩; replace HB := ms_ HB hb; (try clear hb); (try clear hb2); (try clear hk); (try clear hi); refine hK.out _ _ ⟨(mx_ HB hw331_0), (mx_ HB hw331_1), (mx_ HB hw331_2), (mx_ HB hw332_0), (mx_ HB hw332_1), (mx_ HB hw332_2)⟩ (fun hHeld => ?_); clear hK K; refine nm_ 25 ?_; refine pu_ 9 26 bb60_10 (any_of HT_.out (by kernel_rfl)) ?_; refine done_ (done_of HT_.out (by kernel_rfl)) ?_; try go_wp2
    go_roundg k1
    case measure => have := HK1.out; omega
    case rel => exact ⟨(wrap64 (x5_1 + 1)), mq_, H', ⟨by have := HK1.out; omega⟩, ⟨mb_ HB⟩⟩
   ·replace c8 := Bool.eq_false_iff.mpr c8; subst c8; rw [if_neg (show ¬ (false = true) by decide)] at H; exact absurd (Option.some.inj H) (by decide)
  ·rw [if_neg c4] at H; have c4b0 := decide_eq_false c4; clear c4; clear H; go_wp2; go_ret; exact ⟨me_, mb_ HB⟩
 ·rw [if_neg c3] at H; have c3b0 := beq_eq_false_iff_ne.mpr c3; have c3b1 := bne_iff_ne.mpr c3; have c3b2 : (l0.length == l1.length) = false := by first | simpa using c3 | (simp at c3 ⊢; omega)
  exact absurd (Option.some.inj H) (by decide)
def laws_eqExpr.f (a0_0 : Int) (a0_1 : Int) (a0_2 : ByteArray) (a0_3 : Int) (a0_4 : Int) (a0_5 : ByteArray) (a0_6 : Int) (a0_7 : Int) (a1_0 : Int) (a1_1 : Int) (a1_2 : ByteArray) (a1_3 : Int) (a1_4 : Int) (a1_5 : ByteArray) (a1_6 : Int) (a1_7 : Int) : Option (Bool) := if a0_0 = a1_0 then (if a0_1 = a1_1 then (if a0_2.toList = a1_2.toList then ((laws_eqValue.f a0_3 a0_4 a0_5 a1_3 a1_4 a1_5).bind fun t336 => (if t336 = true then (if a0_6 = a1_6 then (if a0_7 = a1_7 then (some true) else (some false)) else (some false)) else (some false))) else (some false)) else (some false)) else (some false)
set_option maxHeartbeats 8000000 in
set_option maxRecDepth 100000 in
theorem laws_eqExpr.calls (a0_0 : Int) (a0_1 : Int) (a0_2 : ByteArray) (a0_3 : Int) (a0_4 : Int) (a0_5 : ByteArray) (a0_6 : Int) (a0_7 : Int) (a1_0 : Int) (a1_1 : Int) (a1_2 : ByteArray) (a1_3 : Int) (a1_4 : Int) (a1_5 : ByteArray) (a1_6 : Int) (a1_7 : Int) (r : Bool) (w : World) (h : laws_eqExpr.f a0_0 a0_1 a0_2 a0_3 a0_4 a0_5 a0_6 a0_7 a1_0 a1_1 a1_2 a1_3 a1_4 a1_5 a1_6 a1_7 = some r) (hT_ : r = true := by first | rfl | assumption) :
  Calls Try.prog 58 #[.agg #[.int .i64 a0_0, .int .u8 a0_1, .string a0_2, .int .i64 a0_3, .int .i64 a0_4, .string a0_5, .int .i64 a0_6, .int .i64 a0_7], .agg #[.int .i64 a1_0, .int .u8 a1_1, .string a1_2, .int .i64 a1_3, .int .i64 a1_4, .string a1_5, .int .i64 a1_6, .int .i64 a1_7]] w fun e w' => e = .returned (.bool r) ∧ Below w.heap.size w w' := by
 subst hT_; have hu72 := Try.underlying72; have hu66 := Try.underlying66; have HB := a_ (Below.refl w.heap.size w); have H : (if a0_0 = a1_0 then (if a0_1 = a1_1 then (if a0_2.toList = a1_2.toList then ((laws_eqValue.f a0_3 a0_4 a0_5 a1_3 a1_4 a1_5).bind fun t336 => (if t336 = true then (if a0_6 = a1_6 then (if a0_7 = a1_7 then (some true) else (some false)) else (some false)) else (some false))) else (some false)) else (some false)) else (some false)) = some true := h
 clear h; by_cases c3 : a0_0 = a1_0
 ·rw [if_pos c3] at H; have c3b0 := beq_iff_eq.mpr c3; have c3b1 := bne_eq_false_iff_eq.mpr c3; clear c3; by_cases c4 : a0_1 = a1_1
  ·rw [if_pos c4] at H; have c4b0 := beq_iff_eq.mpr c4; have c4b1 := bne_eq_false_iff_eq.mpr c4; clear c4; by_cases c5 : a0_2.toList = a1_2.toList
   ·rw [if_pos c5] at H; have c5b0 := beq_iff_eq.mpr c5; have c5b1 := bne_eq_false_iff_eq.mpr c5; clear c5; replace H := Option.bind_eq_some_iff.mp H; obtain ⟨t336, A60, H⟩ := H; have A6 := a_ A60; clear A60; by_cases c7 : t336 = true
    ·subst c7; rw [if_pos rfl] at H; by_cases c8 : a0_6 = a1_6
     ·rw [if_pos c8] at H; have c8b0 := beq_iff_eq.mpr c8; have c8b1 := bne_eq_false_iff_eq.mpr c8; clear c8; by_cases c9 : a0_7 = a1_7
      ·rw [if_pos c9] at H; have c9b0 := beq_iff_eq.mpr c9; have c9b1 := bne_eq_false_iff_eq.mpr c9; clear c9; clear H; go_enter Try.func58, Try.ntmps58; go_wp2_with (first | ((with_reducible refine gate_dst (N := 2) rfl ?_); refine bx_ 2 #[.int .i64 a0_0, .int .u8 a0_1, .string a0_2, .int .i64 a0_3, .int .i64 a0_4, .string a0_5, .int .i64 a0_6, .int .i64 a0_7] 72 ?_; intro gb334 hg w10 hbox hb; have BK334 := a_ (hbox); have GE334 := mg_ HB hg; replace HB := ms_ HB hb; clear hb hbox hg) | ((with_reducible refine gate_dst (N := 3) rfl ?_); refine bx_ 3 #[.int .i64 a1_0, .int .u8 a1_1, .string a1_2, .int .i64 a1_3, .int .i64 a1_4, .string a1_5, .int .i64 a1_6, .int .i64 a1_7] 72 ?_; intro gb335 hg w11 hbox hb; have BK335 := a_ (hbox); have GE335 := mg_ HB hg; have NB334_335 := ml_ BK334 hg; have NB335_334 := mr_ BK334 hg; replace BK334 := mk_ BK334 hb; replace HB := ms_ HB hb; clear hb hbox hg; have hnb12 := NB334_335.out; have hnc12 := NB335_334.out; obtain ⟨z13_0, z13_1, z13_2, z13_3, z13_4, z13_5, z13_6, z13_7, zf13_0, zf13_1, zf13_2, zf13_3, zf13_4, zf13_5, zf13_6, zf13_7⟩ := cz8 BK334; obtain ⟨z14_0, z14_1, z14_2, z14_3, z14_4, z14_5, z14_6, z14_7, zf14_0, zf14_1, zf14_2, zf14_3, zf14_4, zf14_5, zf14_6, zf14_7⟩ := cz8 BK335) | ((with_reducible refine gate_callee (f := 69) rfl ?_); refine goesL_ (some 24) rfl rfl Try.func69 (by kernel_rfl) rfl #[.agg #[.int .i64 a0_3, .int .i64 a0_4, .string a0_5], .agg #[.int .i64 a1_3, .int .i64 a1_4, .string a1_5]] rfl mw_ ?_; (with_reducible refine (laws_eqValue.calls a0_3 a0_4 a0_5 a1_3 a1_4 a1_5 true _ A6.out).mono ?_); rintro e w15 ⟨rfl, hb⟩; refine ⟨_, rfl, ?_⟩; replace BK334 := mk_ BK334 hb; replace BK335 := mk_ BK335 hb; replace HB := ms_ HB hb; (try clear hb); (try clear hb2); (try clear hk); (try clear hi); obtain ⟨z16_0, z16_1, z16_2, z16_3, z16_4, z16_5, z16_6, z16_7, zf16_0, zf16_1, zf16_2, zf16_3, zf16_4, zf16_5, zf16_6, zf16_7⟩ := cz8 BK334; obtain ⟨z17_0, z17_1, z17_2, z17_3, z17_4, z17_5, z17_6, z17_7, zf17_0, zf17_1, zf17_2, zf17_3, zf17_4, zf17_5, zf17_6, zf17_7⟩ := cz8 BK335)); go_ret; exact ⟨me_, mb_ HB⟩
      ·rw [if_neg c9] at H; have c9b0 := beq_eq_false_iff_ne.mpr c9; have c9b1 := bne_iff_ne.mpr c9; exact absurd (Option.some.inj H) (by decide)
     ·rw [if_neg c8] at H; have c8b0 := beq_eq_false_iff_ne.mpr c8; have c8b1 := bne_iff_ne.mpr c8; exact absurd (Option.some.inj H) (by decide)
    ·replace c7 := Bool.eq_false_iff.mpr c7; subst c7; rw [if_neg (show ¬ (false = true) by decide)] at H; exact absurd (Option.some.inj H) (by decide)
   ·rw [if_neg c5] at H; have c5b0 := beq_eq_false_iff_ne.mpr c5; have c5b1 := bne_iff_ne.mpr c5; exact absurd (Option.some.inj H) (by decide)
  ·rw [if_neg c4] at H; have c4b0 := beq_eq_false_iff_ne.mpr c4; have c4b1 := bne_iff_ne.mpr c4; exact absurd (Option.some.inj H) (by decide)
 ·rw [if_neg c3] at H; have c3b0 := beq_eq_false_iff_ne.mpr c3; have c3b1 := bne_iff_ne.mpr c3; exact absurd (Option.some.inj H) (by decide)
def laws_eqExprS.l0 : Nat → List (S72) → List (S72) → Int → Option (Bool)
 | 0, _, _, _ => none
 | k + 1, x0, x1, x5 => if x5 < (x0.length : Int) then (if 0 ≤ x5 then (if x5 < (x1.length : Int) then ((laws_eqExpr.f ((rd_T72 x0 x5).f0) ((rd_T72 x0 x5).f1) ((rd_T72 x0 x5).f2) ((rd_T72 x0 x5).f3.f0) ((rd_T72 x0 x5).f3.f1) ((rd_T72 x0 x5).f3.f2) ((rd_T72 x0 x5).f4) ((rd_T72 x0 x5).f5) ((rd_T72 x1 x5).f0) ((rd_T72 x1 x5).f1) ((rd_T72 x1 x5).f2) ((rd_T72 x1 x5).f3.f0) ((rd_T72 x1 x5).f3.f1) ((rd_T72 x1 x5).f3.f2) ((rd_T72 x1 x5).f4) ((rd_T72 x1 x5).f5)).bind fun t339 => (if t339 = true then (laws_eqExprS.l0 k x0 x1 (wrap64 (x5 + 1))) else (some false))) else (none)) else (none)) else (some true)
def laws_eqExprS.f (k : Nat) (l0 : List (S72)) (l1 : List (S72)) : Option (Bool) := if (l0.length : Int) = (l1.length : Int) then (laws_eqExprS.l0 k l0 l1 0) else (some false)
theorem laws_eqExprS.mono_l : ∀ k, (∀ y0 y1 y2, LeO (laws_eqExprS.l0 k y0 y1 y2) (laws_eqExprS.l0 (k + 1) y0 y1 y2))
 | 0 => fun _ _ _ r h => by simp [laws_eqExprS.l0] at h
 | k + 1 => by
  have ih0 := laws_eqExprS.mono_l k
  ·intro y0 y1 y2; unfold laws_eqExprS.l0
   repeat' with_reducible first | apply ih0 | apply LeO.refl | apply LeO.none | refine LeO.ite ?_ ?_ | refine LeO.bind ?_ (fun _ => ?_)
theorem laws_eqExprS.mono : ∀ a0 a1 k, LeO (laws_eqExprS.f k a0 a1) (laws_eqExprS.f (k + 1) a0 a1) := by
 intro a0 a1 k; have ih0 := laws_eqExprS.mono_l k; unfold laws_eqExprS.f
 repeat' with_reducible first | apply ih0 | apply LeO.refl | apply LeO.none | refine LeO.ite ?_ ?_ | refine LeO.bind ?_ (fun _ => ?_)
def laws_eqExprS.T6 : Bool × List (List Nat × List Nat) := (true, [([], []), ([], []), ([0, 1], [0, 1]), ([2], [2]), ([], []), ([], []), ([4, 5], [4, 5]), ([6], [6]), ([3, 7], [3, 7]), ([8], [8])])
def laws_eqExprS.B6 : List Nat := [0, 0, 3, 7, 0, 0, 48, 112, 255, 511]
theorem laws_eqExprS.tab6 : rtab .any (opsOf Try.f37 6) = laws_eqExprS.T6 := by kernel_rfl
theorem laws_eqExprS.bits6 : waitsOk laws_eqExprS.T6.2 laws_eqExprS.B6 = true := by kernel_rfl
set_option maxHeartbeats 8000000 in
set_option maxRecDepth 100000 in
theorem laws_eqExprS.calls (k : Nat) (A0 : Option Addr) (c0 : Nat) (l0 : List (S72)) (A1 : Option Addr) (c1 : Nat) (l1 : List (S72)) (r : Bool) (w : World) (hr0 : Kd.C k72 w A0 l0.length l0) (hc0 : l0.length ≤ c0) (hr1 : Kd.C k72 w A1 l1.length l1) (hc1 : l1.length ≤ c1) (h : laws_eqExprS.f k l0 l1 = some r) (hT_ : r = true := by first | rfl | assumption) :
  Calls Try.prog 37 #[.slice A0 l0.length c0, .slice A1 l1.length c1] w fun e w' => e = .returned (.bool r) ∧ Below w.heap.size w w' := by
 subst hT_; have hu72 := Try.underlying72; have HR0 := a_ hr0; have HC0 := a_ hc0; clear hr0 hc0; have HR1 := a_ hr1; have HC1 := a_ hc1; clear hr1 hc1; have HB := a_ (Below.refl w.heap.size w); have H : (if (l0.length : Int) = (l1.length : Int) then (laws_eqExprS.l0 k l0 l1 0) else (some false)) = some true := h
 clear h; by_cases c3 : (l0.length : Int) = (l1.length : Int)
 ·rw [if_pos c3] at H; have c3b0 := beq_iff_eq.mpr c3; have c3b1 := bne_eq_false_iff_eq.mpr c3; have c3b2 : (l0.length == l1.length) = true := by first | simpa using c3 | (simp at c3 ⊢; omega)
  clear c3; have H' := a_ H; clear H; go_enter Try.func37, Try.ntmps37; go_wp2; go_loopg [5] k (fun kq v5 w' => ∃ (x5_1 : Int), v5 = .int .i64 x5_1 ∧ Aside0 (laws_eqExprS.l0 kq l0 l1 x5_1 = some true) ∧ Aside0 (kq ≤ k) ∧ Aside0 (Below w.heap.size w w'))
  case atStart => exact ⟨(0), mq_, H', ⟨Nat.le_refl _⟩, ⟨mb_ HB⟩⟩
  clear H'; (try clear c3b0); (try clear c3b1); (try clear c3b2); obtain ⟨x5_1, rfl, HA, HK1, HB⟩ := hrel; obtain _ | k1 := gk
  ·exact absurd HA.out (by simp [laws_eqExprS.l0])
  have H := HA.out; clear HA; simp only [laws_eqExprS.l0] at H; by_cases c4 : x5_1 < (l0.length : Int)
  ·rw [if_pos c4] at H; have c4b0 := decide_eq_true c4; clear c4; by_cases c5 : 0 ≤ x5_1
   case neg => rw [if_neg c5] at H; cases H
   rw [if_pos c5] at H; have c5b0 := decide_eq_true c5; clear c5; by_cases c6 : x5_1 < (l1.length : Int)
   case neg => rw [if_neg c6] at H; cases H
   rw [if_pos c6] at H; have c6b0 := decide_eq_true c6; clear c6; replace H := Option.bind_eq_some_iff.mp H; obtain ⟨t339, A70, H⟩ := H; have A7 := a_ A70; clear A70; by_cases c8 : t339 = true
   ·subst c8; rw [if_pos rfl] at H; have H' := a_ H; clear H; try go_wp2
    replace HB := a_ (below_drew1 HB.out); have p337 : 0 ≤ (x5_1 : Int) := md_
    have q337 : x5_1 < (l0.length : Int) := md_
    obtain ⟨ad337, e337, hx337_0, hx337_1, hx337_2, hx337_3, hx337_4, hx337_5, hx337_6, hx337_7⟩ := at_T72 HR0.out x5_1 p337 q337; have hw337_7 := hx337_7; have hw337_6 := hx337_6; have hw337_5 := hx337_5; have hw337_4 := hx337_4; have hw337_3 := hx337_3; have hw337_2 := hx337_2; have hw337_1 := hx337_1; have hw337_0 := hx337_0; cases e337; replace hx337_0 := mx_ HB hx337_0; replace hx337_1 := mx_ HB hx337_1; replace hx337_2 := mx_ HB hx337_2; replace hx337_3 := mx_ HB hx337_3; replace hx337_4 := mx_ HB hx337_4; replace hx337_5 := mx_ HB hx337_5; replace hx337_6 := mx_ HB hx337_6; replace hx337_7 := mx_ HB hx337_7; replace p337 := eq_true p337; replace q337 := eq_true q337; have p338 : 0 ≤ (x5_1 : Int) := md_
    have q338 : x5_1 < (l1.length : Int) := md_
    obtain ⟨ad338, e338, hx338_0, hx338_1, hx338_2, hx338_3, hx338_4, hx338_5, hx338_6, hx338_7⟩ := at_T72 HR1.out x5_1 p338 q338; have hw338_7 := hx338_7; have hw338_6 := hx338_6; have hw338_5 := hx338_5; have hw338_4 := hx338_4; have hw338_3 := hx338_3; have hw338_2 := hx338_2; have hw338_1 := hx338_1; have hw338_0 := hx338_0; cases e338; replace hx338_0 := mx_ HB hx338_0; replace hx338_1 := mx_ HB hx338_1; replace hx338_2 := mx_ HB hx338_2; replace hx338_3 := mx_ HB hx338_3; replace hx338_4 := mx_ HB hx338_4; replace hx338_5 := mx_ HB hx338_5; replace hx338_6 := mx_ HB hx338_6; replace hx338_7 := mx_ HB hx338_7; replace p338 := eq_true p338; replace q338 := eq_true q338; refine start_ (n := 10) (S := fun w' => w'.cell? (ad337.add ((x5_1).toNat * 8)) = some (.int .i64 ((rd_T72 l0 x5_1).f0)) ∧ w'.cell? ⟨(ad337.add ((x5_1).toNat * 8)).block, (ad337.add ((x5_1).toNat * 8)).off + 1, none⟩ = some (.int .u8 ((rd_T72 l0 x5_1).f1)) ∧ w'.cell? ⟨(ad337.add ((x5_1).toNat * 8)).block, (ad337.add ((x5_1).toNat * 8)).off + 2, none⟩ = some (.string ((rd_T72 l0 x5_1).f2)) ∧ w'.cell? ⟨(ad337.add ((x5_1).toNat * 8)).block, (ad337.add ((x5_1).toNat * 8)).off + 3, none⟩ = some (.int .i64 ((rd_T72 l0 x5_1).f3.f0)) ∧ w'.cell? ⟨(ad337.add ((x5_1).toNat * 8)).block, (ad337.add ((x5_1).toNat * 8)).off + 4, none⟩ = some (.int .i64 ((rd_T72 l0 x5_1).f3.f1)) ∧ w'.cell? ⟨(ad337.add ((x5_1).toNat * 8)).block, (ad337.add ((x5_1).toNat * 8)).off + 5, none⟩ = some (.string ((rd_T72 l0 x5_1).f3.f2)) ∧ w'.cell? ⟨(ad337.add ((x5_1).toNat * 8)).block, (ad337.add ((x5_1).toNat * 8)).off + 6, none⟩ = some (.int .i64 ((rd_T72 l0 x5_1).f4)) ∧ w'.cell? ⟨(ad337.add ((x5_1).toNat * 8)).block, (ad337.add ((x5_1).toNat * 8)).off + 7, none⟩ = some (.int .i64 ((rd_T72 l0 x5_1).f5)) ∧ w'.cell? (ad338.add ((x5_1).toNat * 8)) = some (.int .i64 ((rd_T72 l1 x5_1).f0)) ∧ w'.cell? ⟨(ad338.add ((x5_1).toNat * 8)).block, (ad338.add ((x5_1).toNat * 8)).off + 1, none⟩ = some (.int .u8 ((rd_T72 l1 x5_1).f1)) ∧ w'.cell? ⟨(ad338.add ((x5_1).toNat * 8)).block, (ad338.add ((x5_1).toNat * 8)).off + 2, none⟩ = some (.string ((rd_T72 l1 x5_1).f2)) ∧ w'.cell? ⟨(ad338.add ((x5_1).toNat * 8)).block, (ad338.add ((x5_1).toNat * 8)).off + 3, none⟩ = some (.int .i64 ((rd_T72 l1 x5_1).f3.f0)) ∧ w'.cell? ⟨(ad338.add ((x5_1).toNat * 8)).block, (ad338.add ((x5_1).toNat * 8)).off + 4, none⟩ = some (.int .i64 ((rd_T72 l1 x5_1).f3.f1)) ∧ w'.cell? ⟨(ad338.add ((x5_1).toNat * 8)).block, (ad338.add ((x5_1).toNat * 8)).off + 5, none⟩ = some (.string ((rd_T72 l1 x5_1).f3.f2)) ∧ w'.cell? ⟨(ad338.add ((x5_1).toNat * 8)).block, (ad338.add ((x5_1).toNat * 8)).off + 6, none⟩ = some (.int .i64 ((rd_T72 l1 x5_1).f4)) ∧ w'.cell? ⟨(ad338.add ((x5_1).toNat * 8)).block, (ad338.add ((x5_1).toNat * 8)).off + 7, none⟩ = some (.int .i64 ((rd_T72 l1 x5_1).f5))) (ds := []) bb60_0 (by kernel_rfl) rfl rfl ⟨(mx_ HB hw337_0), (mx_ HB hw337_1), (mx_ HB hw337_2), (mx_ HB hw337_3), (mx_ HB hw337_4), (mx_ HB hw337_5), (mx_ HB hw337_6), (mx_ HB hw337_7), (mx_ HB hw338_0), (mx_ HB hw338_1), (mx_ HB hw338_2), (mx_ HB hw338_3), (mx_ HB hw338_4), (mx_ HB hw338_5), (mx_ HB hw338_6), (mx_ HB hw338_7)⟩ (fun hHeld => ?_); refine with_tabW laws_eqExprS.tab6 laws_eqExprS.bits6 (fun HT_ HW_ => ?_)
    generalize wr.drew = w9 at HB hx337_0 hx337_1 hx337_2 hx337_3 hx337_4 hx337_5 hx337_6 hx337_7 hx338_0 hx338_1 hx338_2 hx338_3 hx338_4 hx338_5 hx338_6 hx338_7 hHeld ⊢; refine pu_ 0 17 bb60_1 (any_of HT_.out (by kernel_rfl)) ?_; refine pu_ 1 18 bb60_2 (any_of HT_.out (by kernel_rfl)) ?_; refine pu_ 2 19 bb60_3 (any_of HT_.out (by kernel_rfl)) ?_; refine pu_ 4 21 bb60_4 (any_of HT_.out (by kernel_rfl)) ?_; refine pu_ 5 22 bb60_5 (any_of HT_.out (by kernel_rfl)) ?_; refine pu_ 6 23 bb60_6 (any_of HT_.out (by kernel_rfl)) ?_; refine take_ (i := 3) (N := some 20) (v := ?_) (a' := ?_) bb60_7 rfl rfl (take_ofW HT_.out HW_.out (by kernel_rfl)) (fun _ _ _ h => h) (Or.inl ⟨by rfl, ?_⟩) hHeld ?_ ?_; rotate_left
    ·rintro w' ⟨s0, s1, s2, s3, s4, s5, s6, s7, s8, s9, s10, s11, s12, s13, s14, s15⟩; go_simp; with_reducible rfl
    rotate_left
    ·simp only [Act.put, ps_]; rfl
    refine take_ (i := 7) (N := some 24) (v := ?_) (a' := ?_) bb60_8 rfl rfl (take_ofW HT_.out HW_.out (by kernel_rfl)) (fun _ _ _ h => h) (Or.inl ⟨by rfl, ?_⟩) hHeld ?_ ?_; rotate_left
    ·rintro w' ⟨s0, s1, s2, s3, s4, s5, s6, s7, s8, s9, s10, s11, s12, s13, s14, s15⟩; go_simp; with_reducible rfl
    rotate_left
    ·simp only [Act.put, ps_]; rfl
    refine one_ (i := 8) (N := some 25) bb60_9 rfl rfl (one_of HT_.out (by kernel_rfl)) (by decide) (fun K hK => ?_); refine goes_ Try.func58 (by kernel_rfl) rfl #[.agg #[.int .i64 ((rd_T72 l0 x5_1).f0), .int .u8 ((rd_T72 l0 x5_1).f1), .string ((rd_T72 l0 x5_1).f2), .int .i64 ((rd_T72 l0 x5_1).f3.f0), .int .i64 ((rd_T72 l0 x5_1).f3.f1), .string ((rd_T72 l0 x5_1).f3.f2), .int .i64 ((rd_T72 l0 x5_1).f4), .int .i64 ((rd_T72 l0 x5_1).f5)], .agg #[.int .i64 ((rd_T72 l1 x5_1).f0), .int .u8 ((rd_T72 l1 x5_1).f1), .string ((rd_T72 l1 x5_1).f2), .int .i64 ((rd_T72 l1 x5_1).f3.f0), .int .i64 ((rd_T72 l1 x5_1).f3.f1), .string ((rd_T72 l1 x5_1).f3.f2), .int .i64 ((rd_T72 l1 x5_1).f4), .int .i64 ((rd_T72 l1 x5_1).f5)]] (by rfl) rfl rfl mw_ ?_; with_reducible refine (laws_eqExpr.calls ((rd_T72 l0 x5_1).f0) ((rd_T72 l0 x5_1).f1) ((rd_T72 l0 x5_1).f2) ((rd_T72 l0 x5_1).f3.f0) ((rd_T72 l0 x5_1).f3.f1) ((rd_T72 l0 x5_1).f3.f2) ((rd_T72 l0 x5_1).f4) ((rd_T72 l0 x5_1).f5) ((rd_T72 l1 x5_1).f0) ((rd_T72 l1 x5_1).f1) ((rd_T72 l1 x5_1).f2) ((rd_T72 l1 x5_1).f3.f0) ((rd_T72 l1 x5_1).f3.f1) ((rd_T72 l1 x5_1).f3.f2) ((rd_T72 l1 x5_1).f4) ((rd_T72 l1 x5_1).f5) true _ A7.out).mono ?_
    rintro e w10 ⟨rfl, hb⟩; refine ⟨_, rfl, ?_⟩; replace HB := ms_ HB hb; (try clear hb); (try clear hb2); (try clear hk); (try clear hi); refine hK.out _ _ ⟨(mx_ HB hw337_0), (mx_ HB hw337_1), (mx_ HB hw337_2), (mx_ HB hw337_3), (mx_ HB hw337_4), (mx_ HB hw337_5), (mx_ HB hw337_6), (mx_ HB hw337_7), (mx_ HB hw338_0), (mx_ HB hw338_1), (mx_ HB hw338_2), (mx_ HB hw338_3), (mx_ HB hw338_4), (mx_ HB hw338_5), (mx_ HB hw338_6), (mx_ HB hw338_7)⟩ (fun hHeld => ?_); clear hK K; refine nm_ 25 ?_; refine pu_ 9 26 bb60_10 (any_of HT_.out (by kernel_rfl)) ?_; refine done_ (done_of HT_.out (by kernel_rfl)) ?_; try go_wp2
    go_roundg k1
    case measure => have := HK1.out; omega
    case rel => exact ⟨(wrap64 (x5_1 + 1)), mq_, H', ⟨by have := HK1.out; omega⟩, ⟨mb_ HB⟩⟩
   ·replace c8 := Bool.eq_false_iff.mpr c8; subst c8; rw [if_neg (show ¬ (false = true) by decide)] at H; exact absurd (Option.some.inj H) (by decide)
  ·rw [if_neg c4] at H; have c4b0 := decide_eq_false c4; clear c4; clear H; go_wp2; go_ret; exact ⟨me_, mb_ HB⟩
 ·rw [if_neg c3] at H; have c3b0 := beq_eq_false_iff_ne.mpr c3; have c3b1 := bne_iff_ne.mpr c3; have c3b2 : (l0.length == l1.length) = false := by first | simpa using c3 | (simp at c3 ⊢; omega)
  exact absurd (Option.some.inj H) (by decide)
end Go.Proofs.Ytejjlkbbnhpbdaa.P
namespace Go.Proofs.Ytejjlkbbnhpbdaa.P
open Go.Proofs.YtejjlkbbnhpbdaaX
open Go.RowKit Go.Proofs.YtejjlkbbnhpbdaaW.PrintWords Go.Proofs.YtejjlkbbnhpbdaaW.PrintLast Go.Proofs.YtejjlkbbnhpbdaaW.PrintMore
attribute [local go_sem] max2_int min2_int max_two min_two max_three min_three max_four min_four
set_option linter.unusedVariables false
set_option linter.unusedSimpArgs false
def laws_eqIntS.l0 : Nat → List Int → List Int → Int → Option (Bool)
 | 0, _, _, _ => none
 | k + 1, x0, x1, x5 => if x5 < (x0.length : Int) then (if 0 ≤ x5 then (if x5 < (x1.length : Int) then (if (rd x0 x5) = (rd x1 x5) then (laws_eqIntS.l0 k x0 x1 (wrap64 (x5 + 1))) else (some false)) else (none)) else (none)) else (some true)
def laws_eqIntS.f (k : Nat) (l0 : List Int) (l1 : List Int) : Option (Bool) := if (l0.length : Int) = (l1.length : Int) then (laws_eqIntS.l0 k l0 l1 0) else (some false)
theorem laws_eqIntS.mono_l : ∀ k, (∀ y0 y1 y2, LeO (laws_eqIntS.l0 k y0 y1 y2) (laws_eqIntS.l0 (k + 1) y0 y1 y2))
 | 0 => fun _ _ _ r h => by simp [laws_eqIntS.l0] at h
 | k + 1 => by
  have ih0 := laws_eqIntS.mono_l k
  ·intro y0 y1 y2; unfold laws_eqIntS.l0
   repeat' with_reducible first | apply ih0 | apply LeO.refl | apply LeO.none | refine LeO.ite ?_ ?_ | refine LeO.bind ?_ (fun _ => ?_)
theorem laws_eqIntS.mono : ∀ a0 a1 k, LeO (laws_eqIntS.f k a0 a1) (laws_eqIntS.f (k + 1) a0 a1) := by
 intro a0 a1 k; have ih0 := laws_eqIntS.mono_l k; unfold laws_eqIntS.f
 repeat' with_reducible first | apply ih0 | apply LeO.refl | apply LeO.none | refine LeO.ite ?_ ?_ | refine LeO.bind ?_ (fun _ => ?_)
set_option maxHeartbeats 8000000 in
set_option maxRecDepth 100000 in
theorem laws_eqIntS.calls (k : Nat) (A0 : Option Addr) (c0 : Nat) (l0 : List Int) (A1 : Option Addr) (c1 : Nat) (l1 : List Int) (r : Bool) (w : World) (hr0 : Kd.C (Kd.int .i64) w A0 l0.length l0) (hc0 : l0.length ≤ c0) (hr1 : Kd.C (Kd.int .i64) w A1 l1.length l1) (hc1 : l1.length ≤ c1) (h : laws_eqIntS.f k l0 l1 = some r) (hT_ : r = true := by first | rfl | assumption) :
  Calls Try.prog 70 #[.slice A0 l0.length c0, .slice A1 l1.length c1] w fun e w' => e = .returned (.bool r) ∧ Drawn0 w w' := by
 subst hT_; have HR0 := a_ hr0; have HC0 := a_ hc0; clear hr0 hc0; have HR1 := a_ hr1; have HC1 := a_ hc1; clear hr1 hc1; have H : (if (l0.length : Int) = (l1.length : Int) then (laws_eqIntS.l0 k l0 l1 0) else (some false)) = some true := h
 clear h; by_cases c3 : (l0.length : Int) = (l1.length : Int)
 ·rw [if_pos c3] at H; have c3b0 := beq_iff_eq.mpr c3; have c3b1 := bne_eq_false_iff_eq.mpr c3; have c3b2 : (l0.length == l1.length) = true := by first | simpa using c3 | (simp at c3 ⊢; omega)
  clear c3; have H' := a_ H; clear H; go_enter Try.func70, Try.ntmps70; go_wp2; repeat (go_quiet (fail); try go_wp2)
  go_loopg [5] k (fun kq v5 w' => ∃ (x5_1 : Int), v5 = .int .i64 x5_1 ∧ Aside0 (laws_eqIntS.l0 kq l0 l1 x5_1 = some true) ∧ Aside0 (kq ≤ k) ∧ Drawn0 w w')
  case atStart => exact ⟨(0), mq_, H', ⟨Nat.le_refl _⟩, by repeat (first | exact Drawn0.refl _ | apply Drawn0.step)⟩
  clear H'; (try clear c3b0); (try clear c3b1); (try clear c3b2); obtain ⟨x5_1, rfl, HA, HK1, ⟨m1, rfl⟩⟩ := hrel; obtain _ | k1 := gk
  ·exact absurd HA.out (by simp [laws_eqIntS.l0])
  have H := HA.out; clear HA; simp only [laws_eqIntS.l0] at H; by_cases c4 : x5_1 < (l0.length : Int)
  ·rw [if_pos c4] at H; have c4b0 := decide_eq_true c4; clear c4; by_cases c5 : 0 ≤ x5_1
   case neg => rw [if_neg c5] at H; cases H
   rw [if_pos c5] at H; have c5b0 := decide_eq_true c5; clear c5; by_cases c6 : x5_1 < (l1.length : Int)
   case neg => rw [if_neg c6] at H; cases H
   rw [if_pos c6] at H; have c6b0 := decide_eq_true c6; clear c6; by_cases c7 : (rd l0 x5_1) = (rd l1 x5_1)
   ·rw [if_pos c7] at H; have c7b0 := beq_iff_eq.mpr c7; have c7b1 := bne_eq_false_iff_eq.mpr c7; clear c7; have H' := a_ H; clear H; have p340 : 0 ≤ (x5_1 : Int) := md_
    have q340 : x5_1 < (l0.length : Int) := md_
    obtain ⟨ad340, e340, hx340_0⟩ := Kd.at_int HR0.out x5_1 p340 q340; cases e340; replace p340 := eq_true p340; replace q340 := eq_true q340; have p341 : 0 ≤ (x5_1 : Int) := md_
    have q341 : x5_1 < (l1.length : Int) := md_
    obtain ⟨ad341, e341, hx341_0⟩ := Kd.at_int HR1.out x5_1 p341 q341; cases e341; replace p341 := eq_true p341; replace q341 := eq_true q341; go_wp2; repeat (go_quiet (fail); try go_wp2)
    go_roundg k1
    case measure => have := HK1.out; omega
    case rel => exact ⟨(wrap64 (x5_1 + 1)), mq_, H', ⟨by have := HK1.out; omega⟩, by repeat (first | exact Drawn0.refl _ | apply Drawn0.step)⟩
   ·rw [if_neg c7] at H; have c7b0 := beq_eq_false_iff_ne.mpr c7; have c7b1 := bne_iff_ne.mpr c7; exact absurd (Option.some.inj H) (by decide)
  ·rw [if_neg c4] at H; have c4b0 := decide_eq_false c4; clear c4; clear H; go_wp2; repeat (go_quiet (fail); try go_wp2)
   go_ret; exact ⟨by first | rfl | (simp; done) | (simp [*]; done), by repeat (first | exact Drawn0.refl _ | apply Drawn0.step)⟩
 ·rw [if_neg c3] at H; have c3b0 := beq_eq_false_iff_ne.mpr c3; have c3b1 := bne_iff_ne.mpr c3; have c3b2 : (l0.length == l1.length) = false := by first | simpa using c3 | (simp at c3 ⊢; omega)
  exact absurd (Option.some.inj H) (by decide)
def laws_eqAction.f (k : Nat) (a0_0 : Int) (a0_1 : Int) (a0_2 : ByteArray) (l0_3 : List Int) (a1_0 : Int) (a1_1 : Int) (a1_2 : ByteArray) (l1_3 : List Int) : Option (Bool) := if a0_0 = a1_0 then (if a0_1 = a1_1 then (if a0_2.toList = a1_2.toList then ((laws_eqIntS.f k l0_3 l1_3).bind fun t344 => (if t344 = true then (some true) else (some false))) else (some false)) else (some false)) else (some false)
theorem laws_eqAction.mono : ∀ a0 a1 a2 a3 a4 a5 a6 a7 k, LeO (laws_eqAction.f k a0 a1 a2 a3 a4 a5 a6 a7) (laws_eqAction.f (k + 1) a0 a1 a2 a3 a4 a5 a6 a7) := by
 intro a0 a1 a2 a3 a4 a5 a6 a7 k; unfold laws_eqAction.f
 repeat' with_reducible first | apply laws_eqIntS.mono | apply LeO.refl | apply LeO.none | refine LeO.ite ?_ ?_ | refine LeO.bind ?_ (fun _ => ?_)
set_option maxHeartbeats 8000000 in
set_option maxRecDepth 100000 in
theorem laws_eqAction.calls (k : Nat) (a0_0 : Int) (a0_1 : Int) (a0_2 : ByteArray) (A0_3 : Option Addr) (c0_3 : Nat) (l0_3 : List Int) (a1_0 : Int) (a1_1 : Int) (a1_2 : ByteArray) (A1_3 : Option Addr) (c1_3 : Nat) (l1_3 : List Int) (r : Bool) (w : World) (hr0_3 : Kd.C (Kd.int .i64) w A0_3 l0_3.length l0_3) (hc0_3 : l0_3.length ≤ c0_3) (hr1_3 : Kd.C (Kd.int .i64) w A1_3 l1_3.length l1_3) (hc1_3 : l1_3.length ≤ c1_3) (h : laws_eqAction.f k a0_0 a0_1 a0_2 l0_3 a1_0 a1_1 a1_2 l1_3 = some r) (hT_ : r = true := by first | rfl | assumption) :
  Calls Try.prog 59 #[.agg #[.int .i64 a0_0, .int .i64 a0_1, .string a0_2, .slice A0_3 l0_3.length c0_3], .agg #[.int .i64 a1_0, .int .i64 a1_1, .string a1_2, .slice A1_3 l1_3.length c1_3]] w fun e w' => e = .returned (.bool r) ∧ Below w.heap.size w w' := by
 subst hT_; have hu46 := Try.underlying46; have HR0_3 := a_ hr0_3; have HC0_3 := a_ hc0_3; clear hr0_3 hc0_3; have HR1_3 := a_ hr1_3; have HC1_3 := a_ hc1_3; clear hr1_3 hc1_3; have HB := a_ (Below.refl w.heap.size w); have H : (if a0_0 = a1_0 then (if a0_1 = a1_1 then (if a0_2.toList = a1_2.toList then ((laws_eqIntS.f k l0_3 l1_3).bind fun t344 => (if t344 = true then (some true) else (some false))) else (some false)) else (some false)) else (some false)) = some true := h
 clear h; by_cases c3 : a0_0 = a1_0
 ·rw [if_pos c3] at H; have c3b0 := beq_iff_eq.mpr c3; have c3b1 := bne_eq_false_iff_eq.mpr c3; clear c3; by_cases c4 : a0_1 = a1_1
  ·rw [if_pos c4] at H; have c4b0 := beq_iff_eq.mpr c4; have c4b1 := bne_eq_false_iff_eq.mpr c4; clear c4; by_cases c5 : a0_2.toList = a1_2.toList
   ·rw [if_pos c5] at H; have c5b0 := beq_iff_eq.mpr c5; have c5b1 := bne_eq_false_iff_eq.mpr c5; clear c5; replace H := Option.bind_eq_some_iff.mp H; obtain ⟨t344, A60, H⟩ := H; have A6 := a_ A60; clear A60; by_cases c7 : t344 = true
    ·subst c7; rw [if_pos rfl] at H; clear H; go_enter Try.func59, Try.ntmps59; go_wp2_with (first | ((with_reducible refine gate_dst (N := 2) rfl ?_); refine bx_ 2 #[.int .i64 a0_0, .int .i64 a0_1, .string a0_2, .slice A0_3 l0_3.length c0_3] 46 ?_; intro gb342 hg w8 hbox hb; have BK342 := a_ (hbox); have GE342 := mg_ HB hg; replace HB := ms_ HB hb; clear hb hbox hg) | ((with_reducible refine gate_dst (N := 3) rfl ?_); refine bx_ 3 #[.int .i64 a1_0, .int .i64 a1_1, .string a1_2, .slice A1_3 l1_3.length c1_3] 46 ?_; intro gb343 hg w9 hbox hb; have BK343 := a_ (hbox); have GE343 := mg_ HB hg; have NB342_343 := ml_ BK342 hg; have NB343_342 := mr_ BK342 hg; replace BK342 := mk_ BK342 hb; replace HB := ms_ HB hb; clear hb hbox hg; have hnb10 := NB342_343.out; have hnc10 := NB343_342.out; obtain ⟨z11_0, z11_1, z11_2, z11_3, zf11_0, zf11_1, zf11_2, zf11_3⟩ := cz4 BK342; obtain ⟨z12_0, z12_1, z12_2, z12_3, zf12_0, zf12_1, zf12_2, zf12_3⟩ := cz4 BK343) | ((with_reducible refine gate_callee (f := 70) rfl ?_); refine goesL_ (some 24) rfl rfl Try.func70 (by kernel_rfl) rfl #[.slice A0_3 l0_3.length c0_3, .slice A1_3 l1_3.length c1_3] rfl mw_ ?_; (with_reducible refine (laws_eqIntS.calls k _ _ l0_3 _ _ l1_3 true _ ?side1 ?side2 ?side3 ?side4 A6.out).mono ?_); (case side1 => repeat (first | exact (Kd.C_below HR0_3.out HB.out) | (with_reducible refine Kd.C_alloc ?_ _) | (with_reducible refine Kd.C_drewN ?_ _) | (with_reducible refine Kd.C_drew ?_))); (case side2 => exact HC0_3.out); (case side3 => repeat (first | exact (Kd.C_below HR1_3.out HB.out) | (with_reducible refine Kd.C_alloc ?_ _) | (with_reducible refine Kd.C_drewN ?_ _) | (with_reducible refine Kd.C_drew ?_))); (case side4 => exact HC1_3.out); rintro e w' ⟨rfl, ⟨nd, rfl⟩⟩; refine ⟨_, rfl, ?_⟩)); go_ret; exact ⟨me_, mb_ HB⟩
    ·replace c7 := Bool.eq_false_iff.mpr c7; subst c7; rw [if_neg (show ¬ (false = true) by decide)] at H; exact absurd (Option.some.inj H) (by decide)
   ·rw [if_neg c5] at H; have c5b0 := beq_eq_false_iff_ne.mpr c5; have c5b1 := bne_iff_ne.mpr c5; exact absurd (Option.some.inj H) (by decide)
  ·rw [if_neg c4] at H; have c4b0 := beq_eq_false_iff_ne.mpr c4; have c4b1 := bne_iff_ne.mpr c4; exact absurd (Option.some.inj H) (by decide)
 ·rw [if_neg c3] at H; have c3b0 := beq_eq_false_iff_ne.mpr c3; have c3b1 := bne_iff_ne.mpr c3; exact absurd (Option.some.inj H) (by decide)
def laws_eqActionS.l0 : Nat → List (S46) → List (S46) → Int → Option (Bool)
 | 0, _, _, _ => none
 | k + 1, x0, x1, x5 => if x5 < (x0.length : Int) then (if 0 ≤ x5 then (if x5 < (x1.length : Int) then ((laws_eqAction.f k ((rd_T46 x0 x5).f0) ((rd_T46 x0 x5).f1) ((rd_T46 x0 x5).f2) ((rd_T46 x0 x5).f3) ((rd_T46 x1 x5).f0) ((rd_T46 x1 x5).f1) ((rd_T46 x1 x5).f2) ((rd_T46 x1 x5).f3)).bind fun t347 => (if t347 = true then (laws_eqActionS.l0 k x0 x1 (wrap64 (x5 + 1))) else (some false))) else (none)) else (none)) else (some true)
def laws_eqActionS.f (k : Nat) (l0 : List (S46)) (l1 : List (S46)) : Option (Bool) := if (l0.length : Int) = (l1.length : Int) then (laws_eqActionS.l0 k l0 l1 0) else (some false)
theorem laws_eqActionS.mono_l : ∀ k, (∀ y0 y1 y2, LeO (laws_eqActionS.l0 k y0 y1 y2) (laws_eqActionS.l0 (k + 1) y0 y1 y2))
 | 0 => fun _ _ _ r h => by simp [laws_eqActionS.l0] at h
 | k + 1 => by
  have ih0 := laws_eqActionS.mono_l k
  ·intro y0 y1 y2; unfold laws_eqActionS.l0
   repeat' with_reducible first | apply ih0 | apply laws_eqAction.mono | apply LeO.refl | apply LeO.none | refine LeO.ite ?_ ?_ | refine LeO.bind ?_ (fun _ => ?_)
theorem laws_eqActionS.mono : ∀ a0 a1 k, LeO (laws_eqActionS.f k a0 a1) (laws_eqActionS.f (k + 1) a0 a1) := by
 intro a0 a1 k; have ih0 := laws_eqActionS.mono_l k; unfold laws_eqActionS.f
 repeat' with_reducible first | apply ih0 | apply laws_eqAction.mono | apply LeO.refl | apply LeO.none | refine LeO.ite ?_ ?_ | refine LeO.bind ?_ (fun _ => ?_)
def laws_eqActionS.T6 : Bool × List (List Nat × List Nat) := (true, [([], []), ([], []), ([0, 1], [0, 1]), ([2], [2]), ([], []), ([], []), ([4, 5], [4, 5]), ([6], [6]), ([3, 7], [3, 7]), ([8], [8])])
def laws_eqActionS.B6 : List Nat := [0, 0, 3, 7, 0, 0, 48, 112, 255, 511]
theorem laws_eqActionS.tab6 : rtab .any (opsOf Try.f38 6) = laws_eqActionS.T6 := by kernel_rfl
theorem laws_eqActionS.bits6 : waitsOk laws_eqActionS.T6.2 laws_eqActionS.B6 = true := by kernel_rfl
abbrev b824_0 : Array Bool := #[false, false, false, false, false, false, false, false, false, false]
abbrev b824_1 : Array Bool := #[true, false, false, false, false, false, false, false, false, false]
abbrev b824_2 : Array Bool := #[true, true, false, false, false, false, false, false, false, false]
abbrev b824_3 : Array Bool := #[true, true, true, false, false, false, false, false, false, false]
abbrev b824_4 : Array Bool := #[true, true, true, false, true, false, false, false, false, false]
abbrev b824_5 : Array Bool := #[true, true, true, false, true, true, false, false, false, false]
abbrev b824_6 : Array Bool := #[true, true, true, false, true, true, true, false, false, false]
abbrev b824_7 : Array Bool := #[true, true, true, true, true, true, true, false, false, false]
abbrev b824_8 : Array Bool := #[true, true, true, true, true, true, true, true, false, false]
abbrev b824_9 : Array Bool := #[true, true, true, true, true, true, true, true, true, false]
abbrev b824_10 : Array Bool := #[true, true, true, true, true, true, true, true, true, true]
set_option maxHeartbeats 8000000 in
set_option maxRecDepth 100000 in
theorem laws_eqActionS.calls (k : Nat) (A0 : Option Addr) (c0 : Nat) (l0 : List (S46)) (A1 : Option Addr) (c1 : Nat) (l1 : List (S46)) (r : Bool) (w : World) (hr0 : Kd.C k46 w A0 l0.length l0) (hc0 : l0.length ≤ c0) (hr1 : Kd.C k46 w A1 l1.length l1) (hc1 : l1.length ≤ c1) (h : laws_eqActionS.f k l0 l1 = some r) (hT_ : r = true := by first | rfl | assumption) :
  Calls Try.prog 38 #[.slice A0 l0.length c0, .slice A1 l1.length c1] w fun e w' => e = .returned (.bool r) ∧ Below w.heap.size w w' := by
 subst hT_; have hu46 := Try.underlying46; have HR0 := a_ hr0; have HC0 := a_ hc0; clear hr0 hc0; have HR1 := a_ hr1; have HC1 := a_ hc1; clear hr1 hc1; have HB := a_ (Below.refl w.heap.size w); have H : (if (l0.length : Int) = (l1.length : Int) then (laws_eqActionS.l0 k l0 l1 0) else (some false)) = some true := h
 clear h; by_cases c3 : (l0.length : Int) = (l1.length : Int)
 ·rw [if_pos c3] at H; have c3b0 := beq_iff_eq.mpr c3; have c3b1 := bne_eq_false_iff_eq.mpr c3; have c3b2 : (l0.length == l1.length) = true := by first | simpa using c3 | (simp at c3 ⊢; omega)
  clear c3; have H' := a_ H; clear H; go_enter Try.func38, Try.ntmps38; go_wp2; go_loopg [5] k (fun kq v5 w' => ∃ (x5_1 : Int), v5 = .int .i64 x5_1 ∧ Aside0 (laws_eqActionS.l0 kq l0 l1 x5_1 = some true) ∧ Aside0 (kq ≤ k) ∧ Aside0 (Below w.heap.size w w'))
  case atStart => exact ⟨(0), mq_, H', ⟨Nat.le_refl _⟩, ⟨mb_ HB⟩⟩
  clear H'; (try clear c3b0); (try clear c3b1); (try clear c3b2); obtain ⟨x5_1, rfl, HA, HK1, HB⟩ := hrel; obtain _ | k1 := gk
  ·exact absurd HA.out (by simp [laws_eqActionS.l0])
  have H := HA.out; clear HA; simp only [laws_eqActionS.l0] at H; by_cases c4 : x5_1 < (l0.length : Int)
  ·rw [if_pos c4] at H; have c4b0 := decide_eq_true c4; clear c4; by_cases c5 : 0 ≤ x5_1
   case neg => rw [if_neg c5] at H; cases H
   rw [if_pos c5] at H; have c5b0 := decide_eq_true c5; clear c5; by_cases c6 : x5_1 < (l1.length : Int)
   case neg => rw [if_neg c6] at H; cases H
   rw [if_pos c6] at H; have c6b0 := decide_eq_true c6; clear c6; replace H := Option.bind_eq_some_iff.mp H; obtain ⟨t347, A70, H⟩ := H; have A7 := a_ A70; clear A70; by_cases c8 : t347 = true
   ·subst c8; rw [if_pos rfl] at H; have H' := a_ H; clear H; try go_wp2
    replace HB := a_ (below_drew1 HB.out); have p345 : 0 ≤ (x5_1 : Int) := md_
    have q345 : x5_1 < (l0.length : Int) := md_
    obtain ⟨ad345, A345_3, c345_3, e345, hx345_0, hx345_1, hx345_2, hx345_3, hl345_3, hi345_3⟩ := at_T46 HR0.out x5_1 p345 q345; have hw345_3 := hx345_3; have hw345_2 := hx345_2; have hw345_1 := hx345_1; have hw345_0 := hx345_0; cases e345; replace hx345_0 := mx_ HB hx345_0; replace hx345_1 := mx_ HB hx345_1; replace hx345_2 := mx_ HB hx345_2; replace hx345_3 := mx_ HB hx345_3; have HR345_3 := a_ hi345_3; have HC345_3 := a_ hl345_3; clear hi345_3 hl345_3; replace p345 := eq_true p345; replace q345 := eq_true q345; have p346 : 0 ≤ (x5_1 : Int) := md_
    have q346 : x5_1 < (l1.length : Int) := md_
    obtain ⟨ad346, A346_3, c346_3, e346, hx346_0, hx346_1, hx346_2, hx346_3, hl346_3, hi346_3⟩ := at_T46 HR1.out x5_1 p346 q346; have hw346_3 := hx346_3; have hw346_2 := hx346_2; have hw346_1 := hx346_1; have hw346_0 := hx346_0; cases e346; replace hx346_0 := mx_ HB hx346_0; replace hx346_1 := mx_ HB hx346_1; replace hx346_2 := mx_ HB hx346_2; replace hx346_3 := mx_ HB hx346_3; have HR346_3 := a_ hi346_3; have HC346_3 := a_ hl346_3; clear hi346_3 hl346_3; replace p346 := eq_true p346; replace q346 := eq_true q346; refine start_ (n := 10) (S := fun w' => w'.cell? (ad345.add ((x5_1).toNat * 4)) = some (.int .i64 ((rd_T46 l0 x5_1).f0)) ∧ w'.cell? ⟨(ad345.add ((x5_1).toNat * 4)).block, (ad345.add ((x5_1).toNat * 4)).off + 1, none⟩ = some (.int .i64 ((rd_T46 l0 x5_1).f1)) ∧ w'.cell? ⟨(ad345.add ((x5_1).toNat * 4)).block, (ad345.add ((x5_1).toNat * 4)).off + 2, none⟩ = some (.string ((rd_T46 l0 x5_1).f2)) ∧ w'.cell? ⟨(ad345.add ((x5_1).toNat * 4)).block, (ad345.add ((x5_1).toNat * 4)).off + 3, none⟩ = some (.slice A345_3 ((rd_T46 l0 x5_1).f3).length c345_3) ∧ w'.cell? (ad346.add ((x5_1).toNat * 4)) = some (.int .i64 ((rd_T46 l1 x5_1).f0)) ∧ w'.cell? ⟨(ad346.add ((x5_1).toNat * 4)).block, (ad346.add ((x5_1).toNat * 4)).off + 1, none⟩ = some (.int .i64 ((rd_T46 l1 x5_1).f1)) ∧ w'.cell? ⟨(ad346.add ((x5_1).toNat * 4)).block, (ad346.add ((x5_1).toNat * 4)).off + 2, none⟩ = some (.string ((rd_T46 l1 x5_1).f2)) ∧ w'.cell? ⟨(ad346.add ((x5_1).toNat * 4)).block, (ad346.add ((x5_1).toNat * 4)).off + 3, none⟩ = some (.slice A346_3 ((rd_T46 l1 x5_1).f3).length c346_3)) (ds := []) b824_0 (by kernel_rfl) rfl rfl ⟨(mx_ HB hw345_0), (mx_ HB hw345_1), (mx_ HB hw345_2), (mx_ HB hw345_3), (mx_ HB hw346_0), (mx_ HB hw346_1), (mx_ HB hw346_2), (mx_ HB hw346_3)⟩ (fun hHeld => ?_); refine with_tabW laws_eqActionS.tab6 laws_eqActionS.bits6 (fun HT_ HW_ => ?_); generalize wr.drew = w9 at HB HR345_3 HR346_3 hx345_0 hx345_1 hx345_2 hx345_3 hx346_0 hx346_1 hx346_2 hx346_3 hHeld ⊢; refine pu_ 0 17 b824_1 (any_of HT_.out (by kernel_rfl)) ?_; refine pu_ 1 18 b824_2 (any_of HT_.out (by kernel_rfl)) ?_; refine pu_ 2 19 b824_3 (any_of HT_.out (by kernel_rfl)) ?_; refine pu_ 4 21 b824_4 (any_of HT_.out (by kernel_rfl)) ?_; refine pu_ 5 22 b824_5 (any_of HT_.out (by kernel_rfl)) ?_; refine pu_ 6 23 b824_6 (any_of HT_.out (by kernel_rfl)) ?_; refine take_ (i := 3) (N := some 20) (v := ?_) (a' := ?_) b824_7 rfl rfl (take_ofW HT_.out HW_.out (by kernel_rfl)) (fun _ _ _ h => h) (Or.inl ⟨by rfl, ?_⟩) hHeld ?_ ?_
    rotate_left
    ·rintro w' ⟨s0, s1, s2, s3, s4, s5, s6, s7⟩; go_simp; with_reducible rfl
    rotate_left
    ·simp only [Act.put, ps_]; rfl
    refine take_ (i := 7) (N := some 24) (v := ?_) (a' := ?_) b824_8 rfl rfl (take_ofW HT_.out HW_.out (by kernel_rfl)) (fun _ _ _ h => h) (Or.inl ⟨by rfl, ?_⟩) hHeld ?_ ?_; rotate_left
    ·rintro w' ⟨s0, s1, s2, s3, s4, s5, s6, s7⟩; go_simp; with_reducible rfl
    rotate_left
    ·simp only [Act.put, ps_]; rfl
    refine one_ (i := 8) (N := some 25) b824_9 rfl rfl (one_of HT_.out (by kernel_rfl)) (by decide) (fun K hK => ?_); refine goes_ Try.func59 (by kernel_rfl) rfl #[.agg #[.int .i64 ((rd_T46 l0 x5_1).f0), .int .i64 ((rd_T46 l0 x5_1).f1), .string ((rd_T46 l0 x5_1).f2), .slice A345_3 ((rd_T46 l0 x5_1).f3).length c345_3], .agg #[.int .i64 ((rd_T46 l1 x5_1).f0), .int .i64 ((rd_T46 l1 x5_1).f1), .string ((rd_T46 l1 x5_1).f2), .slice A346_3 ((rd_T46 l1 x5_1).f3).length c346_3]] (by rfl) rfl rfl mw_ ?_; with_reducible refine (laws_eqAction.calls k1 ((rd_T46 l0 x5_1).f0) ((rd_T46 l0 x5_1).f1) ((rd_T46 l0 x5_1).f2) _ _ ((rd_T46 l0 x5_1).f3) ((rd_T46 l1 x5_1).f0) ((rd_T46 l1 x5_1).f1) ((rd_T46 l1 x5_1).f2) _ _ ((rd_T46 l1 x5_1).f3) true _ ?side1 ?side2 ?side3 ?side4 A7.out).mono ?_
    (case side1 => repeat (first | exact (Kd.C_below HR345_3.out HB.out) | (with_reducible refine Kd.C_alloc ?_ _) | (with_reducible refine Kd.C_drewN ?_ _) | (with_reducible refine Kd.C_drew ?_)))
    (case side2 => exact HC345_3.out)
    (case side3 => repeat (first | exact (Kd.C_below HR346_3.out HB.out) | (with_reducible refine Kd.C_alloc ?_ _) | (with_reducible refine Kd.C_drewN ?_ _) | (with_reducible refine Kd.C_drew ?_)))
    (case side4 => exact HC346_3.out)
    rintro e w10 ⟨rfl, hb⟩; refine ⟨_, rfl, ?_⟩; replace HB := ms_ HB hb; (try clear hb); (try clear hb2); (try clear hk); (try clear hi); refine hK.out _ _ ⟨(mx_ HB hw345_0), (mx_ HB hw345_1), (mx_ HB hw345_2), (mx_ HB hw345_3), (mx_ HB hw346_0), (mx_ HB hw346_1), (mx_ HB hw346_2), (mx_ HB hw346_3)⟩ (fun hHeld => ?_); clear hK K; refine nm_ 25 ?_; refine pu_ 9 26 b824_10 (any_of HT_.out (by kernel_rfl)) ?_; refine done_ (done_of HT_.out (by kernel_rfl)) ?_; try go_wp2
    go_roundg k1
    case measure => have := HK1.out; omega
    case rel => exact ⟨(wrap64 (x5_1 + 1)), mq_, H', ⟨by have := HK1.out; omega⟩, ⟨mb_ HB⟩⟩
   ·replace c8 := Bool.eq_false_iff.mpr c8; subst c8; rw [if_neg (show ¬ (false = true) by decide)] at H; exact absurd (Option.some.inj H) (by decide)
  ·rw [if_neg c4] at H; have c4b0 := decide_eq_false c4; clear c4; clear H; go_wp2; go_ret; exact ⟨me_, mb_ HB⟩
 ·rw [if_neg c3] at H; have c3b0 := beq_eq_false_iff_ne.mpr c3; have c3b1 := bne_iff_ne.mpr c3; have c3b2 : (l0.length == l1.length) = false := by first | simpa using c3 | (simp at c3 ⊢; omega)
  exact absurd (Option.some.inj H) (by decide)
def laws_eqRule.f (k : Nat) (a0_0 : ByteArray) (a0_1 : Int) (l0_2 : List (S59)) (l0_3 : List (S72)) (l0_4 : List (S46)) (a1_0 : ByteArray) (a1_1 : Int) (l1_2 : List (S59)) (l1_3 : List (S72)) (l1_4 : List (S46)) : Option (Bool) := if a0_0.toList = a1_0.toList then (if a0_1 = a1_1 then ((laws_eqPatternS.f k l0_2 l1_2).bind fun t350 => (if t350 = true then ((laws_eqExprS.f k l0_3 l1_3).bind fun t351 => (if t351 = true then ((laws_eqActionS.f k l0_4 l1_4).bind fun t352 => (if t352 = true then (some true) else (some false))) else (some false))) else (some false))) else (some false)) else (some false)
theorem laws_eqRule.mono : ∀ a0 a1 a2 a3 a4 a5 a6 a7 a8 a9 k, LeO (laws_eqRule.f k a0 a1 a2 a3 a4 a5 a6 a7 a8 a9) (laws_eqRule.f (k + 1) a0 a1 a2 a3 a4 a5 a6 a7 a8 a9) := by
 intro a0 a1 a2 a3 a4 a5 a6 a7 a8 a9 k; unfold laws_eqRule.f
 repeat' with_reducible first | apply laws_eqActionS.mono | apply laws_eqExprS.mono | apply laws_eqPatternS.mono | apply LeO.refl | apply LeO.none | refine LeO.ite ?_ ?_ | refine LeO.bind ?_ (fun _ => ?_)
set_option maxHeartbeats 8000000 in
set_option maxRecDepth 100000 in
theorem laws_eqRule.calls (k : Nat) (a0_0 : ByteArray) (a0_1 : Int) (A0_2 : Option Addr) (c0_2 : Nat) (l0_2 : List (S59)) (A0_3 : Option Addr) (c0_3 : Nat) (l0_3 : List (S72)) (A0_4 : Option Addr) (c0_4 : Nat) (l0_4 : List (S46)) (a1_0 : ByteArray) (a1_1 : Int) (A1_2 : Option Addr) (c1_2 : Nat) (l1_2 : List (S59)) (A1_3 : Option Addr) (c1_3 : Nat) (l1_3 : List (S72)) (A1_4 : Option Addr) (c1_4 : Nat) (l1_4 : List (S46)) (r : Bool) (w : World) (hr0_2 : Kd.C k59 w A0_2 l0_2.length l0_2) (hc0_2 : l0_2.length ≤ c0_2) (hr0_3 : Kd.C k72 w A0_3 l0_3.length l0_3) (hc0_3 : l0_3.length ≤ c0_3) (hr0_4 : Kd.C k46 w A0_4 l0_4.length l0_4) (hc0_4 : l0_4.length ≤ c0_4) (hr1_2 : Kd.C k59 w A1_2 l1_2.length l1_2) (hc1_2 : l1_2.length ≤ c1_2) (hr1_3 : Kd.C k72 w A1_3 l1_3.length l1_3) (hc1_3 : l1_3.length ≤ c1_3) (hr1_4 : Kd.C k46 w A1_4 l1_4.length l1_4) (hc1_4 : l1_4.length ≤ c1_4) (h : laws_eqRule.f k a0_0 a0_1 l0_2 l0_3 l0_4 a1_0 a1_1 l1_2 l1_3 l1_4 = some r) (hT_ : r = true := by first | rfl | assumption) :
  Calls Try.prog 19 #[.agg #[.string a0_0, .int .i64 a0_1, .slice A0_2 l0_2.length c0_2, .slice A0_3 l0_3.length c0_3, .slice A0_4 l0_4.length c0_4], .agg #[.string a1_0, .int .i64 a1_1, .slice A1_2 l1_2.length c1_2, .slice A1_3 l1_3.length c1_3, .slice A1_4 l1_4.length c1_4]] w fun e w' => e = .returned (.bool r) ∧ Below w.heap.size w w' := by
 subst hT_; have hu42 := Try.underlying42; have HR0_2 := a_ hr0_2; have HC0_2 := a_ hc0_2; clear hr0_2 hc0_2; have HR0_3 := a_ hr0_3; have HC0_3 := a_ hc0_3; clear hr0_3 hc0_3; have HR0_4 := a_ hr0_4; have HC0_4 := a_ hc0_4; clear hr0_4 hc0_4; have HR1_2 := a_ hr1_2; have HC1_2 := a_ hc1_2; clear hr1_2 hc1_2; have HR1_3 := a_ hr1_3; have HC1_3 := a_ hc1_3; clear hr1_3 hc1_3; have HR1_4 := a_ hr1_4; have HC1_4 := a_ hc1_4; clear hr1_4 hc1_4; have HB := a_ (Below.refl w.heap.size w); have H : (if a0_0.toList = a1_0.toList then (if a0_1 = a1_1 then ((laws_eqPatternS.f k l0_2 l1_2).bind fun t350 => (if t350 = true then ((laws_eqExprS.f k l0_3 l1_3).bind fun t351 => (if t351 = true then ((laws_eqActionS.f k l0_4 l1_4).bind fun t352 => (if t352 = true then (some true) else (some false))) else (some false))) else (some false))) else (some false)) else (some false)) = some true := h
 clear h; by_cases c3 : a0_0.toList = a1_0.toList
 ·rw [if_pos c3] at H; have c3b0 := beq_iff_eq.mpr c3; have c3b1 := bne_eq_false_iff_eq.mpr c3; clear c3; by_cases c4 : a0_1 = a1_1
  ·rw [if_pos c4] at H; have c4b0 := beq_iff_eq.mpr c4; have c4b1 := bne_eq_false_iff_eq.mpr c4; clear c4; replace H := Option.bind_eq_some_iff.mp H; obtain ⟨t350, A50, H⟩ := H; have A5 := a_ A50; clear A50; by_cases c6 : t350 = true
   ·subst c6; rw [if_pos rfl] at H; replace H := Option.bind_eq_some_iff.mp H; obtain ⟨t351, A70, H⟩ := H; have A7 := a_ A70; clear A70; by_cases c8 : t351 = true
    ·subst c8; rw [if_pos rfl] at H; replace H := Option.bind_eq_some_iff.mp H; obtain ⟨t352, A90, H⟩ := H; have A9 := a_ A90; clear A90; by_cases c10 : t352 = true
     ·subst c10; rw [if_pos rfl] at H; clear H; go_enter Try.func19, Try.ntmps19; go_wp2_with (first | ((with_reducible refine gate_dst (N := 2) rfl ?_); refine bx_ 2 #[.string a0_0, .int .i64 a0_1, .slice A0_2 l0_2.length c0_2, .slice A0_3 l0_3.length c0_3, .slice A0_4 l0_4.length c0_4] 42 ?_; intro gb348 hg w11 hbox hb; have BK348 := a_ (hbox); have GE348 := mg_ HB hg; replace HB := ms_ HB hb; clear hb hbox hg) | ((with_reducible refine gate_dst (N := 3) rfl ?_); refine bx_ 3 #[.string a1_0, .int .i64 a1_1, .slice A1_2 l1_2.length c1_2, .slice A1_3 l1_3.length c1_3, .slice A1_4 l1_4.length c1_4] 42 ?_; intro gb349 hg w12 hbox hb; have BK349 := a_ (hbox); have GE349 := mg_ HB hg; have NB348_349 := ml_ BK348 hg; have NB349_348 := mr_ BK348 hg; replace BK348 := mk_ BK348 hb; replace HB := ms_ HB hb; clear hb hbox hg; have hnb13 := NB348_349.out; have hnc13 := NB349_348.out; obtain ⟨z14_0, z14_1, z14_2, z14_3, z14_4, zf14_0, zf14_1, zf14_2, zf14_3, zf14_4⟩ := cz5 BK348; obtain ⟨z15_0, z15_1, z15_2, z15_3, z15_4, zf15_0, zf15_1, zf15_2, zf15_3, zf15_4⟩ := cz5 BK349) | ((with_reducible refine gate_callee (f := 36) rfl ?_); refine goesL_ (some 19) rfl rfl Try.func36 (by kernel_rfl) rfl #[.slice A0_2 l0_2.length c0_2, .slice A1_2 l1_2.length c1_2] rfl mw_ ?_; (with_reducible refine (laws_eqPatternS.calls k _ _ l0_2 _ _ l1_2 true _ ?side1 ?side2 ?side3 ?side4 A5.out).mono ?_); (case side1 => repeat (first | exact (Kd.C_below HR0_2.out HB.out) | (with_reducible refine Kd.C_alloc ?_ _) | (with_reducible refine Kd.C_drewN ?_ _) | (with_reducible refine Kd.C_drew ?_))); (case side2 => exact HC0_2.out); (case side3 => repeat (first | exact (Kd.C_below HR1_2.out HB.out) | (with_reducible refine Kd.C_alloc ?_ _) | (with_reducible refine Kd.C_drewN ?_ _) | (with_reducible refine Kd.C_drew ?_))); (case side4 => exact HC1_2.out); rintro e w16 ⟨rfl, hb⟩; refine ⟨_, rfl, ?_⟩; replace BK348 := mk_ BK348 hb; replace BK349 := mk_ BK349 hb; replace HB := ms_ HB hb; (try clear hb); (try clear hb2); (try clear hk); (try clear hi); obtain ⟨z17_0, z17_1, z17_2, z17_3, z17_4, zf17_0, zf17_1, zf17_2, zf17_3, zf17_4⟩ := cz5 BK348; obtain ⟨z18_0, z18_1, z18_2, z18_3, z18_4, zf18_0, zf18_1, zf18_2, zf18_3, zf18_4⟩ := cz5 BK349) | ((with_reducible refine gate_callee (f := 37) rfl ?_); refine goesL_ (some 25) rfl rfl Try.func37 (by kernel_rfl) rfl #[.slice A0_3 l0_3.length c0_3, .slice A1_3 l1_3.length c1_3] rfl mw_ ?_; (with_reducible refine (laws_eqExprS.calls k _ _ l0_3 _ _ l1_3 true _ ?side1 ?side2 ?side3 ?side4 A7.out).mono ?_); (case side1 => repeat (first | exact (Kd.C_below HR0_3.out HB.out) | (with_reducible refine Kd.C_alloc ?_ _) | (with_reducible refine Kd.C_drewN ?_ _) | (with_reducible refine Kd.C_drew ?_))); (case side2 => exact HC0_3.out); (case side3 => repeat (first | exact (Kd.C_below HR1_3.out HB.out) | (with_reducible refine Kd.C_alloc ?_ _) | (with_reducible refine Kd.C_drewN ?_ _) | (with_reducible refine Kd.C_drew ?_))); (case side4 => exact HC1_3.out); rintro e w19 ⟨rfl, hb⟩; refine ⟨_, rfl, ?_⟩; replace BK348 := mk_ BK348 hb; replace BK349 := mk_ BK349 hb; replace HB := ms_ HB hb; (try clear hb); (try clear hb2); (try clear hk); (try clear hi); obtain ⟨z20_0, z20_1, z20_2, z20_3, z20_4, zf20_0, zf20_1, zf20_2, zf20_3, zf20_4⟩ := cz5 BK348; obtain ⟨z21_0, z21_1, z21_2, z21_3, z21_4, zf21_0, zf21_1, zf21_2, zf21_3, zf21_4⟩ := cz5 BK349) | ((with_reducible refine gate_callee (f := 38) rfl ?_); refine goesL_ (some 31) rfl rfl Try.func38 (by kernel_rfl) rfl #[.slice A0_4 l0_4.length c0_4, .slice A1_4 l1_4.length c1_4] rfl mw_ ?_; (with_reducible refine (laws_eqActionS.calls k _ _ l0_4 _ _ l1_4 true _ ?side1 ?side2 ?side3 ?side4 A9.out).mono ?_); (case side1 => repeat (first | exact (Kd.C_below HR0_4.out HB.out) | (with_reducible refine Kd.C_alloc ?_ _) | (with_reducible refine Kd.C_drewN ?_ _) | (with_reducible refine Kd.C_drew ?_))); (case side2 => exact HC0_4.out); (case side3 => repeat (first | exact (Kd.C_below HR1_4.out HB.out) | (with_reducible refine Kd.C_alloc ?_ _) | (with_reducible refine Kd.C_drewN ?_ _) | (with_reducible refine Kd.C_drew ?_))); (case side4 => exact HC1_4.out); rintro e w22 ⟨rfl, hb⟩; refine ⟨_, rfl, ?_⟩; replace BK348 := mk_ BK348 hb; replace BK349 := mk_ BK349 hb; replace HB := ms_ HB hb; (try clear hb); (try clear hb2); (try clear hk); (try clear hi)))
      go_ret; exact ⟨me_, mb_ HB⟩
     ·replace c10 := Bool.eq_false_iff.mpr c10; subst c10; rw [if_neg (show ¬ (false = true) by decide)] at H; exact absurd (Option.some.inj H) (by decide)
    ·replace c8 := Bool.eq_false_iff.mpr c8; subst c8; rw [if_neg (show ¬ (false = true) by decide)] at H; exact absurd (Option.some.inj H) (by decide)
   ·replace c6 := Bool.eq_false_iff.mpr c6; subst c6; rw [if_neg (show ¬ (false = true) by decide)] at H; exact absurd (Option.some.inj H) (by decide)
  ·rw [if_neg c4] at H; have c4b0 := beq_eq_false_iff_ne.mpr c4; have c4b1 := bne_iff_ne.mpr c4; exact absurd (Option.some.inj H) (by decide)
 ·rw [if_neg c3] at H; have c3b0 := beq_eq_false_iff_ne.mpr c3; have c3b1 := bne_iff_ne.mpr c3; exact absurd (Option.some.inj H) (by decide)
end Go.Proofs.Ytejjlkbbnhpbdaa.P
namespace Go.Proofs.Ytejjlkbbnhpbdaa.P
open Go.Proofs.YtejjlkbbnhpbdaaX
open Go.RowKit Go.Proofs.YtejjlkbbnhpbdaaW.PrintWords Go.Proofs.YtejjlkbbnhpbdaaW.PrintLast Go.Proofs.YtejjlkbbnhpbdaaW.PrintMore
attribute [local go_sem] max2_int min2_int max_two min_two max_three min_three max_four min_four
set_option linter.unusedVariables false
set_option linter.unusedSimpArgs false
def laws_eqRuleS.l0 : Nat → List (S42) → List (S42) → Int → Option (Bool)
 | 0, _, _, _ => none
 | k + 1, x0, x1, x5 => if x5 < (x0.length : Int) then (if 0 ≤ x5 then (if x5 < (x1.length : Int) then ((laws_eqRule.f k ((rd_T42 x0 x5).f0) ((rd_T42 x0 x5).f1) ((rd_T42 x0 x5).f2) ((rd_T42 x0 x5).f3) ((rd_T42 x0 x5).f4) ((rd_T42 x1 x5).f0) ((rd_T42 x1 x5).f1) ((rd_T42 x1 x5).f2) ((rd_T42 x1 x5).f3) ((rd_T42 x1 x5).f4)).bind fun t355 => (if t355 = true then (laws_eqRuleS.l0 k x0 x1 (wrap64 (x5 + 1))) else (some false))) else (none)) else (none)) else (some true)
def laws_eqRuleS.f (k : Nat) (l0 : List (S42)) (l1 : List (S42)) : Option (Bool) := if (l0.length : Int) = (l1.length : Int) then (laws_eqRuleS.l0 k l0 l1 0) else (some false)
theorem laws_eqRuleS.mono_l : ∀ k, (∀ y0 y1 y2, LeO (laws_eqRuleS.l0 k y0 y1 y2) (laws_eqRuleS.l0 (k + 1) y0 y1 y2))
 | 0 => fun _ _ _ r h => by simp [laws_eqRuleS.l0] at h
 | k + 1 => by
  have ih0 := laws_eqRuleS.mono_l k
  ·intro y0 y1 y2; unfold laws_eqRuleS.l0
   repeat' with_reducible first | apply ih0 | apply laws_eqRule.mono | apply LeO.refl | apply LeO.none | refine LeO.ite ?_ ?_ | refine LeO.bind ?_ (fun _ => ?_)
theorem laws_eqRuleS.mono : ∀ a0 a1 k, LeO (laws_eqRuleS.f k a0 a1) (laws_eqRuleS.f (k + 1) a0 a1) := by
 intro a0 a1 k; have ih0 := laws_eqRuleS.mono_l k; unfold laws_eqRuleS.f
 repeat' with_reducible first | apply ih0 | apply laws_eqRule.mono | apply LeO.refl | apply LeO.none | refine LeO.ite ?_ ?_ | refine LeO.bind ?_ (fun _ => ?_)
def laws_eqRuleS.T6 : Bool × List (List Nat × List Nat) := (true, [([], []), ([], []), ([0, 1], [0, 1]), ([2], [2]), ([], []), ([], []), ([4, 5], [4, 5]), ([6], [6]), ([3, 7], [3, 7]), ([8], [8])])
def laws_eqRuleS.B6 : List Nat := [0, 0, 3, 7, 0, 0, 48, 112, 255, 511]
theorem laws_eqRuleS.tab6 : rtab .any (opsOf Try.f9 6) = laws_eqRuleS.T6 := by kernel_rfl
theorem laws_eqRuleS.bits6 : waitsOk laws_eqRuleS.T6.2 laws_eqRuleS.B6 = true := by kernel_rfl
abbrev ba37_0 : Array Bool := #[false, false, false, false, false, false, false, false, false, false]
abbrev ba37_1 : Array Bool := #[true, false, false, false, false, false, false, false, false, false]
abbrev ba37_2 : Array Bool := #[true, true, false, false, false, false, false, false, false, false]
abbrev ba37_3 : Array Bool := #[true, true, true, false, false, false, false, false, false, false]
abbrev ba37_4 : Array Bool := #[true, true, true, false, true, false, false, false, false, false]
abbrev ba37_5 : Array Bool := #[true, true, true, false, true, true, false, false, false, false]
abbrev ba37_6 : Array Bool := #[true, true, true, false, true, true, true, false, false, false]
abbrev ba37_7 : Array Bool := #[true, true, true, true, true, true, true, false, false, false]
abbrev ba37_8 : Array Bool := #[true, true, true, true, true, true, true, true, false, false]
abbrev ba37_9 : Array Bool := #[true, true, true, true, true, true, true, true, true, false]
abbrev ba37_10 : Array Bool := #[true, true, true, true, true, true, true, true, true, true]
set_option maxHeartbeats 8000000 in
set_option maxRecDepth 100000 in
theorem laws_eqRuleS.calls (k : Nat) (A0 : Option Addr) (c0 : Nat) (l0 : List (S42)) (A1 : Option Addr) (c1 : Nat) (l1 : List (S42)) (r : Bool) (w : World) (hr0 : Kd.C k42 w A0 l0.length l0) (hc0 : l0.length ≤ c0) (hr1 : Kd.C k42 w A1 l1.length l1) (hc1 : l1.length ≤ c1) (h : laws_eqRuleS.f k l0 l1 = some r) (hT_ : r = true := by first | rfl | assumption) :
  Calls Try.prog 9 #[.slice A0 l0.length c0, .slice A1 l1.length c1] w fun e w' => e = .returned (.bool r) ∧ Below w.heap.size w w' := by
 subst hT_; have hu42 := Try.underlying42; have HR0 := a_ hr0; have HC0 := a_ hc0; clear hr0 hc0; have HR1 := a_ hr1; have HC1 := a_ hc1; clear hr1 hc1; have HB := a_ (Below.refl w.heap.size w); have H : (if (l0.length : Int) = (l1.length : Int) then (laws_eqRuleS.l0 k l0 l1 0) else (some false)) = some true := h
 clear h; by_cases c3 : (l0.length : Int) = (l1.length : Int)
 ·rw [if_pos c3] at H; have c3b0 := beq_iff_eq.mpr c3; have c3b1 := bne_eq_false_iff_eq.mpr c3; have c3b2 : (l0.length == l1.length) = true := by first | simpa using c3 | (simp at c3 ⊢; omega)
  clear c3; have H' := a_ H; clear H; go_enter Try.func9, Try.ntmps9; go_wp2; go_loopg [5] k (fun kq v5 w' => ∃ (x5_1 : Int), v5 = .int .i64 x5_1 ∧ Aside0 (laws_eqRuleS.l0 kq l0 l1 x5_1 = some true) ∧ Aside0 (kq ≤ k) ∧ Aside0 (Below w.heap.size w w'))
  case atStart => exact ⟨(0), mq_, H', ⟨Nat.le_refl _⟩, ⟨mb_ HB⟩⟩
  clear H'; (try clear c3b0); (try clear c3b1); (try clear c3b2); obtain ⟨x5_1, rfl, HA, HK1, HB⟩ := hrel; obtain _ | k1 := gk
  ·exact absurd HA.out (by simp [laws_eqRuleS.l0])
  have H := HA.out; clear HA; simp only [laws_eqRuleS.l0] at H; by_cases c4 : x5_1 < (l0.length : Int)
  ·rw [if_pos c4] at H; have c4b0 := decide_eq_true c4; clear c4; by_cases c5 : 0 ≤ x5_1
   case neg => rw [if_neg c5] at H; cases H
   rw [if_pos c5] at H; have c5b0 := decide_eq_true c5; clear c5; by_cases c6 : x5_1 < (l1.length : Int)
   case neg => rw [if_neg c6] at H; cases H
   rw [if_pos c6] at H; have c6b0 := decide_eq_true c6; clear c6; replace H := Option.bind_eq_some_iff.mp H; obtain ⟨t355, A70, H⟩ := H; have A7 := a_ A70; clear A70; by_cases c8 : t355 = true
   ·subst c8; rw [if_pos rfl] at H; have H' := a_ H; clear H; try go_wp2
    replace HB := a_ (below_drew1 HB.out); have p353 : 0 ≤ (x5_1 : Int) := md_
    have q353 : x5_1 < (l0.length : Int) := md_
    obtain ⟨ad353, A353_2, c353_2, A353_3, c353_3, A353_4, c353_4, e353, hx353_0, hx353_1, hx353_2, hx353_3, hx353_4, hl353_2, hi353_2, hl353_3, hi353_3, hl353_4, hi353_4⟩ := at_T42 HR0.out x5_1 p353 q353; have hw353_4 := hx353_4; have hw353_3 := hx353_3; have hw353_2 := hx353_2; have hw353_1 := hx353_1; have hw353_0 := hx353_0; cases e353; replace hx353_0 := mx_ HB hx353_0; replace hx353_1 := mx_ HB hx353_1; replace hx353_2 := mx_ HB hx353_2; replace hx353_3 := mx_ HB hx353_3; replace hx353_4 := mx_ HB hx353_4; have HR353_2 := a_ hi353_2; have HC353_2 := a_ hl353_2; clear hi353_2 hl353_2; have HR353_3 := a_ hi353_3; have HC353_3 := a_ hl353_3; clear hi353_3 hl353_3; have HR353_4 := a_ hi353_4; have HC353_4 := a_ hl353_4; clear hi353_4 hl353_4; replace p353 := eq_true p353; replace q353 := eq_true q353; have p354 : 0 ≤ (x5_1 : Int) := md_
    have q354 : x5_1 < (l1.length : Int) := md_
    obtain ⟨ad354, A354_2, c354_2, A354_3, c354_3, A354_4, c354_4, e354, hx354_0, hx354_1, hx354_2, hx354_3, hx354_4, hl354_2, hi354_2, hl354_3, hi354_3, hl354_4, hi354_4⟩ := at_T42 HR1.out x5_1 p354 q354; have hw354_4 := hx354_4; have hw354_3 := hx354_3; have hw354_2 := hx354_2; have hw354_1 := hx354_1; have hw354_0 := hx354_0; cases e354; replace hx354_0 := mx_ HB hx354_0; replace hx354_1 := mx_ HB hx354_1; replace hx354_2 := mx_ HB hx354_2; replace hx354_3 := mx_ HB hx354_3; replace hx354_4 := mx_ HB hx354_4; have HR354_2 := a_ hi354_2; have HC354_2 := a_ hl354_2; clear hi354_2 hl354_2; have HR354_3 := a_ hi354_3; have HC354_3 := a_ hl354_3; clear hi354_3 hl354_3; have HR354_4 := a_ hi354_4; have HC354_4 := a_ hl354_4; clear hi354_4 hl354_4; replace p354 := eq_true p354; replace q354 := eq_true q354; refine start_ (n := 10) (S := fun w' => w'.cell? (ad353.add ((x5_1).toNat * 5)) = some (.string ((rd_T42 l0 x5_1).f0)) ∧ w'.cell? ⟨(ad353.add ((x5_1).toNat * 5)).block, (ad353.add ((x5_1).toNat * 5)).off + 1, none⟩ = some (.int .i64 ((rd_T42 l0 x5_1).f1)) ∧ w'.cell? ⟨(ad353.add ((x5_1).toNat * 5)).block, (ad353.add ((x5_1).toNat * 5)).off + 2, none⟩ = some (.slice A353_2 ((rd_T42 l0 x5_1).f2).length c353_2) ∧ w'.cell? ⟨(ad353.add ((x5_1).toNat * 5)).block, (ad353.add ((x5_1).toNat * 5)).off + 3, none⟩ = some (.slice A353_3 ((rd_T42 l0 x5_1).f3).length c353_3) ∧ w'.cell? ⟨(ad353.add ((x5_1).toNat * 5)).block, (ad353.add ((x5_1).toNat * 5)).off + 4, none⟩ = some (.slice A353_4 ((rd_T42 l0 x5_1).f4).length c353_4) ∧ w'.cell? (ad354.add ((x5_1).toNat * 5)) = some (.string ((rd_T42 l1 x5_1).f0)) ∧ w'.cell? ⟨(ad354.add ((x5_1).toNat * 5)).block, (ad354.add ((x5_1).toNat * 5)).off + 1, none⟩ = some (.int .i64 ((rd_T42 l1 x5_1).f1)) ∧ w'.cell? ⟨(ad354.add ((x5_1).toNat * 5)).block, (ad354.add ((x5_1).toNat * 5)).off + 2, none⟩ = some (.slice A354_2 ((rd_T42 l1 x5_1).f2).length c354_2) ∧ w'.cell? ⟨(ad354.add ((x5_1).toNat * 5)).block, (ad354.add ((x5_1).toNat * 5)).off + 3, none⟩ = some (.slice A354_3 ((rd_T42 l1 x5_1).f3).length c354_3) ∧ w'.cell? ⟨(ad354.add ((x5_1).toNat * 5)).block, (ad354.add ((x5_1).toNat * 5)).off + 4, none⟩ = some (.slice A354_4 ((rd_T42 l1 x5_1).f4).length c354_4)) (ds := []) ba37_0 (by kernel_rfl) rfl rfl ⟨(mx_ HB hw353_0), (mx_ HB hw353_1), (mx_ HB hw353_2), (mx_ HB hw353_3), (mx_ HB hw353_4), (mx_ HB hw354_0), (mx_ HB hw354_1), (mx_ HB hw354_2), (mx_ HB hw354_3), (mx_ HB hw354_4)⟩ (fun hHeld => ?_); refine with_tabW laws_eqRuleS.tab6 laws_eqRuleS.bits6 (fun HT_ HW_ => ?_); generalize wr.drew = w9 at HB HR353_2 HR353_3 HR353_4 HR354_2 HR354_3 HR354_4 hx353_0 hx353_1 hx353_2 hx353_3 hx353_4 hx354_0 hx354_1 hx354_2 hx354_3 hx354_4 hHeld ⊢; refine pu_ 0 17 ba37_1 (any_of HT_.out (by kernel_rfl)) ?_; refine pu_ 1 18 ba37_2 (any_of HT_.out (by kernel_rfl)) ?_
    refine pu_ 2 19 ba37_3 (any_of HT_.out (by kernel_rfl)) ?_; refine pu_ 4 21 ba37_4 (any_of HT_.out (by kernel_rfl)) ?_; refine pu_ 5 22 ba37_5 (any_of HT_.out (by kernel_rfl)) ?_; refine pu_ 6 23 ba37_6 (any_of HT_.out (by kernel_rfl)) ?_; refine take_ (i := 3) (N := some 20) (v := ?_) (a' := ?_) ba37_7 rfl rfl (take_ofW HT_.out HW_.out (by kernel_rfl)) (fun _ _ _ h => h) (Or.inl ⟨by rfl, ?_⟩) hHeld ?_ ?_; rotate_left
    ·rintro w' ⟨s0, s1, s2, s3, s4, s5, s6, s7, s8, s9⟩; go_simp; with_reducible rfl
    rotate_left
    ·simp only [Act.put, ps_]; rfl
    refine take_ (i := 7) (N := some 24) (v := ?_) (a' := ?_) ba37_8 rfl rfl (take_ofW HT_.out HW_.out (by kernel_rfl)) (fun _ _ _ h => h) (Or.inl ⟨by rfl, ?_⟩) hHeld ?_ ?_; rotate_left
    ·rintro w' ⟨s0, s1, s2, s3, s4, s5, s6, s7, s8, s9⟩; go_simp; with_reducible rfl
    rotate_left
    ·simp only [Act.put, ps_]; rfl
    refine one_ (i := 8) (N := some 25) ba37_9 rfl rfl (one_of HT_.out (by kernel_rfl)) (by decide) (fun K hK => ?_); refine goes_ Try.func19 (by kernel_rfl) rfl #[.agg #[.string ((rd_T42 l0 x5_1).f0), .int .i64 ((rd_T42 l0 x5_1).f1), .slice A353_2 ((rd_T42 l0 x5_1).f2).length c353_2, .slice A353_3 ((rd_T42 l0 x5_1).f3).length c353_3, .slice A353_4 ((rd_T42 l0 x5_1).f4).length c353_4], .agg #[.string ((rd_T42 l1 x5_1).f0), .int .i64 ((rd_T42 l1 x5_1).f1), .slice A354_2 ((rd_T42 l1 x5_1).f2).length c354_2, .slice A354_3 ((rd_T42 l1 x5_1).f3).length c354_3, .slice A354_4 ((rd_T42 l1 x5_1).f4).length c354_4]] (by rfl) rfl rfl mw_ ?_; with_reducible refine (laws_eqRule.calls k1 ((rd_T42 l0 x5_1).f0) ((rd_T42 l0 x5_1).f1) _ _ ((rd_T42 l0 x5_1).f2) _ _ ((rd_T42 l0 x5_1).f3) _ _ ((rd_T42 l0 x5_1).f4) ((rd_T42 l1 x5_1).f0) ((rd_T42 l1 x5_1).f1) _ _ ((rd_T42 l1 x5_1).f2) _ _ ((rd_T42 l1 x5_1).f3) _ _ ((rd_T42 l1 x5_1).f4) true _ ?side1 ?side2 ?side3 ?side4 ?side5 ?side6 ?side7 ?side8 ?side9 ?side10 ?side11 ?side12 A7.out).mono ?_
    (case side1 => repeat (first | exact (Kd.C_below HR353_2.out HB.out) | (with_reducible refine Kd.C_alloc ?_ _) | (with_reducible refine Kd.C_drewN ?_ _) | (with_reducible refine Kd.C_drew ?_)))
    (case side2 => exact HC353_2.out)
    (case side3 => repeat (first | exact (Kd.C_below HR353_3.out HB.out) | (with_reducible refine Kd.C_alloc ?_ _) | (with_reducible refine Kd.C_drewN ?_ _) | (with_reducible refine Kd.C_drew ?_)))
    (case side4 => exact HC353_3.out)
    (case side5 => repeat (first | exact (Kd.C_below HR353_4.out HB.out) | (with_reducible refine Kd.C_alloc ?_ _) | (with_reducible refine Kd.C_drewN ?_ _) | (with_reducible refine Kd.C_drew ?_)))
    (case side6 => exact HC353_4.out)
    (case side7 => repeat (first | exact (Kd.C_below HR354_2.out HB.out) | (with_reducible refine Kd.C_alloc ?_ _) | (with_reducible refine Kd.C_drewN ?_ _) | (with_reducible refine Kd.C_drew ?_)))
    (case side8 => exact HC354_2.out)
    (case side9 => repeat (first | exact (Kd.C_below HR354_3.out HB.out) | (with_reducible refine Kd.C_alloc ?_ _) | (with_reducible refine Kd.C_drewN ?_ _) | (with_reducible refine Kd.C_drew ?_)))
    (case side10 => exact HC354_3.out)
    (case side11 => repeat (first | exact (Kd.C_below HR354_4.out HB.out) | (with_reducible refine Kd.C_alloc ?_ _) | (with_reducible refine Kd.C_drewN ?_ _) | (with_reducible refine Kd.C_drew ?_)))
    (case side12 => exact HC354_4.out)
    rintro e w10 ⟨rfl, hb⟩; refine ⟨_, rfl, ?_⟩; replace HB := ms_ HB hb; (try clear hb); (try clear hb2); (try clear hk); (try clear hi); refine hK.out _ _ ⟨(mx_ HB hw353_0), (mx_ HB hw353_1), (mx_ HB hw353_2), (mx_ HB hw353_3), (mx_ HB hw353_4), (mx_ HB hw354_0), (mx_ HB hw354_1), (mx_ HB hw354_2), (mx_ HB hw354_3), (mx_ HB hw354_4)⟩ (fun hHeld => ?_); clear hK K; refine nm_ 25 ?_; refine pu_ 9 26 ba37_10 (any_of HT_.out (by kernel_rfl)) ?_; refine done_ (done_of HT_.out (by kernel_rfl)) ?_; try go_wp2
    go_roundg k1
    case measure => have := HK1.out; omega
    case rel => exact ⟨(wrap64 (x5_1 + 1)), mq_, H', ⟨by have := HK1.out; omega⟩, ⟨mb_ HB⟩⟩
   ·replace c8 := Bool.eq_false_iff.mpr c8; subst c8; rw [if_neg (show ¬ (false = true) by decide)] at H; exact absurd (Option.some.inj H) (by decide)
  ·rw [if_neg c4] at H; have c4b0 := decide_eq_false c4; clear c4; clear H; go_wp2; go_ret; exact ⟨me_, mb_ HB⟩
 ·rw [if_neg c3] at H; have c3b0 := beq_eq_false_iff_ne.mpr c3; have c3b1 := bne_iff_ne.mpr c3; have c3b2 : (l0.length == l1.length) = false := by first | simpa using c3 | (simp at c3 ⊢; omega)
  exact absurd (Option.some.inj H) (by decide)
def laws_FnExactCheckRules.f (k : Nat) (l0 : List (S37)) : Option (Bool) := (laws_szRuleS.f k l0 1048576).bind fun t356 => (if t356 < 0 then (some true) else ((laws_toRuleS.f k l0).bind fun t357 => ((spec_CheckRules.f k t357).bind fun bt360 => ((laws_toRuleS.f k l0).bind fun t364 => ((impl_CheckRules.f k t364).bind fun bt367 => ((laws_eqCheck.f bt367.1 bt367.2.1 bt367.2.2 bt360.1 bt360.2.1 bt360.2.2).bind fun t371 => (if t371 = true then ((laws_toRuleS.f k l0).bind fun t372 => ((laws_eqRuleS.f k t364 t372).bind fun t375 => (if t375 = true then (some true) else (some false)))) else (some false))))))))
theorem laws_FnExactCheckRules.mono : ∀ a0 k, LeO (laws_FnExactCheckRules.f k a0) (laws_FnExactCheckRules.f (k + 1) a0) := by
 intro a0 k; unfold laws_FnExactCheckRules.f
 repeat' with_reducible first | apply impl_CheckRules.mono | apply laws_eqRuleS.mono | apply laws_szRuleS.mono | apply laws_toRuleS.mono | apply spec_CheckRules.mono | apply LeO.refl | apply LeO.none | refine LeO.ite ?_ ?_ | refine LeO.bind ?_ (fun _ => ?_)
set_option maxHeartbeats 8000000 in
set_option maxRecDepth 100000 in
theorem laws_FnExactCheckRules.calls (k : Nat) (A0 : Option Addr) (c0 : Nat) (l0 : List (S37)) (r : Bool) (w : World) (hr0 : Kd.C k37 w A0 l0.length l0) (hc0 : l0.length ≤ c0) (h : laws_FnExactCheckRules.f k l0 = some r) (hT_ : r = true := by first | rfl | assumption) :
  Calls Try.prog 3 #[.slice A0 l0.length c0] w fun e w' => e = .returned (.bool r) ∧ Below w.heap.size w w' := by
 subst hT_; have hu25 := Try.underlying25; have HR0 := a_ hr0; have HC0 := a_ hc0; clear hr0 hc0; have HB := a_ (Below.refl w.heap.size w); have H : ((laws_szRuleS.f k l0 1048576).bind fun t356 => (if t356 < 0 then (some true) else ((laws_toRuleS.f k l0).bind fun t357 => ((spec_CheckRules.f k t357).bind fun bt360 => ((laws_toRuleS.f k l0).bind fun t364 => ((impl_CheckRules.f k t364).bind fun bt367 => ((laws_eqCheck.f bt367.1 bt367.2.1 bt367.2.2 bt360.1 bt360.2.1 bt360.2.2).bind fun t371 => (if t371 = true then ((laws_toRuleS.f k l0).bind fun t372 => ((laws_eqRuleS.f k t364 t372).bind fun t375 => (if t375 = true then (some true) else (some false)))) else (some false))))))))) = some true := h
 clear h; replace H := Option.bind_eq_some_iff.mp H; obtain ⟨t356, A20, H⟩ := H; have A2 := a_ A20; clear A20; by_cases c3 : t356 < 0
 ·rw [if_pos c3] at H; have c3b0 := decide_eq_true c3; clear c3; clear H; go_enter Try.func3, Try.ntmps3; go_wp2_with (first | ((with_reducible refine gate_callee (f := 4) rfl ?_); refine goesL_ (some 9) rfl rfl Try.func4 (by kernel_rfl) rfl #[.slice A0 l0.length c0, .int .i64 1048576] rfl mw_ ?_; (with_reducible refine (laws_szRuleS.calls k _ _ l0 1048576 t356 _ ?side1 ?side2 A2.out).mono ?_); (case side1 => repeat (first | exact HR0.out | (with_reducible refine Kd.C_alloc ?_ _) | (with_reducible refine Kd.C_drewN ?_ _) | (with_reducible refine Kd.C_drew ?_))); (case side2 => exact HC0.out); rintro e w4 ⟨rfl, hb⟩; refine ⟨_, rfl, ?_⟩; replace HB := ms_ HB hb; (try clear hb); (try clear hb2); (try clear hk); (try clear hi))); go_ret; exact ⟨me_, mb_ HB⟩
 ·rw [if_neg c3] at H; have c3b0 := decide_eq_false c3; clear c3; replace H := Option.bind_eq_some_iff.mp H; obtain ⟨t357, A50, H⟩ := H; have A5 := a_ A50; clear A50; replace H := Option.bind_eq_some_iff.mp H; obtain ⟨⟨t360, t361, t362⟩, A60, H⟩ := H; have A6 := a_ A60; clear A60; replace H := Option.bind_eq_some_iff.mp H; obtain ⟨t364, A70, H⟩ := H; have A7 := a_ A70; clear A70; replace H := Option.bind_eq_some_iff.mp H; obtain ⟨⟨t367, t368, t369⟩, A80, H⟩ := H; have A8 := a_ A80; clear A80; replace H := Option.bind_eq_some_iff.mp H; obtain ⟨t371, A90, H⟩ := H; have A9 := a_ A90; clear A90; by_cases c10 : t371 = true
  ·subst c10; rw [if_pos rfl] at H; replace H := Option.bind_eq_some_iff.mp H; obtain ⟨t372, A110, H⟩ := H; have A11 := a_ A110; clear A110; replace H := Option.bind_eq_some_iff.mp H; obtain ⟨t375, A120, H⟩ := H; have A12 := a_ A120; clear A120; by_cases c13 : t375 = true
   ·subst c13; rw [if_pos rfl] at H; clear H; go_enter Try.func3, Try.ntmps3; go_wp2_with (first | ((with_reducible refine gate_callee (f := 4) rfl ?_); refine goesL_ (some 9) rfl rfl Try.func4 (by kernel_rfl) rfl #[.slice A0 l0.length c0, .int .i64 1048576] rfl mw_ ?_; (with_reducible refine (laws_szRuleS.calls k _ _ l0 1048576 t356 _ ?side1 ?side2 A2.out).mono ?_); (case side1 => repeat (first | exact HR0.out | (with_reducible refine Kd.C_alloc ?_ _) | (with_reducible refine Kd.C_drewN ?_ _) | (with_reducible refine Kd.C_drew ?_))); (case side2 => exact HC0.out); rintro e w14 ⟨rfl, hb⟩; refine ⟨_, rfl, ?_⟩; replace HB := ms_ HB hb; (try clear hb); (try clear hb2); (try clear hk); (try clear hi)) | ((with_reducible refine gate_callee (f := 6) rfl ?_); refine goesL_ (some 13) rfl rfl Try.func6 (by kernel_rfl) rfl #[.slice A0 l0.length c0] rfl mw_ ?_; (with_reducible refine (laws_toRuleS.calls k _ _ l0 t357 _ ?side1 ?side2 A5.out).mono ?_); (case side1 => repeat (first | exact (Kd.C_below HR0.out HB.out) | (with_reducible refine Kd.C_alloc ?_ _) | (with_reducible refine Kd.C_drewN ?_ _) | (with_reducible refine Kd.C_drew ?_))); (case side2 => exact HC0.out); rintro e w15 ⟨v358, rfl, ho0, hb⟩; refine ⟨_, rfl, ?_⟩; have HO359 := a_ (Kd.R_lower ho0 (below_size (mb_ HB))); replace HB := ms_ HB hb; (try clear hb); (try clear hb2); (try clear hk); (try clear hi); (try clear ho0); obtain ⟨Ao16, co16, eo16⟩ := Kd.R_slice HO359.out; subst eo16) | ((with_reducible refine gate_callee (f := 5) rfl ?_); refine goesL_ (some 14) rfl rfl Try.func5 (by kernel_rfl) rfl #[.slice Ao16 t357.length co16] rfl mw_ ?_; (with_reducible refine (spec_CheckRules.calls k _ _ t357 t360 t361 t362 _ ?side1 ?side2 A6.out).mono ?_); (case side1 => repeat (first | exact (Kd.R_reads' HO359.out).2.2 | (with_reducible refine Kd.C_alloc ?_ _) | (with_reducible refine Kd.C_drewN ?_ _) | (with_reducible refine Kd.C_drew ?_))); (case side2 => exact (Kd.R_reads' HO359.out).2.1); rintro e w17 ⟨rfl, hb⟩; refine ⟨_, rfl, ?_⟩; replace HO359 := a_ (Kd.R_below (mo_ HO359.out) hb); replace HB := ms_ HB hb; (try clear hb); (try clear hb2); (try clear hk); (try clear hi)) | ((with_reducible refine gate_dst (N := 4) rfl ?_); refine bx_ 4 #[.int .i64 0, .int .i64 0, .int .i64 0] 25 ?_; intro gb363 hg w18 hbox hb; have BK363 := a_ (hbox); have GE363 := mg_ HB hg; replace HO359 := a_ (Kd.R_below (mo_ HO359.out) hb); replace HB := ms_ HB hb; clear hb hbox hg; obtain ⟨z19_0, z19_1, z19_2, zf19_0, zf19_1, zf19_2⟩ := cz3 BK363) | ((with_reducible refine gate_callee (f := 6) rfl ?_); refine goesL_ (some 16) rfl rfl Try.func6 (by kernel_rfl) rfl #[.slice A0 l0.length c0] rfl mw_ ?_; (with_reducible refine (laws_toRuleS.calls k _ _ l0 t364 _ ?side1 ?side2 A7.out).mono ?_); (case side1 => exact Kd.C_below HR0.out (mb_ HB)); (case side2 => exact HC0.out); rintro e w20 ⟨v365, rfl, ho0, hb⟩; refine ⟨_, rfl, ?_⟩; have HO366 := a_ (Kd.R_lower (Kd.R_new' ho0 (Kd.R_lt (mo_ (Kd.R_mono (Kd.R_far (p := ⟨gb363, 2, none⟩) (Kd.R_far (p := ⟨gb363, 1, none⟩) (Kd.R_far (p := ⟨gb363, 0, none⟩) (Kd.R_types HO359.out BK363.out (by decide)) (fun _ hk => hk.2) (.int .i64 t360)) (fun _ hk => hk.2) (.int .i64 t361)) (fun _ hk => hk.2) (.int .i64 t362)) (fun _ h_ => h_.1))))) (below_size (mb_ HB))); replace HO359 := a_ (Kd.R_elder' (mo_ (Kd.R_mono (Kd.R_far (p := ⟨gb363, 2, none⟩) (Kd.R_far (p := ⟨gb363, 1, none⟩) (Kd.R_far (p := ⟨gb363, 0, none⟩) (Kd.R_types HO359.out BK363.out (by decide)) (fun _ hk => hk.2) (.int .i64 t360)) (fun _ hk => hk.2) (.int .i64 t361)) (fun _ hk => hk.2) (.int .i64 t362)) (fun _ h_ => h_.1))) (Kd.R_base ho0) hb); replace BK363 := a_ (blk_below (g := gb363) (o := .cells #[.int .i64 t360, .int .i64 t361, .int .i64 t362] 25 (0, 0)) (by (with_reducible repeat (first | refine blk_drewN ?_ _ | refine blk_drew ?_ | refine blk_alloc ?_ _)); refine blk_put (cs := #[.int .i64 t360, .int .i64 t361, .int .i64 0]) ?_ 2 _ rfl; (with_reducible repeat (first | refine blk_drewN ?_ _ | refine blk_drew ?_ | refine blk_alloc ?_ _)); refine blk_put (cs := #[.int .i64 t360, .int .i64 0, .int .i64 0]) ?_ 1 _ rfl; (with_reducible repeat (first | refine blk_drewN ?_ _ | refine blk_drew ?_ | refine blk_alloc ?_ _)); refine blk_put (cs := #[.int .i64 0, .int .i64 0, .int .i64 0]) ?_ 0 _ rfl; (with_reducible repeat (first | refine blk_drewN ?_ _ | refine blk_drew ?_ | refine blk_alloc ?_ _)); exact BK363.out) hb); replace HB := ms_ HB hb; (try clear hb); (try clear hb2); (try clear hk); (try clear hi); (try clear ho0); obtain ⟨Ao21, co21, eo21⟩ := Kd.R_slice HO366.out; subst eo21) | ((with_reducible refine gate_callee (f := 7) rfl ?_); refine goesL_ (some 18) rfl rfl Try.func7 (by kernel_rfl) rfl #[.slice Ao21 t364.length co21] rfl mw_ ?_; (with_reducible refine (impl_CheckRules.calls k _ _ t364 t367 t368 t369 _ ?side1 ?side2 A8.out).mono ?_); (case side1 => repeat (first | exact (Kd.R_reads' HO366.out).2.2 | (with_reducible refine Kd.C_alloc ?_ _) | (with_reducible refine Kd.C_drewN ?_ _) | (with_reducible refine Kd.C_drew ?_))); (case side2 => exact (Kd.R_reads' HO366.out).2.1); rintro e w22 ⟨rfl, hb⟩; refine ⟨_, rfl, ?_⟩; replace HO359 := a_ (Kd.R_below (mo_ HO359.out) hb); replace HO366 := a_ (Kd.R_below (mo_ HO366.out) hb); replace BK363 := mk_ BK363 hb; replace HB := ms_ HB hb; (try clear hb); (try clear hb2); (try clear hk); (try clear hi)) | ((with_reducible refine gate_dst (N := 6) rfl ?_); refine bx_ 6 #[.int .i64 0, .int .i64 0, .int .i64 0] 25 ?_; intro gb370 hg w23 hbox hb; have BK370 := a_ (hbox); have GE370 := mg_ HB hg; have NB363_370 := ml_ BK363 hg; have NB370_363 := mr_ BK363 hg; replace HO359 := a_ (Kd.R_below (mo_ HO359.out) hb); replace HO366 := a_ (Kd.R_below (mo_ HO366.out) hb); replace BK363 := mk_ BK363 hb; replace HB := ms_ HB hb; clear hb hbox hg; have hnb24 := NB370_363.out; have hnc24 := NB363_370.out; obtain ⟨z25_0, z25_1, z25_2, zf25_0, zf25_1, zf25_2⟩ := cz3 BK370; obtain ⟨z26_0, z26_1, z26_2, zf26_0, zf26_1, zf26_2⟩ := cz3 BK363) | ((with_reducible refine gate_callee (f := 8) rfl ?_); refine goesL_ (some 21) rfl rfl Try.func8 (by kernel_rfl) rfl #[.agg #[.int .i64 t367, .int .i64 t368, .int .i64 t369], .agg #[.int .i64 t360, .int .i64 t361, .int .i64 t362]] rfl mw_ ?_; (with_reducible refine (laws_eqCheck.calls t367 t368 t369 t360 t361 t362 true _ A9.out).mono ?_); rintro e w27 ⟨rfl, hb⟩; refine ⟨_, rfl, ?_⟩; replace HO359 := a_ (Kd.R_below (mo_ (Kd.R_mono (Kd.R_far (p := ⟨gb370, 2, none⟩) (Kd.R_far (p := ⟨gb370, 1, none⟩) (Kd.R_far (p := ⟨gb370, 0, none⟩) (Kd.R_types HO359.out BK370.out (by decide)) (fun _ hk => hk.2) (.int .i64 t367)) (fun _ hk => hk.2) (.int .i64 t368)) (fun _ hk => hk.2) (.int .i64 t369)) (fun _ h_ => h_.1))) hb); replace HO366 := a_ (Kd.R_below (mo_ (Kd.R_mono (Kd.R_far (p := ⟨gb370, 2, none⟩) (Kd.R_far (p := ⟨gb370, 1, none⟩) (Kd.R_far (p := ⟨gb370, 0, none⟩) (Kd.R_types HO366.out BK370.out (by decide)) (fun _ hk => hk.2) (.int .i64 t367)) (fun _ hk => hk.2) (.int .i64 t368)) (fun _ hk => hk.2) (.int .i64 t369)) (fun _ h_ => h_.1))) hb); replace BK363 := mk_ BK363 hb; replace BK370 := a_ (blk_below (g := gb370) (o := .cells #[.int .i64 t367, .int .i64 t368, .int .i64 t369] 25 (0, 0)) (by (with_reducible repeat (first | refine blk_drewN ?_ _ | refine blk_drew ?_ | refine blk_alloc ?_ _)); refine blk_put (cs := #[.int .i64 t367, .int .i64 t368, .int .i64 0]) ?_ 2 _ rfl; (with_reducible repeat (first | refine blk_drewN ?_ _ | refine blk_drew ?_ | refine blk_alloc ?_ _)); refine blk_put (cs := #[.int .i64 t367, .int .i64 0, .int .i64 0]) ?_ 1 _ rfl; (with_reducible repeat (first | refine blk_drewN ?_ _ | refine blk_drew ?_ | refine blk_alloc ?_ _)); refine blk_put (cs := #[.int .i64 0, .int .i64 0, .int .i64 0]) ?_ 0 _ rfl; (with_reducible repeat (first | refine blk_drewN ?_ _ | refine blk_drew ?_ | refine blk_alloc ?_ _)); exact BK370.out) hb); replace HB := ms_ HB hb; (try clear hb); (try clear hb2); (try clear hk); (try clear hi)) | ((with_reducible refine gate_callee (f := 6) rfl ?_); refine goesL_ (some 25) rfl rfl Try.func6 (by kernel_rfl) rfl #[.slice A0 l0.length c0] rfl mw_ ?_; (with_reducible refine (laws_toRuleS.calls k _ _ l0 t372 _ ?side1 ?side2 A11.out).mono ?_); (case side1 => repeat (first | exact (Kd.C_below HR0.out HB.out) | (with_reducible refine Kd.C_alloc ?_ _) | (with_reducible refine Kd.C_drewN ?_ _) | (with_reducible refine Kd.C_drew ?_))); (case side2 => exact HC0.out); rintro e w28 ⟨v373, rfl, ho0, hb⟩; refine ⟨_, rfl, ?_⟩; have HO374 := a_ (Kd.R_lower (Kd.R_new' (Kd.R_new' ho0 (Kd.R_lt (mo_ HO359.out))) (Kd.R_lt (mo_ HO366.out))) (below_size (mb_ HB))); replace HO359 := a_ (Kd.R_elder' (mo_ HO359.out) (Kd.R_base ho0) hb); replace HO366 := a_ (Kd.R_elder' (mo_ HO366.out) (Kd.R_base ho0) hb); replace BK363 := mk_ BK363 hb; replace BK370 := mk_ BK370 hb; replace HB := ms_ HB hb; (try clear hb); (try clear hb2); (try clear hk); (try clear hi); (try clear ho0); obtain ⟨Ao29, co29, eo29⟩ := Kd.R_slice HO374.out; subst eo29) | ((with_reducible refine gate_callee (f := 9) rfl ?_); refine goesL_ (some 26) rfl rfl Try.func9 (by kernel_rfl) rfl #[.slice Ao21 t364.length co21, .slice Ao29 t372.length co29] rfl mw_ ?_; (with_reducible refine (laws_eqRuleS.calls k _ _ t364 _ _ t372 true _ ?side1 ?side2 ?side3 ?side4 A12.out).mono ?_); (case side1 => repeat (first | exact (Kd.R_reads' HO366.out).2.2 | (with_reducible refine Kd.C_alloc ?_ _) | (with_reducible refine Kd.C_drewN ?_ _) | (with_reducible refine Kd.C_drew ?_))); (case side2 => exact (Kd.R_reads' HO366.out).2.1); (case side3 => repeat (first | exact (Kd.R_reads' HO374.out).2.2 | (with_reducible refine Kd.C_alloc ?_ _) | (with_reducible refine Kd.C_drewN ?_ _) | (with_reducible refine Kd.C_drew ?_))); (case side4 => exact (Kd.R_reads' HO374.out).2.1); rintro e w30 ⟨rfl, hb⟩; refine ⟨_, rfl, ?_⟩; replace HO359 := a_ (Kd.R_below (mo_ HO359.out) hb); replace HO366 := a_ (Kd.R_below (mo_ HO366.out) hb); replace HO374 := a_ (Kd.R_below (mo_ HO374.out) hb); replace BK363 := mk_ BK363 hb; replace BK370 := mk_ BK370 hb; replace HB := ms_ HB hb; (try clear hb); (try clear hb2); (try clear hk); (try clear hi)))
    go_ret; exact ⟨me_, mb_ HB⟩
   ·replace c13 := Bool.eq_false_iff.mpr c13; subst c13; rw [if_neg (show ¬ (false = true) by decide)] at H; exact absurd (Option.some.inj H) (by decide)
  ·replace c10 := Bool.eq_false_iff.mpr c10; subst c10; rw [if_neg (show ¬ (false = true) by decide)] at H; exact absurd (Option.some.inj H) (by decide)
end Go.Proofs.Ytejjlkbbnhpbdaa.P
namespace Go.Proofs.YtejjlkbbnhpbdaaX
open Go.RowKit Go.Proofs.YtejjlkbbnhpbdaaW.PrintWords
set_option linter.unusedVariables false
set_option linter.unusedSimpArgs false
theorem Ev.ifT {α : Type} {c : Prop} [Decidable c] {f g : Nat → Option α} {r : α} (h : c) (k : Ev f r) : Ev (fun n => if c then f n else g n) r := by
  obtain ⟨K, k⟩ := k
  exact ⟨K, fun n hn => (if_pos h).trans (k n hn)⟩
theorem Ev.ifF {α : Type} {c : Prop} [Decidable c] {f g : Nat → Option α} {r : α} (h : ¬ c) (k : Ev g r) : Ev (fun n => if c then f n else g n) r := by
  obtain ⟨K, k⟩ := k
  exact ⟨K, fun n hn => (if_neg h).trans (k n hn)⟩
theorem Ev.ite {α : Type} {c : Prop} [Decidable c] {f g : Nat → Option α} {r : α} (h1 : c → Ev f r) (h2 : ¬ c → Ev g r) : Ev (fun n => if c then f n else g n) r := by
  by_cases h : c
  · exact Ev.ifT h (h1 h)
  · exact Ev.ifF h (h2 h)
theorem Ev.bindE {α β : Type} {g : Option α} {f : Nat → α → Option β} {a : α} {r : β} (h : g = some a) (k : Ev (fun n => f n a) r) : Ev (fun n => g.bind (f n)) r := by
  subst h
  exact k
theorem Ev.as {α : Type} {g : Nat → Option α} {r r' : α} (h : Ev g r) (e : r = r') : Ev g r' := e ▸ h
end Go.Proofs.YtejjlkbbnhpbdaaX
namespace Go.Proofs.Ytejjlkbbnhpbdaa.Pure
open Go.RowKit Go.Proofs.Ytejjlkbbnhpbdaa.P Go.Proofs.YtejjlkbbnhpbdaaW.PrintWords Go.Proofs.YtejjlkbbnhpbdaaW.PrintLast Go.Proofs.YtejjlkbbnhpbdaaX
set_option linter.unusedVariables false
set_option linter.unusedSimpArgs false
theorem goodSym_loop (s : ByteArray) (hs : s.size ≤ 9223372036854775807) : ∀ i, i ≤ s.size → Ev (fun k => spec_l1GoodSym.l0 k s (i : Int)) (symFrom s i) := by
  refine up_ind ?_ ?_
  · rw [symFrom_end]
    refine Ev.step (fun k => by simp only [spec_l1GoodSym.l0]; exact rfl) ?_
    exact Ev.ifF (by omega) (Ev.now _)
  · intro i hi ih
    rw [symFrom_step s i hi]
    refine Ev.step (fun k => by simp only [spec_l1GoodSym.l0, wrap_succ hi hs]; exact rfl) ?_
    refine Ev.ifT (by omega) ?_
    refine Ev.ifT (by omega) ?_
    generalize bt s (i : Int) = c
    have good : symOk c = true → Ev (fun k => spec_l1GoodSym.l0 k s ((i + 1 : Nat) : Int)) (symOk c && symFrom s (i + 1)) := by
      intro h
      rw [h, Bool.true_and]
      exact ih
    have bad : symOk c = false → Ev (fun _ => some false) (symOk c && symFrom s (i + 1)) := by
      intro h
      rw [h, Bool.false_and]
      exact Ev.now _
    repeat (first
      | exact good (by simp [symOk]; omega)
      | exact bad (by simp [symOk]; omega)
      | refine Ev.ite (fun _ => ?_) (fun _ => ?_))
theorem l1GoodSym_some (s : ByteArray) : Ev (fun k => spec_l1GoodSym.f k s) (goodSymB s) := by
  have hj : ∀ (b : Bool), s.size ≤ 20 → Ev (fun k => spec_l1GoodSym.j0 k s b) (if b = true then false else symFrom s 0) := by
    intro b hs
    refine Ev.step (fun k => by simp only [spec_l1GoodSym.j0]; exact rfl) ?_
    cases b with
    | true => exact Ev.ifT (by trivial) (Ev.now _)
    | false => exact Ev.ifF (by simp) (goodSym_loop s (by omega) 0 (by omega))
  have hj1 : Ev (fun k => spec_l1GoodSym.j0 k s true) false := by
    refine Ev.step (fun k => by simp only [spec_l1GoodSym.j0]; exact rfl) ?_
    exact Ev.ifT (by trivial) (Ev.now _)
  unfold goodSymB
  refine Ev.congr (fun k => by unfold spec_l1GoodSym.f; exact rfl) ?_
  by_cases c1 : s.size = 0
  · rw [if_pos c1]
    exact Ev.ifT (by omega) hj1
  rw [if_neg c1]
  refine Ev.ifF (by omega) ?_
  by_cases c2 : 20 < s.size
  · rw [if_pos c2]
    exact Ev.ifT (by omega) hj1
  rw [if_neg c2]
  refine Ev.ifF (by omega) ?_
  refine Ev.ifT (by omega) ?_
  by_cases c3 : bt s 0 < 97
  · rw [if_pos c3]
    exact Ev.ifT (by omega) hj1
  rw [if_neg c3]
  refine Ev.ifF (by omega) ?_
  refine Ev.as (hj _ (by omega)) ?_
  by_cases c4 : 122 < bt s 0
  · rw [if_pos c4, if_pos (by simpa using c4)]
  · rw [if_neg c4, if_neg (by simpa using c4)]
theorem toList_nil_iff (s : ByteArray) : s.toList = [] ↔ s.toList.isEmpty = true := by rw [List.isEmpty_iff]
theorem goodValueB_def (v : S66) : goodValueB v = if v.f0 = 0 then v.f2.toList.isEmpty else if v.f0 = 1 then (if v.f1 = 0 then goodSymB v.f2 else false) else false := by
  unfold goodValueB impl_Value_good.f impl_goodSym.f
  simp only [Option.bind_some]
  by_cases h : v.f0 = 0
  · rw [if_pos h, if_pos h]
    simp only [Option.getD_some]
    rw [Bool.eq_iff_iff, beq_iff_eq]
    exact toList_nil_iff _
  · rw [if_neg h, if_neg h]
    split
    · split <;> rfl
    · rfl
theorem l1GoodVal_some (v : S66) : Ev (fun k => spec_l1GoodVal.f k v.f0 v.f1 v.f2) (goodValueB v) := by
  rw [goodValueB_def]
  refine Ev.congr (fun k => by unfold spec_l1GoodVal.f; exact rfl) ?_
  refine Ev.ite (fun c0 => ?_) (fun c0 => ?_)
  · rw [if_pos c0]
    refine Ev.ite (fun c1 => ?_) (fun c1 => ?_)
    · exact Ev.as (Ev.now _) ((toList_nil_iff _).1 c1).symm
    · rw [toList_nil_iff, Bool.not_eq_true] at c1
      rw [c1]
      exact Ev.ifF (by omega) (Ev.now _)
  · rw [if_neg c0]
    refine Ev.ite (fun c1 => ?_) (fun c1 => ?_)
    · rw [if_pos c1]
      refine Ev.ite (fun c2 => ?_) (fun c2 => ?_)
      · rw [if_pos c2]
        exact Ev.bind (l1GoodSym_some _) (Ev.now _)
      · rw [if_neg c2]
        exact Ev.now _
    · rw [if_neg c1]
      exact Ev.now _
theorem l2GoodCls_some (s : ByteArray) : Ev (fun k => spec_l2GoodCls.f k s) (goodClsB s) := by
  refine Ev.congr (fun k => by unfold spec_l2GoodCls.f; exact rfl) ?_
  refine Ev.bind (l1GoodSym_some _) ?_
  unfold goodClsB
  refine Ev.ite (fun c0 => ?_) (fun c0 => ?_)
  · rw [c0]; exact Ev.now _
  · rw [Bool.not_eq_true] at c0
    rw [c0]; exact Ev.now _
theorem l2Zero_some (v : S66) : spec_l2Zero.f v.f0 v.f1 v.f2 = some (zeroValB v) := by
  unfold spec_l2Zero.f zeroValB
  have e : (v.f2.toList == ([] : List UInt8)) = v.f2.toList.isEmpty := by
    rw [Bool.eq_iff_iff, beq_iff_eq]
    exact toList_nil_iff _
  rw [e]
theorem goodSymB_nil (s : ByteArray) (h : s.toList.isEmpty = true) : goodSymB s = false := by
  have : s.size = 0 := by
    rw [← toList_nil_iff, ByteArray.toList_eq] at h
    have := congrArg List.length h
    rw [Array.length_toList] at this
    simpa using this
  unfold goodSymB
  rw [if_pos this]
theorem l2GoodTerm_some (t : S68) : Ev (fun k => spec_l2GoodTerm.f k t.f0 t.f1 t.f2 t.f3.f0 t.f3.f1 t.f3.f2) (goodTermB t) := by
  refine Ev.congr (fun k => by unfold spec_l2GoodTerm.f; exact rfl) ?_
  unfold goodTermB
  have hz := l2Zero_some t.f3
  have hv := l1GoodVal_some t.f3
  have hs := l1GoodSym_some t.f2
  refine Ev.ite (fun c0 => ?_) (fun c0 => ?_)
  · rw [if_pos c0]
    refine Ev.ite (fun c1 => ?_) (fun c1 => ?_)
    · refine Ev.ite (fun c2 => ?_) (fun c2 => ?_)
      · rw [toList_nil_iff] at c2
        refine Ev.bindE hz (Ev.as (Ev.now _) ?_)
        rw [c1, c2]; rfl
      · rw [toList_nil_iff, Bool.not_eq_true] at c2
        refine Ev.as (Ev.now _) ?_
        rw [c1, c2]; rfl
    · refine Ev.as (Ev.now _) ?_
      rw [beq_eq_false_iff_ne.mpr c1]; rfl
  rw [if_neg c0]
  refine Ev.ite (fun c0 => ?_) (fun c0 => ?_)
  · rw [if_pos c0]
    refine Ev.ite (fun c1 => ?_) (fun c1 => ?_)
    · refine Ev.ite (fun c2 => ?_) (fun c2 => ?_)
      · rw [toList_nil_iff] at c2
        refine Ev.bind hv (Ev.as (Ev.now _) ?_)
        rw [c1, c2]; rfl
      · rw [toList_nil_iff, Bool.not_eq_true] at c2
        refine Ev.as (Ev.now _) ?_
        rw [c1, c2]; rfl
    · refine Ev.as (Ev.now _) ?_
      rw [beq_eq_false_iff_ne.mpr c1]; rfl
  rw [if_neg c0]
  refine Ev.ite (fun c0 => ?_) (fun c0 => ?_)
  · rw [if_pos c0]
    refine Ev.ite (fun c1 => ?_) (fun c1 => ?_)
    · refine Ev.bind hs ?_
      refine Ev.ite (fun c2 => ?_) (fun c2 => ?_)
      · refine Ev.bindE hz (Ev.as (Ev.now _) ?_)
        rw [c1, c2]; simp
      · rw [Bool.not_eq_true] at c2
        refine Ev.as (Ev.now _) ?_
        rw [c2]; simp
    · refine Ev.as (Ev.now _) ?_
      rw [beq_eq_false_iff_ne.mpr c1]; rfl
  rw [if_neg c0]
  refine Ev.ite (fun c0 => ?_) (fun c0 => ?_)
  · rw [if_pos c0]
    refine Ev.ite (fun c1 => ?_) (fun c1 => ?_)
    · rw [if_neg (by omega)]
      refine Ev.ite (fun c2 => ?_) (fun c2 => ?_)
      · rw [if_neg (by omega)]
        refine Ev.ite (fun c3 => ?_) (fun c3 => ?_)
        · rw [toList_nil_iff] at c3
          rw [if_pos c3]
          refine Ev.bind hv ?_
          refine Ev.ite (fun c4 => ?_) (fun c4 => ?_)
          · rw [c4]; exact Ev.now _
          · rw [Bool.not_eq_true] at c4
            rw [c4]
            refine Ev.bind hs ?_
            refine Ev.ifF ?_ (Ev.now _)
            rw [goodSymB_nil _ c3]; simp
        · rw [toList_nil_iff] at c3
          rw [if_neg c3]
          refine Ev.bind hs ?_
          refine Ev.ite (fun c4 => ?_) (fun c4 => ?_)
          · rw [c4, Bool.true_and]
            exact Ev.bindE hz (Ev.now _)
          · rw [Bool.not_eq_true] at c4
            rw [c4]; exact Ev.now _
      · rw [if_pos (by omega)]
        exact Ev.now _
    · rw [if_pos (by omega)]
      exact Ev.now _
  rw [if_neg c0]
  exact Ev.now _
theorem l2GoodPat_loop (ts : List S68) (hl : ts.length ≤ 9223372036854775807) : ∀ i, i ≤ ts.length → Ev (fun k => spec_l2GoodPat.l0 k ts (ts.length : Int) (i : Int)) ((ts.drop i).all goodTermB) := by
  refine up_ind ?_ ?_
  · rw [List.drop_length]
    refine Ev.step (fun k => by simp only [spec_l2GoodPat.l0]; exact rfl) ?_
    exact Ev.ifF (by omega) (Ev.now _)
  · intro i hi ih
    rw [drop_getD z68 hi, List.all_cons]
    have hrd : rd_T68 ts (i : Int) = ts.getD i z68 := by simp [rd_T68]
    refine Ev.step (fun k => by simp only [spec_l2GoodPat.l0, wrap_succ hi hl, hrd]; exact rfl) ?_
    refine Ev.ifT (by omega) ?_
    refine Ev.ifT (by omega) ?_
    refine Ev.ifT (by omega) ?_
    refine Ev.bind (l2GoodTerm_some (ts.getD i z68)) ?_
    refine Ev.ite (fun c => ?_) (fun c => ?_)
    · rw [c, Bool.true_and]; exact ih
    · rw [Bool.not_eq_true] at c
      rw [c]; exact Ev.now _
theorem l2GoodPat_some (neg : Bool) (cls : ByteArray) (ts : List S68) : Ev (fun k => spec_l2GoodPat.f k neg cls ts) (goodPatB cls ts) := by
  refine Ev.congr (fun k => by unfold spec_l2GoodPat.f; exact rfl) ?_
  unfold goodPatB
  refine Ev.bind (l2GoodCls_some _) ?_
  refine Ev.ite (fun c => ?_) (fun c => ?_)
  · rw [c, Bool.true_and]
    refine Ev.step (fun k => by simp only [spec_l2GoodPat.j0]; exact rfl) ?_
    by_cases h : ts.length ≤ 6
    · refine Ev.ifF (by simp; omega) ?_
      rw [decide_eq_true h, Bool.true_and]
      have := l2GoodPat_loop ts (by omega) 0 (Nat.zero_le _)
      rw [List.drop_zero] at this
      exact this
    · refine Ev.ifT (by simp; omega) ?_
      rw [decide_eq_false h]
      exact Ev.now _
  · rw [Bool.not_eq_true] at c
    rw [c]
    refine Ev.step (fun k => by simp only [spec_l2GoodPat.j0]; exact rfl) ?_
    exact Ev.ifT (by trivial) (Ev.now _)
end Go.Proofs.Ytejjlkbbnhpbdaa.Pure
namespace Go.Proofs.Ytejjlkbbnhpbdaa.Pure
open Go.RowKit Go.Proofs.Ytejjlkbbnhpbdaa.P Go.Proofs.YtejjlkbbnhpbdaaW.PrintWords Go.Proofs.YtejjlkbbnhpbdaaW.PrintLast Go.Proofs.YtejjlkbbnhpbdaaX
set_option linter.unusedVariables false
set_option linter.unusedSimpArgs false
def exA (es : List S72) (j : Nat) : S72 := es.getD j z72
theorem rdE (es : List S72) (j : Nat) : rd_T72 es (j : Int) = exA es j := by simp [rd_T72, exA]
structure TInv (es : List S72) (i : Nat) (fs ds : List Int) : Prop where
  lf : fs.length = i
  ld : ds.length = i
  at_ : ∀ j, j < i → 0 ≤ fs.getD j 0 ∧ fs.getD j 0 ≤ (j : Int) ∧ 0 ≤ ds.getD j 0 ∧ ds.getD j 0 ≤ 20 ∧
     ((exA es j).f0 ≠ 2 ∧ fs.getD j 0 = (j : Int) ∧ ds.getD j 0 = 0 ∨ (exA es j).f0 = 2 ∧ ∃ a b : Nat, a < j ∧ b < j ∧ (exA es j).f4 = (a : Int) ∧ (exA es j).f5 = (b : Int) ∧ fs.getD j 0 = fs.getD a 0 ∧ ds.getD j 0 = 1 + mx (ds.getD a 0) (ds.getD b 0))
theorem first_ev {es : List S72} {i : Nat} {fs ds : List Int} (h : TInv es i fs ds) (hi : i ≤ es.length) : ∀ j, j < i → Ev (fun k => spec_l2First.f k es (j : Int)) (fs.getD j 0) := by
  intro j
  induction j using Nat.strongRecOn with
  | ind j ih =>
    intro hj
    obtain ⟨_, _, _, _, hc⟩ := h.at_ j hj
    refine Ev.congr (fun k => by unfold spec_l2First.f; exact rfl) ?_
    refine Ev.step (fun k => by simp only [spec_l2First.l0, rdE]; exact rfl) ?_
    refine Ev.ifT (by omega) (Ev.ifT (by omega) ?_)
    rcases hc with ⟨h1, h2, _⟩ | ⟨h1, a, b, ha, hb, h4, h5, h6, _⟩
    · exact Ev.ifF h1 (Ev.as (Ev.now _) h2.symm)
    · refine Ev.ifT h1 ?_
      rw [h4, h6]
      exact ih a ha (by omega)
theorem mx_ge0 {a b : Int} (ha : 0 ≤ a) (hb : 0 ≤ b) : 0 ≤ mx a b := by unfold mx; split <;> omega
theorem depth_node {es : List S72} (j a b : Nat) (da db : Int) (hj : j < es.length) (h1 : (exA es j).f0 = 2) (h4 : (exA es j).f4 = (a : Int)) (h5 : (exA es j).f5 = (b : Int)) (ha0 : 0 ≤ da) (ha1 : da ≤ 20) (hb0 : 0 ≤ db) (hb1 : db ≤ 20)
    (ha : Ev (fun k => spec_l2Depth.f k es (a : Int)) da) (hb : Ev (fun k => spec_l2Depth.f k es (b : Int)) db) : Ev (fun k => spec_l2Depth.f k es (j : Int)) (1 + mx da db) := by
  refine Ev.step (fun k => by simp only [spec_l2Depth.f, rdE]; exact rfl) ?_
  refine Ev.ifT (by omega) (Ev.ifT (by omega) (Ev.ifT h1 ?_))
  rw [h4, h5]
  refine Ev.bind ha (Ev.bind hb ?_)
  refine Ev.ite (fun c => ?_) (fun c => ?_)
  · refine Ev.as (Ev.now _) ?_
    rw [show wrap64 (db + 1) = db + 1 by unfold wrap64; omega, mx_lt c]
    omega
  · refine Ev.as (Ev.now _) ?_
    rw [show wrap64 (da + 1) = da + 1 by unfold wrap64; omega, mx_ge c]
    omega
theorem depth_leaf {es : List S72} (j : Nat) (hj : j < es.length) (h1 : (exA es j).f0 ≠ 2) : Ev (fun k => spec_l2Depth.f k es (j : Int)) 0 := by
  refine Ev.step (fun k => by simp only [spec_l2Depth.f, rdE]; exact rfl) ?_
  exact Ev.ifT (by omega) (Ev.ifT (by omega) (Ev.ifF h1 (Ev.now _)))
theorem depth_ev {es : List S72} {i : Nat} {fs ds : List Int} (h : TInv es i fs ds) (hi : i ≤ es.length) : ∀ j, j < i → Ev (fun k => spec_l2Depth.f k es (j : Int)) (ds.getD j 0) := by
  intro j
  induction j using Nat.strongRecOn with
  | ind j ih =>
    intro hj
    obtain ⟨_, _, _, _, hc⟩ := h.at_ j hj
    rcases hc with ⟨h1, _, h2⟩ | ⟨h1, a, b, ha, hb, h4, h5, _, h7⟩
    · rw [h2]
      exact depth_leaf j (by omega) h1
    · rw [h7]
      have ka := h.at_ a (by omega)
      have kb := h.at_ b (by omega)
      exact depth_node j a b _ _ (by omega) h1 h4 h5 ka.2.2.1 ka.2.2.2.1 kb.2.2.1 kb.2.2.2.1 (ih a ha (by omega)) (ih b hb (by omega))
theorem getD_snoc_lt {xs : List Int} {y : Int} {j : Nat} (h : j < xs.length) : (xs ++ [y]).getD j 0 = xs.getD j 0 := by
  rw [List.getD_eq_getElem?_getD, List.getD_eq_getElem?_getD, List.getElem?_append_left h]
theorem getD_snoc_eq {xs : List Int} {y : Int} {j : Nat} (h : j = xs.length) : (xs ++ [y]).getD j 0 = y := by
  subst h
  simp
theorem TInv.snoc {es : List S72} {i : Nat} {fs ds : List Int} (h : TInv es i fs ds) (f d : Int)
    (hf0 : 0 ≤ f) (hf1 : f ≤ (i : Int)) (hd0 : 0 ≤ d) (hd1 : d ≤ 20)
    (hc : (exA es i).f0 ≠ 2 ∧ f = (i : Int) ∧ d = 0 ∨ (exA es i).f0 = 2 ∧ ∃ a b : Nat, a < i ∧ b < i ∧ (exA es i).f4 = (a : Int) ∧ (exA es i).f5 = (b : Int) ∧ f = fs.getD a 0 ∧ d = 1 + mx (ds.getD a 0) (ds.getD b 0)) : TInv es (i + 1) (fs ++ [f]) (ds ++ [d]) := by
  have hl := h.lf
  have hd := h.ld
  refine ⟨by simp [hl], by simp [hd], fun j hj => ?_⟩
  by_cases e : j = i
  · subst e
    rw [getD_snoc_eq hl.symm, getD_snoc_eq hd.symm]
    refine ⟨hf0, hf1, hd0, hd1, ?_⟩
    rcases hc with hc | ⟨h1, a, b, ha, hb, h4, h5, h6, h7⟩
    · exact Or.inl hc
    · exact Or.inr ⟨h1, a, b, ha, hb, h4, h5, by rw [getD_snoc_lt (by omega)]; exact h6, by rw [getD_snoc_lt (by omega), getD_snoc_lt (by omega)]; exact h7⟩
  · have hj2 : j < i := by omega
    rw [getD_snoc_lt (by omega), getD_snoc_lt (by omega)]
    obtain ⟨a0, a1, a2, a3, hc⟩ := h.at_ j hj2
    refine ⟨a0, a1, a2, a3, ?_⟩
    rcases hc with hc | ⟨h1, a, b, ha, hb, h4, h5, h6, h7⟩
    · exact Or.inl hc
    · exact Or.inr ⟨h1, a, b, ha, hb, h4, h5, by rw [getD_snoc_lt (by omega)]; exact h6, by rw [getD_snoc_lt (by omega), getD_snoc_lt (by omega)]; exact h7⟩
def leafB (x : S72) : Bool := x.f1 == 0 && (x.f4 == 0 && x.f5 == 0)
theorem beq_nil (l : List UInt8) : (l == ([] : List UInt8)) = l.isEmpty := by cases l <;> rfl
theorem onlyC_eq (x : S72) (h : x.f0 = 0) : onlyC x = (leafB x && x.f2.toList.isEmpty) := by
  unfold onlyC exEq leafB
  rw [h]
  have e0 : ((⟨#[]⟩ : ByteArray)).toList = [] := by rw [ByteArray.toList_eq]
  rw [e0, beq_nil]
  simp only [BEq.rfl, Bool.true_and]
  cases x.f1 == 0 <;> cases x.f4 == 0 <;> cases x.f5 == 0 <;> cases x.f2.toList.isEmpty <;> rfl
theorem onlyV_eq (x : S72) (h : x.f0 = 1) : onlyV x = (leafB x && zeroValB x.f3) := by
  unfold onlyV exEq leafB zeroValB
  rw [h]
  have e0 : ((⟨#[]⟩ : ByteArray)).toList = [] := by rw [ByteArray.toList_eq]
  rw [e0, beq_nil]
  simp only [BEq.rfl, Bool.true_and]
  cases x.f1 == 0 <;> cases x.f4 == 0 <;> cases x.f5 == 0 <;> cases x.f3.f0 == 0 <;> cases x.f3.f1 == 0 <;> cases x.f3.f2.toList.isEmpty <;> rfl
theorem onlyO_eq (x : S72) (h : x.f0 = 2) : onlyO x = (x.f2.toList.isEmpty && zeroValB x.f3) := by
  unfold onlyO exEq zeroValB
  rw [h]
  have e0 : ((⟨#[]⟩ : ByteArray)).toList = [] := by rw [ByteArray.toList_eq]
  rw [e0, beq_nil, beq_nil]
  simp only [BEq.rfl, Bool.true_and]
  cases x.f3.f0 == 0 <;> cases x.f3.f1 == 0 <;> cases x.f3.f2.toList.isEmpty <;> cases x.f2.toList.isEmpty <;> rfl
def memB (s : ByteArray) (L : List ByteArray) : Bool := L.any fun x => s.toList == x.toList
theorem l2Is_loop (s : ByteArray) (L : List ByteArray) (hl : L.length ≤ 9223372036854775807) : ∀ i, i ≤ L.length → Ev (fun k => spec_l2Is.l0 k s L (L.length : Int) (i : Int)) (memB s (L.drop i)) := by
  refine up_ind ?_ ?_
  · rw [List.drop_length]
    refine Ev.step (fun k => by simp only [spec_l2Is.l0]; exact rfl) ?_
    exact Ev.ifF (by omega) (Ev.now _)
  · intro i hi ih
    rw [drop_getD ByteArray.empty hi, memB, List.any_cons]
    have hrd : rdOf ByteArray.empty L (i : Int) = L.getD i ByteArray.empty := by simp [rdOf]
    refine Ev.step (fun k => by simp only [spec_l2Is.l0, wrap_succ hi hl, hrd]; exact rfl) ?_
    refine Ev.ifT (by omega) (Ev.ifT (by omega) (Ev.ifT (by omega) ?_))
    refine Ev.ite (fun c => ?_) (fun c => ?_)
    · rw [beq_iff_eq.2 c, Bool.true_or]
      exact Ev.now _
    · rw [beq_eq_false_iff_ne.2 c, Bool.false_or]
      exact ih
theorem l2Is_some (s : ByteArray) (L : List ByteArray) (hl : L.length ≤ 9223372036854775807) : Ev (fun k => spec_l2Is.f k s L) (memB s L) := by
  refine Ev.congr (fun k => by unfold spec_l2Is.f; exact rfl) ?_
  have := l2Is_loop s L hl 0 (Nat.zero_le _)
  rw [List.drop_zero] at this
  exact this
theorem arith_byte : ∀ n : Fin 256, decide (0 ≤ Lib.indexByte [43, 45, 42, 47, 37] n.val.toUInt8) = ([n.val.toUInt8] == [43] || ([n.val.toUInt8] == [45] || ([n.val.toUInt8] == [42] || ([n.val.toUInt8] == [47] || [n.val.toUInt8] == ([37] : List UInt8))))) := by
  decide +kernel
theorem ariths_some (c : Int) (h : okByte c) : ∃ L, spec_l2Ariths.f = some L ∧ Ev (fun k => spec_l2Is.f k (strOfNums [c]) L) (arithB c) := by
  refine ⟨_, rfl, ?_⟩
  refine Ev.as (l2Is_some _ _ (by simp)) ?_
  obtain ⟨n, rfl⟩ := Int.eq_ofNat_of_zero_le h.1
  have hn : n < 256 := by have := h.2; omega
  have e := arith_byte ⟨n, hn⟩
  unfold arithB arIdx
  simp only [Int.toNat_natCast] at e ⊢
  rw [e]
  have es : (strOfNums [(n : Int)]).toList = [n.toUInt8] := by
    rw [ByteArray.toList_eq]
    simp [strOfNums]
  simp only [memB, List.any_cons, List.any_nil, es]
  simp [ByteArray.toList_eq]
end Go.Proofs.Ytejjlkbbnhpbdaa.Pure
namespace Go.Proofs.Ytejjlkbbnhpbdaa.Pure
open Go.RowKit Go.Proofs.Ytejjlkbbnhpbdaa.P Go.Proofs.YtejjlkbbnhpbdaaW.PrintWords Go.Proofs.YtejjlkbbnhpbdaaW.PrintLast Go.Proofs.YtejjlkbbnhpbdaaX
set_option linter.unusedVariables false
set_option linter.unusedSimpArgs false
theorem goodExpr_ev {es : List S72} {i : Nat} {fs ds : List Int} (h : TInv es i fs ds) (hi : i < es.length) (h60 : es.length ≤ 60) (hb : okByte (exA es i).f1) :
    ∃ g fs' ds', Ev (fun k => spec_l2GoodExpr.f k es (i : Int)) g ∧ impl_trees_grow.f es fs ds = some (g, fs', ds') ∧ (g = true → TInv es (i + 1) fs' ds') := by
  have hl := h.lf
  have hd := h.ld
  have hz := l2Zero_some (exA es i).f3
  have hv := l1GoodVal_some (exA es i).f3
  have hs := l1GoodSym_some (exA es i).f2
  have hgrow : ∀ r, (fun e : S72 =>
      if e.f0 = 0 then some (onlyC e && goodValueB e.f3, fs ++ [(fs.length : Int)], ds ++ [0])
      else if e.f0 = 1 then some (onlyV e && goodSymB e.f2, fs ++ [(fs.length : Int)], ds ++ [0])
      else if e.f0 = 2 then
        if onlyO e = true ∧ arithB e.f1 = true ∧ e.f5 = (fs.length : Int) - 1 ∧ 0 ≤ e.f5 ∧ 0 ≤ e.f4 then
          if 0 ≤ rd fs e.f5 ∧ rd fs e.f5 ≤ 64 then
            if e.f4 = rd fs e.f5 - 1 then
              if e.f4 < (fs.length : Int) ∧ 0 ≤ rd ds e.f4 ∧ rd ds e.f4 ≤ 64 ∧ 0 ≤ rd ds e.f5 ∧ rd ds e.f5 ≤ 64 then
                some (decide (1 + mx (rd ds e.f4) (rd ds e.f5) ≤ 20), fs ++ [rd fs e.f4], ds ++ [1 + mx (rd ds e.f4) (rd ds e.f5)])
              else none
            else some (false, fs ++ [(fs.length : Int)], ds ++ [0])
          else none
        else some (false, fs ++ [(fs.length : Int)], ds ++ [0])
      else some (false, fs ++ [(fs.length : Int)], ds ++ [0])) (exA es i) = some r → impl_trees_grow.f es fs ds = some r := by
    intro r hr
    unfold impl_trees_grow.f
    rw [if_pos ⟨h60, by omega, by omega⟩, hl, rdE]
    rw [hl] at hr
    exact hr
  have hj : ∀ r, Ev (fun k => spec_l2GoodExpr.j0 k es (i : Int) (leafB (exA es i)) (exA es i).f0 (exA es i).f1 (exA es i).f2 (exA es i).f3.f0 (exA es i).f3.f1 (exA es i).f3.f2 (exA es i).f4 (exA es i).f5) r → Ev (fun k => spec_l2GoodExpr.f k es (i : Int)) r := by
    intro r hr
    refine Ev.congr (fun k => by unfold spec_l2GoodExpr.f; rw [rdE]) ?_
    refine Ev.ifT (by omega) (Ev.ifT (by omega) ?_)
    unfold leafB at hr
    refine Ev.ite (fun c => ?_) (fun c => ?_)
    · rw [beq_iff_eq.2 c, Bool.true_and] at hr
      refine Ev.ite (fun c => ?_) (fun c => ?_)
      · rw [beq_iff_eq.2 c, Bool.true_and] at hr
        exact hr
      · rw [beq_eq_false_iff_ne.2 c, Bool.false_and] at hr
        exact hr
    · rw [beq_eq_false_iff_ne.2 c, Bool.false_and] at hr
      exact hr
  by_cases k0 : (exA es i).f0 = 0
  · refine ⟨_, _, _, hj _ ?_, hgrow _ (if_pos k0), fun _ => ?_⟩
    · refine Ev.step (fun k => by simp only [spec_l2GoodExpr.j0]; exact rfl) ?_
      refine Ev.ifT k0 ?_
      rw [onlyC_eq _ k0]
      cases hL : leafB (exA es i) with
      | false => exact Ev.ifF (by simp) (Ev.now _)
      | true =>
        refine Ev.ifT (by trivial) ?_
        refine Ev.ite (fun c => ?_) (fun c => ?_)
        · rw [toList_nil_iff] at c
          rw [c]
          exact Ev.bind hv (Ev.now _)
        · rw [toList_nil_iff, Bool.not_eq_true] at c
          rw [c]
          exact Ev.now _
    · rw [hl]
      exact h.snoc _ _ (by omega) (by omega) (by omega) (by omega) (Or.inl ⟨by omega, rfl, rfl⟩)
  by_cases k1 : (exA es i).f0 = 1
  · refine ⟨_, _, _, hj _ ?_, hgrow _ ((if_neg k0).trans (if_pos k1)), fun _ => ?_⟩
    · refine Ev.step (fun k => by simp only [spec_l2GoodExpr.j0]; exact rfl) ?_
      refine Ev.ifF k0 (Ev.ifT k1 ?_)
      rw [onlyV_eq _ k1]
      cases hL : leafB (exA es i) with
      | false => exact Ev.ifF (by simp) (Ev.now _)
      | true =>
        refine Ev.ifT (by trivial) (Ev.bind hs ?_)
        refine Ev.ite (fun c => ?_) (fun c => ?_)
        · rw [c, Bool.and_true, Bool.true_and]
          exact Ev.bindE hz (Ev.now _)
        · rw [Bool.not_eq_true] at c
          rw [c, Bool.and_false]
          exact Ev.now _
    · rw [hl]
      exact h.snoc _ _ (by omega) (by omega) (by omega) (by omega) (Or.inl ⟨by omega, rfl, rfl⟩)
  by_cases k2 : (exA es i).f0 = 2
  rotate_left
  · refine ⟨_, _, _, hj _ ?_, hgrow _ ((if_neg k0).trans ((if_neg k1).trans (if_neg k2))), fun e => by cases e⟩
    refine Ev.step (fun k => by simp only [spec_l2GoodExpr.j0]; exact rfl) ?_
    exact Ev.ifF k0 (Ev.ifF k1 (Ev.ifF k2 (Ev.now _)))
  obtain ⟨L, hL, hA⟩ := ariths_some _ hb
  have honly := onlyO_eq _ k2
  have hgrow2 := fun r hr => hgrow r ((if_neg k0).trans ((if_neg k1).trans ((if_pos k2).trans hr)))
  clear hgrow
  have hj1 : ∀ b r, (b = true → r = false) → (b = false → Ev (fun k => (spec_l2First.f k es (exA es i).f5).bind fun t168 => (if (exA es i).f4 = (wrap64 (t168 - 1)) then ((spec_l2Depth.f k es (i : Int)).bind fun t169 => (some (decide (t169 ≤ 20)))) else (some false))) r) →
      Ev (fun k => spec_l2GoodExpr.j1 k es (i : Int) b (exA es i).f0 (exA es i).f1 (exA es i).f2 (exA es i).f3.f0 (exA es i).f3.f1 (exA es i).f3.f2 (exA es i).f4 (exA es i).f5) r := by
    intro b r h1 h2
    refine Ev.step (fun k => by simp only [spec_l2GoodExpr.j1]; exact rfl) ?_
    cases b with
    | true => exact Ev.ifT (by trivial) (Ev.as (Ev.now _) (h1 rfl).symm)
    | false => exact Ev.ifF (by simp) (h2 rfl)
  by_cases o1 : onlyO (exA es i) = true ∧ arithB (exA es i).f1 = true ∧ (exA es i).f5 = (fs.length : Int) - 1 ∧ 0 ≤ (exA es i).f5 ∧ 0 ≤ (exA es i).f4
  rotate_left
  ·
    refine ⟨_, _, _, hj _ ?_, hgrow2 _ (if_neg o1), fun e => by cases e⟩
    refine Ev.step (fun k => by simp only [spec_l2GoodExpr.j0]; exact rfl) ?_
    refine Ev.ifF k0 (Ev.ifF k1 (Ev.ifT k2 ?_))
    refine Ev.bindE hL (Ev.bind hA ?_)
    have bad : Ev (fun k => spec_l2GoodExpr.j1 k es (i : Int) true (exA es i).f0 (exA es i).f1 (exA es i).f2 (exA es i).f3.f0 (exA es i).f3.f1 (exA es i).f3.f2 (exA es i).f4 (exA es i).f5) false := hj1 _ _ (fun _ => rfl) (fun e => by cases e)
    refine Ev.ite (fun c1 => ?_) (fun _ => bad)
    refine Ev.ite (fun c2 => ?_) (fun _ => bad)
    refine Ev.bindE hz ?_
    refine Ev.ite (fun c3 => ?_) (fun _ => bad)
    have hw : wrap64 ((i : Int) - 1) = (fs.length : Int) - 1 := by unfold wrap64; omega
    rw [hw]
    refine Ev.ite (fun c4 => ?_) (fun _ => bad)
    refine Ev.ite (fun c5 => bad) (fun c5 => ?_)
    refine hj1 _ _ (fun _ => rfl) (fun e => ?_)
    rw [toList_nil_iff] at c2
    exact absurd ⟨by rw [honly, c2, c3]; rfl, c1, c4, by omega, by simpa using e⟩ o1
  have o2 := o1
  obtain ⟨p1, p2, p3, p4, p5⟩ := o2
  rw [honly, Bool.and_eq_true] at p1
  obtain ⟨b, hb5⟩ := Int.eq_ofNat_of_zero_le p4
  have hbi : b < i := by omega
  have hbb := h.at_ b hbi
  have hrb : rd fs (exA es i).f5 = fs.getD b 0 := by rw [hb5]; simp [rd]
  have hg1 : 0 ≤ rd fs (exA es i).f5 ∧ rd fs (exA es i).f5 ≤ 64 := by rw [hrb]; omega
  have hF := first_ev h (by omega) b hbi
  have hspec : ∀ r, Ev (fun k => (if (exA es i).f4 = (fs.getD b 0 - 1) then ((spec_l2Depth.f k es (i : Int)).bind fun t169 => (some (decide (t169 ≤ 20)))) else (some false))) r → Ev (fun k => spec_l2GoodExpr.f k es (i : Int)) r := by
    intro r hr
    refine hj _ ?_
    refine Ev.step (fun k => by simp only [spec_l2GoodExpr.j0]; exact rfl) ?_
    refine Ev.ifF k0 (Ev.ifF k1 (Ev.ifT k2 ?_))
    refine Ev.bindE hL (Ev.bind hA ?_)
    refine Ev.ifT p2 (Ev.ifT ((toList_nil_iff _).2 p1.1) (Ev.bindE hz (Ev.ifT p1.2 ?_)))
    have hw : wrap64 ((i : Int) - 1) = (fs.length : Int) - 1 := by unfold wrap64; omega
    rw [hw]
    refine Ev.ifT p3 (Ev.ifF (by omega) ?_)
    refine hj1 _ _ (fun e => absurd (of_decide_eq_true e) (by omega)) (fun _ => ?_)
    rw [hb5]
    refine Ev.bind hF ?_
    rw [show wrap64 (fs.getD b 0 - 1) = fs.getD b 0 - 1 by unfold wrap64; omega]
    exact hr
  by_cases a3 : (exA es i).f4 = rd fs (exA es i).f5 - 1
  rotate_left
  · refine ⟨_, _, _, hspec _ ?_, hgrow2 _ ((if_pos o1).trans ((if_pos hg1).trans (if_neg a3))), fun e => by cases e⟩
    rw [hrb] at a3
    exact Ev.ifF a3 (Ev.now _)
  obtain ⟨a, ha4⟩ := Int.eq_ofNat_of_zero_le p5
  have hai : a < i := by rw [hrb] at a3; omega
  have haa := h.at_ a hai
  have hra : rd fs (exA es i).f4 = fs.getD a 0 := by rw [ha4]; simp [rd]
  have hda : rd ds (exA es i).f4 = ds.getD a 0 := by rw [ha4]; simp [rd]
  have hdb : rd ds (exA es i).f5 = ds.getD b 0 := by rw [hb5]; simp [rd]
  have hg2 : (exA es i).f4 < (fs.length : Int) ∧ 0 ≤ rd ds (exA es i).f4 ∧ rd ds (exA es i).f4 ≤ 64 ∧ 0 ≤ rd ds (exA es i).f5 ∧ rd ds (exA es i).f5 ≤ 64 := by
    rw [hda, hdb]; omega
  refine ⟨_, _, _, hspec _ ?_, hgrow2 _ ((if_pos o1).trans ((if_pos hg1).trans ((if_pos a3).trans (if_pos hg2)))), fun e => ?_⟩
  · rw [hrb] at a3
    refine Ev.ifT a3 ?_
    refine Ev.bind (depth_node i a b _ _ hi k2 ha4 hb5 haa.2.2.1 haa.2.2.2.1 hbb.2.2.1 hbb.2.2.2.1 (depth_ev h (by omega) a hai) (depth_ev h (by omega) b hbi)) ?_
    rw [hda, hdb]
    exact Ev.now _
  · have e2 := of_decide_eq_true e
    rw [hda, hdb] at e2
    rw [hra, hda, hdb]
    have h0 := mx_ge0 haa.2.2.1 hbb.2.2.1
    exact h.snoc _ _ haa.1 (by omega) (by omega) e2 (Or.inr ⟨k2, a, b, hai, hbi, ha4, hb5, rfl, rfl⟩)
theorem shapeE {es : List S72} (h60 : es.length ≤ 60) (hb : ∀ e, e ∈ es → okByte e.f1) : ∀ m i, m + i = es.length → ∀ fs ds, TInv es i fs ds →
    ∃ v fs' ds', Ev (fun k => spec_l2Shape.e k es m i) v ∧ sf_e es m fs ds = some (v, fs', ds') ∧ (v = -1 ∧ TInv es es.length fs' ds' ∨ 0 ≤ v) := by
  intro m
  induction m with
  | zero =>
    intro i hm fs ds h
    refine ⟨-1, fs, ds, Ev.now _, rfl, Or.inl ⟨rfl, ?_⟩⟩
    rw [show es.length = i by omega]
    exact h
  | succ m ih =>
    intro i hm fs ds h
    have hi : i < es.length := by omega
    obtain ⟨g, fs1, ds1, h1, h2, h3⟩ := goodExpr_ev h hi h60 (hb _ (by unfold exA; exact getD_in _ hi))
    cases g with
    | true =>
      obtain ⟨v, fs2, ds2, h4, h5, h6⟩ := ih (i + 1) (by omega) fs1 ds1 (h3 rfl)
      refine ⟨v, fs2, ds2, ?_, ?_, h6⟩
      · refine Ev.congr (fun k => by unfold spec_l2Shape.e; exact rfl) ?_
        exact Ev.bind h1 (Ev.ifT (by trivial) h4)
      · unfold sf_e
        rw [h2]
        simp only [Option.bind_some]
        rw [if_pos (by trivial)]
        exact h5
    | false =>
      refine ⟨(i : Int) + 1, fs1, ds1, ?_, ?_, Or.inr (by omega)⟩
      · refine Ev.congr (fun k => by unfold spec_l2Shape.e; exact rfl) ?_
        exact Ev.bind h1 (Ev.ifF (by simp) (Ev.now _))
      · unfold sf_e
        rw [h2]
        simp only [Option.bind_some]
        rw [if_neg (by simp), h.lf]
inductive Chain (fs : List Int) : List Int → Int → Int → Prop
  | nil (n : Int) : Chain fs [] n n
  | cons (x : Nat) (xs : List Int) (n n' : Int) (hx : x < fs.length) (hf : fs.getD x 0 = n) (h : Chain fs xs ((x : Int) + 1) n') : Chain fs ((x : Int) :: xs) n n'
theorem actG {es : List S72} {fs ds : List Int} (h : TInv es es.length fs ds) (h60 : es.length ≤ 60) : ∀ (xs : List Int) (n : Int), ∃ g n', Ev (fun k => spec_l2GoodAct.g k es xs n) (g, n') ∧ impl_Action_good.g fs xs n = some (g, n') ∧ (g = true → Chain fs xs n n') := by
  intro xs
  induction xs with
  | nil => intro n; exact ⟨true, n, Ev.now _, rfl, fun _ => Chain.nil n⟩
  | cons x xs ih =>
    intro n
    have hl := h.lf
    by_cases c : 0 ≤ x ∧ x < (es.length : Int)
    · obtain ⟨a, rfl⟩ := Int.eq_ofNat_of_zero_le c.1
      have ha : a < es.length := by omega
      have hF := first_ev h (Nat.le_refl _) a ha
      have hr : rd fs (a : Int) = fs.getD a 0 := by simp [rd]
      by_cases e : fs.getD a 0 = n
      · obtain ⟨g, n', h1, h2, h3⟩ := ih ((a : Int) + 1)
        refine ⟨g, n', ?_, ?_, fun hg => Chain.cons a xs n n' (by omega) e (h3 hg)⟩
        · refine Ev.congr (fun k => by unfold spec_l2GoodAct.g; exact rfl) ?_
          refine Ev.ifT c (Ev.bind hF (Ev.ifT e ?_))
          rw [show wrap64 ((a : Int) + 1) = (a : Int) + 1 by unfold wrap64; omega]
          exact h1
        · unfold impl_Action_good.g
          rw [if_pos ⟨c.1, by omega⟩, hr, if_pos e]
          exact h2
      · refine ⟨false, n, ?_, ?_, fun e => by cases e⟩
        · refine Ev.congr (fun k => by unfold spec_l2GoodAct.g; exact rfl) ?_
          exact Ev.ifT c (Ev.bind hF (Ev.ifF e (Ev.now _)))
        · unfold impl_Action_good.g
          rw [if_pos ⟨c.1, by omega⟩, hr, if_neg e]
    · refine ⟨false, n, ?_, ?_, fun e => by cases e⟩
      · refine Ev.congr (fun k => by unfold spec_l2GoodAct.g; exact rfl) ?_
        exact Ev.ifF c (Ev.now _)
      · unfold impl_Action_good.g
        rw [if_neg (by rw [hl]; exact c)]
theorem chain_nil {fs : List Int} {n n' : Int} (h : Chain fs [] n n') : n' = n := by cases h; rfl
def ActOK (a : S46) : Prop := a.f3.length ≤ 6 ∧ (a.f0 = 1 ∧ goodClsB a.f2 = true ∧ a.f1 = 0 ∨ a.f2.toList = [] ∧ (a.f0 = 2 ∧ a.f3 = [] ∨ a.f0 = 3 ∨ a.f0 = 4 ∧ a.f1 = 0 ∧ a.f3 = []) ∧ -1000000 ≤ a.f1 ∧ a.f1 ≤ 1000000)
theorem actF {es : List S72} {fs ds : List Int} (h : TInv es es.length fs ds) (h60 : es.length ≤ 60) (a : S46) (n : Int) : ∃ g n', Ev (fun k => spec_l2GoodAct.f k es a.f0 a.f1 a.f2 a.f3 n) (g, n') ∧ impl_Action_good.f fs a.f0 a.f1 a.f2 a.f3 n = some (g, n') ∧ (g = true → ActOK a ∧ Chain fs a.f3 n n') := by
  obtain ⟨kd, K, cls, xs⟩ := a
  dsimp only
  obtain ⟨g, n', h1, h2, h3⟩ := actG h h60 xs n
  by_cases k1 : kd = 1
  · subst k1
    by_cases c6 : 6 < xs.length
    · refine ⟨false, n, ?_, ?_, fun e => by cases e⟩
      · refine Ev.congr (fun k => by unfold spec_l2GoodAct.f; exact rfl) ?_
        exact Ev.ifT rfl (Ev.ifT c6 (Ev.now _))
      · unfold impl_Action_good.f
        rw [if_pos rfl, if_pos c6]
        repeat' split
        all_goals rfl
    cases hc : goodClsB cls with
    | false =>
      refine ⟨false, n, ?_, ?_, fun e => by cases e⟩
      · refine Ev.congr (fun k => by unfold spec_l2GoodAct.f; exact rfl) ?_
        refine Ev.ifT rfl (Ev.ifF c6 (Ev.bind (l2GoodCls_some cls) ?_))
        rw [hc]
        exact Ev.ifF (by simp) (Ev.now _)
      · unfold impl_Action_good.f
        rw [if_pos rfl, hc, if_neg (by simp)]
    | true =>
      by_cases c0 : K = 0
      · refine ⟨g, n', ?_, ?_, fun hg => ⟨⟨by dsimp only; omega, Or.inl ⟨rfl, hc, c0⟩⟩, h3 hg⟩⟩
        · refine Ev.congr (fun k => by unfold spec_l2GoodAct.f; exact rfl) ?_
          refine Ev.ifT rfl (Ev.ifF c6 (Ev.bind (l2GoodCls_some cls) ?_))
          rw [hc]
          exact Ev.ifT (by trivial) (Ev.ifT c0 h1)
        · unfold impl_Action_good.f
          rw [if_pos rfl, hc, if_pos (by trivial), if_pos c0, if_neg c6]
          exact h2
      · refine ⟨false, n, ?_, ?_, fun e => by cases e⟩
        · refine Ev.congr (fun k => by unfold spec_l2GoodAct.f; exact rfl) ?_
          refine Ev.ifT rfl (Ev.ifF c6 (Ev.bind (l2GoodCls_some cls) ?_))
          rw [hc]
          exact Ev.ifT (by trivial) (Ev.ifF c0 (Ev.now _))
        · unfold impl_Action_good.f
          rw [if_pos rfl, hc, if_pos (by trivial), if_neg c0]
  by_cases k2 : kd = 2
  · subst k2
    have sp : ∀ r, Ev (fun _ => if xs = [] then (if cls.toList = [] then (if K < -1000000 then some (false, n) else if 1000000 < K then some (false, n) else some (true, n)) else some (false, n)) else some (false, n)) r → Ev (fun k => spec_l2GoodAct.f k es 2 K cls xs n) r := by
      intro r hr
      refine Ev.congr (fun k => by unfold spec_l2GoodAct.f; exact rfl) ?_
      exact Ev.ifF (by decide) (Ev.ifT rfl hr)
    unfold impl_Action_good.f
    rw [if_neg (by decide), if_pos rfl]
    by_cases c1 : xs = []
    · by_cases c2 : cls.toList = []
      · by_cases c3 : K < -1000000
        · exact ⟨false, n, sp _ (Ev.ifT c1 (Ev.ifT c2 (Ev.ifT c3 (Ev.now _)))), by rw [if_pos c2, if_pos c3], fun e => by cases e⟩
        by_cases c4 : 1000000 < K
        · exact ⟨false, n, sp _ (Ev.ifT c1 (Ev.ifT c2 (Ev.ifF c3 (Ev.ifT c4 (Ev.now _))))), by rw [if_pos c2, if_neg c3, if_pos c4], fun e => by cases e⟩
        · refine ⟨true, n, sp _ (Ev.ifT c1 (Ev.ifT c2 (Ev.ifF c3 (Ev.ifF c4 (Ev.now _))))), by rw [if_pos c2, if_neg c3, if_neg c4, if_pos c1], fun _ => ⟨⟨by rw [c1]; simp, Or.inr ⟨c2, Or.inl ⟨rfl, c1⟩, by dsimp only; omega, by dsimp only; omega⟩⟩, ?_⟩⟩
          rw [c1]
          exact Chain.nil n
      · exact ⟨false, n, sp _ (Ev.ifT c1 (Ev.ifF c2 (Ev.now _))), by rw [if_neg c2], fun e => by cases e⟩
    · refine ⟨false, n, sp _ (Ev.ifF c1 (Ev.now _)), ?_, fun e => by cases e⟩
      rw [if_neg c1]
      repeat' split
      all_goals rfl
  by_cases k3 : kd = 3
  · subst k3
    have sp : ∀ r, Ev (fun k => if 6 < xs.length then some (false, n) else if cls.toList = [] then (if K < -1000000 then some (false, n) else if 1000000 < K then some (false, n) else spec_l2GoodAct.g k es xs n) else some (false, n)) r → Ev (fun k => spec_l2GoodAct.f k es 3 K cls xs n) r := by
      intro r hr
      refine Ev.congr (fun k => by unfold spec_l2GoodAct.f; exact rfl) ?_
      exact Ev.ifF (by decide) (Ev.ifF (by decide) (Ev.ifT rfl hr))
    unfold impl_Action_good.f
    rw [if_neg (by decide), if_neg (by decide), if_pos rfl]
    by_cases c6 : 6 < xs.length
    · refine ⟨false, n, sp _ (Ev.ifT c6 (Ev.now _)), ?_, fun e => by cases e⟩
      rw [if_pos c6]
      repeat' split
      all_goals rfl
    by_cases c2 : cls.toList = []
    · by_cases c3 : K < -1000000
      · exact ⟨false, n, sp _ (Ev.ifF c6 (Ev.ifT c2 (Ev.ifT c3 (Ev.now _)))), by rw [if_pos c2, if_pos c3], fun e => by cases e⟩
      by_cases c4 : 1000000 < K
      · exact ⟨false, n, sp _ (Ev.ifF c6 (Ev.ifT c2 (Ev.ifF c3 (Ev.ifT c4 (Ev.now _))))), by rw [if_pos c2, if_neg c3, if_pos c4], fun e => by cases e⟩
      · refine ⟨g, n', sp _ (Ev.ifF c6 (Ev.ifT c2 (Ev.ifF c3 (Ev.ifF c4 h1)))), ?_, fun hg => ⟨⟨by dsimp only; omega, Or.inr ⟨c2, Or.inr (Or.inl rfl), by dsimp only; omega, by dsimp only; omega⟩⟩, h3 hg⟩⟩
        rw [if_pos c2, if_neg c3, if_neg c4, if_neg c6]
        exact h2
    · exact ⟨false, n, sp _ (Ev.ifF c6 (Ev.ifF c2 (Ev.now _))), by rw [if_neg c2], fun e => by cases e⟩
  by_cases k4 : kd = 4
  · subst k4
    have sp : ∀ r, Ev (fun _ => if xs = [] then (if cls.toList = [] then (if K = 0 then some (true, n) else some (false, n)) else some (false, n)) else some (false, n)) r → Ev (fun k => spec_l2GoodAct.f k es 4 K cls xs n) r := by
      intro r hr
      refine Ev.congr (fun k => by unfold spec_l2GoodAct.f; exact rfl) ?_
      exact Ev.ifF (by decide) (Ev.ifF (by decide) (Ev.ifF (by decide) (Ev.ifT rfl hr)))
    unfold impl_Action_good.f
    rw [if_neg (by decide), if_neg (by decide), if_neg (by decide), if_pos rfl]
    by_cases c1 : xs = []
    · by_cases c2 : cls.toList = []
      · by_cases c3 : K = 0
        · refine ⟨true, n, sp _ (Ev.ifT c1 (Ev.ifT c2 (Ev.ifT c3 (Ev.now _)))), by rw [if_pos c2, if_pos c3, if_pos c1], fun _ => ⟨⟨by rw [c1]; simp, Or.inr ⟨c2, Or.inr (Or.inr ⟨rfl, c3, c1⟩), by dsimp only; omega, by dsimp only; omega⟩⟩, ?_⟩⟩
          rw [c1]
          exact Chain.nil n
        · exact ⟨false, n, sp _ (Ev.ifT c1 (Ev.ifT c2 (Ev.ifF c3 (Ev.now _)))), by rw [if_pos c2, if_neg c3], fun e => by cases e⟩
      · exact ⟨false, n, sp _ (Ev.ifT c1 (Ev.ifF c2 (Ev.now _))), by rw [if_neg c2], fun e => by cases e⟩
    · refine ⟨false, n, sp _ (Ev.ifF c1 (Ev.now _)), ?_, fun e => by cases e⟩
      rw [if_neg c1]
      repeat' split
      all_goals rfl
  · refine ⟨false, n, ?_, ?_, fun e => by cases e⟩
    · refine Ev.congr (fun k => by unfold spec_l2GoodAct.f; exact rfl) ?_
      exact Ev.ifF k1 (Ev.ifF k2 (Ev.ifF k3 (Ev.ifF k4 (Ev.now _))))
    · unfold impl_Action_good.f
      rw [if_neg k1, if_neg k2, if_neg k3, if_neg k4]
inductive Chains (fs : List Int) : List S46 → Int → Int → Prop
  | nil (n : Int) : Chains fs [] n n
  | cons (a : S46) (as_ : List S46) (n m n' : Int) (ha : ActOK a) (h1 : Chain fs a.f3 n m) (h2 : Chains fs as_ m n') : Chains fs (a :: as_) n n'
theorem shapeA {es : List S72} {fs ds : List Int} (h : TInv es es.length fs ds) (h60 : es.length ≤ 60) : ∀ (as_ : List S46) (i : Nat) (n : Int), ∃ v n', Ev (fun k => spec_l2Shape.a k es as_ i n) (v, n') ∧ sf_a fs as_ i n = some (v, n') ∧ (v = -1 ∧ Chains fs as_ n n' ∨ 0 ≤ v) := by
  intro as_
  induction as_ with
  | nil => intro i n; exact ⟨-1, n, Ev.now _, rfl, Or.inl ⟨rfl, Chains.nil n⟩⟩
  | cons a as_ ih =>
    intro i n
    obtain ⟨g, m, h1, h2, h3⟩ := actF h h60 a n
    cases g with
    | true =>
      obtain ⟨v, n', h4, h5, h6⟩ := ih (i + 1) m
      refine ⟨v, n', ?_, ?_, h6.imp (fun q => ⟨q.1, Chains.cons a as_ n m n' (h3 rfl).1 (h3 rfl).2 q.2⟩) id⟩
      · refine Ev.congr (fun k => by unfold spec_l2Shape.a; exact rfl) ?_
        exact Ev.bind h1 (Ev.ifT (by trivial) h4)
      · unfold sf_a
        rw [h2]
        simp only [Option.bind_some]
        rw [if_pos (by trivial)]
        exact h5
    | false =>
      refine ⟨(i : Int) + 1, m, ?_, ?_, Or.inr (by omega)⟩
      · refine Ev.congr (fun k => by unfold spec_l2Shape.a; exact rfl) ?_
        exact Ev.bind h1 (Ev.ifF (by simp) (Ev.now _))
      · unfold sf_a
        rw [h2]
        simp only [Option.bind_some]
        rw [if_neg (by simp)]
theorem shapeP : ∀ (ps : List S59) (i : Nat), Ev (fun k => spec_l2Shape.p k ps i) (sf_p ps i) ∧ (sf_p ps i = -1 ∧ (∀ p, p ∈ ps → goodPatB p.f1 p.f2 = true) ∨ 0 ≤ sf_p ps i) := by
  intro ps
  induction ps with
  | nil => intro i; exact ⟨Ev.now _, Or.inl ⟨rfl, fun p hp => by cases hp⟩⟩
  | cons p ps ih =>
    intro i
    obtain ⟨h1, h2⟩ := ih (i + 1)
    unfold sf_p
    cases hg : goodPatB p.f1 p.f2 with
    | true =>
      rw [if_pos (by trivial)]
      refine ⟨?_, h2.imp (fun q => ⟨q.1, fun r hr => ?_⟩) id⟩
      · refine Ev.congr (fun k => by unfold spec_l2Shape.p; exact rfl) ?_
        refine Ev.bind (l2GoodPat_some _ _ _) ?_
        rw [hg]
        exact Ev.ifT (by trivial) h1
      · rcases List.mem_cons.1 hr with e | e
        · rw [e]; exact hg
        · exact q.2 r e
    | false =>
      rw [if_neg (by simp)]
      refine ⟨?_, Or.inr (by omega)⟩
      refine Ev.congr (fun k => by unfold spec_l2Shape.p; exact rfl) ?_
      refine Ev.bind (l2GoodPat_some _ _ _) ?_
      rw [hg]
      exact Ev.ifF (by simp) (Ev.now _)
def ShapeOK (nm : ByteArray) (ps : List S59) (es : List S72) (as_ : List S46) : Prop :=
  goodSymB nm = true ∧ ps.length ≤ 6 ∧ as_.length ≤ 8 ∧ es.length ≤ 60 ∧ (∀ p, p ∈ ps → goodPatB p.f1 p.f2 = true) ∧ ∃ fs ds, TInv es es.length fs ds ∧ Chains fs as_ 0 (es.length : Int)
theorem shape_both (nm : ByteArray) (sa : Int) (ps : List S59) (es : List S72) (as_ : List S46) (hb : ∀ e, e ∈ es → okByte e.f1) :
    ∃ v, Ev (fun k => spec_l2Shape.f k nm sa ps es as_) v ∧ impl_Rule_shapeFault.f nm sa ps es as_ = some v ∧ (v = -1 ∧ ShapeOK nm ps es as_ ∨ 0 ≤ v) := by
  have start : ∀ r, Ev (fun k => if goodSymB nm = true then (if 6 < ps.length then some 0 else if 8 < as_.length then some 0 else if 60 < es.length then some 0 else
    (spec_l2Shape.p k ps 0).bind fun p => if p = -1 then (spec_l2Shape.e k es es.length 0).bind fun e => if e = -1 then (spec_l2Shape.a k es as_ 0 0).bind fun a => if a.1 = -1 then (if a.2 = (es.length : Int) then some (-1) else some ((as_.length : Int) + 1)) else some a.1 else some e else some p) else some 0) r → Ev (fun k => spec_l2Shape.f k nm sa ps es as_) r := by
    intro r hr
    refine Ev.congr (fun k => by unfold spec_l2Shape.f; exact rfl) ?_
    exact Ev.bind (l1GoodSym_some nm) hr
  unfold impl_Rule_shapeFault.f
  cases hs : goodSymB nm with
  | false =>
    refine ⟨0, start _ ?_, by rw [if_neg (by simp)], Or.inr (by omega)⟩
    rw [hs]
    exact Ev.ifF (by simp) (Ev.now _)
  | true =>
  rw [hs] at start
  rw [if_pos (by trivial)]
  by_cases c1 : 6 < ps.length
  · exact ⟨0, start _ (Ev.ifT (by trivial) (Ev.ifT c1 (Ev.now _))), by rw [if_pos c1], Or.inr (by omega)⟩
  by_cases c2 : 8 < as_.length
  · exact ⟨0, start _ (Ev.ifT (by trivial) (Ev.ifF c1 (Ev.ifT c2 (Ev.now _)))), by rw [if_neg c1, if_pos c2], Or.inr (by omega)⟩
  by_cases c3 : 60 < es.length
  · exact ⟨0, start _ (Ev.ifT (by trivial) (Ev.ifF c1 (Ev.ifF c2 (Ev.ifT c3 (Ev.now _))))), by rw [if_neg c1, if_neg c2, if_pos c3], Or.inr (by omega)⟩
  rw [if_neg c1, if_neg c2, if_neg c3]
  replace start := fun r hr => start r (Ev.ifT (by trivial) (Ev.ifF c1 (Ev.ifF c2 (Ev.ifF c3 hr))))
  obtain ⟨hp1, hp2⟩ := shapeP ps 0
  rcases hp2 with ⟨hp2, hp3⟩ | hp2
  rotate_left
  · refine ⟨sf_p ps 0, start _ ?_, by rw [if_neg (by omega)], Or.inr hp2⟩
    exact Ev.bind hp1 (Ev.ifF (by omega) (Ev.now _))
  rw [if_pos hp2]
  obtain ⟨e, fs, ds, he1, he2, he3⟩ := shapeE (by omega) hb es.length 0 (by omega) [] [] ⟨rfl, rfl, fun j hj => absurd hj (Nat.not_lt_zero _)⟩
  rw [he2]
  simp only [Option.bind_some]
  rcases he3 with ⟨he3, hT⟩ | he3
  rotate_left
  · refine ⟨e, start _ ?_, by rw [if_neg (by omega)], Or.inr he3⟩
    exact Ev.bind hp1 (Ev.ifT hp2 (Ev.bind he1 (Ev.ifF (by omega) (Ev.now _))))
  rw [if_pos he3]
  obtain ⟨a, n, ha1, ha2, ha3⟩ := shapeA hT (by omega) as_ 0 0
  rw [ha2]
  simp only [Option.bind_some]
  rcases ha3 with ⟨ha3, hC⟩ | ha3
  rotate_left
  · refine ⟨a, start _ ?_, by rw [if_neg (by omega)], Or.inr ha3⟩
    exact Ev.bind hp1 (Ev.ifT hp2 (Ev.bind he1 (Ev.ifT he3 (Ev.bind ha1 (Ev.ifF (by dsimp only; omega) (Ev.now _))))))
  rw [if_pos ha3]
  by_cases hn : n = (es.length : Int)
  · refine ⟨-1, start _ ?_, by rw [if_pos hn], Or.inl ⟨rfl, hs, by omega, by omega, by omega, hp3, fs, ds, hT, by rw [← hn]; exact hC⟩⟩
    exact Ev.bind hp1 (Ev.ifT hp2 (Ev.bind he1 (Ev.ifT he3 (Ev.bind ha1 (Ev.ifT (by exact ha3) (Ev.ifT (by exact hn) (Ev.now _)))))))
  · refine ⟨(as_.length : Int) + 1, start _ ?_, by rw [if_neg hn], Or.inr (by omega)⟩
    exact Ev.bind hp1 (Ev.ifT hp2 (Ev.bind he1 (Ev.ifT he3 (Ev.bind ha1 (Ev.ifT (by exact ha3) (Ev.ifF (by exact hn) (Ev.now _)))))))
end Go.Proofs.Ytejjlkbbnhpbdaa.Pure
namespace Go.Proofs.Ytejjlkbbnhpbdaa.Pure
open Go.RowKit Go.Proofs.Ytejjlkbbnhpbdaa.P Go.Proofs.YtejjlkbbnhpbdaaW.PrintWords Go.Proofs.YtejjlkbbnhpbdaaW.PrintLast Go.Proofs.YtejjlkbbnhpbdaaX
set_option linter.unusedVariables false
set_option linter.unusedSimpArgs false
theorem memB_eq (s : ByteArray) (L : List ByteArray) : memB s L = memS s L := by
  induction L with
  | nil => rfl
  | cons u r ih =>
    have e : (s.toList == u.toList) = (u.toList == s.toList) := by
      rw [Bool.eq_iff_iff, beq_iff_eq, beq_iff_eq]
      exact eq_comm
    show ((s.toList == u.toList) || memB s r) = ((u.toList == s.toList) || memS s r)
    rw [e, ih]
theorem memS_app (s : ByteArray) : ∀ a b : List ByteArray, memS s (a ++ b) = (memS s a || memS s b)
  | [], b => by simp [memS]
  | x :: a, b => by simp [memS, memS_app s a b, Bool.or_assoc]
theorem memS_snoc (s x : ByteArray) (a : List ByteArray) : memS s (a ++ [x]) = (memS s a || (x.toList == s.toList)) := by
  rw [memS_app]
  simp [memS]
theorem wrap2 (p m : Nat) (hp : p ≤ 6) (hm : m < 8) : wrap64 (wrap64 ((p : Int) + (m : Int)) + 1) = (p : Int) + (m : Int) + 1 := by
  have e1 : wrap64 ((p : Int) + (m : Int)) = (p : Int) + (m : Int) := by unfold wrap64; omega
  rw [e1]
  unfold wrap64; omega
section
variable (nm : ByteArray) (sa : Int) (ps : List S59) (es : List S72) (as_ : List S46)
theorem scopeT (i : Nat) (hi : i < 6) (kn : List ByteArray) (ts : List S68) (ts2 : List S68) (neg : Bool) (cls : ByteArray) (K : List ByteArray) (hts : ts.length ≤ 6) (hsz : ∀ t, t ∈ ts → t.f2.size ≤ maxLen) :
    ∀ j, j ≤ ts.length → ∀ (H L : List ByteArray), (∀ s, memS s H = (memS s K || memS s L)) → H.length + (ts.length - j) ≤ 1000 →
    ∃ y H', sc_t K (ts.drop j) L = some y ∧ (∀ s, memS s H' = (memS s K || memS s y.2)) ∧ H'.length ≤ H.length + (ts.length - j) ∧
      ∀ r, (y.1 = false → r = (i : Int) + 1) → (y.1 = true → Ev (fun k => if neg = true then spec_l2Scope.l0 k kn ps (ps.length : Int) ((i + 1 : Nat) : Int) nm sa ps es as_ else spec_l2Scope.l0 k H' ps (ps.length : Int) ((i + 1 : Nat) : Int) nm sa ps es as_) r) →
        Ev (fun k => spec_l2Scope.l1 k kn (i : Int) H ps (ps.length : Int) (i : Int) ts (ts.length : Int) (j : Int) nm sa ps es as_ neg cls ts2) r := by
  refine up_ind ?_ ?_
  · intro H L hm _
    refine ⟨(true, L), H, ?_, hm, by omega, ?_⟩
    · rw [List.drop_length]; rfl
    · intro r _ h2
      refine Ev.step (fun k => by simp only [spec_l2Scope.l1, wrap_succ (show i < 6 from hi) (show 6 ≤ 9223372036854775807 by omega)]; exact rfl) ?_
      exact Ev.ifF (by omega) (h2 rfl)
  · intro j hj ih H L hm hb
    have hrd : rd_T68 ts (j : Int) = ts.getD j z68 := by simp [rd_T68]
    rw [drop_getD z68 hj]
    have hs := hsz _ (getD_in z68 hj)
    generalize ts.getD j z68 = t at *
    have go : ∀ (b : Bool) (H1 L1 : List ByteArray) (y : Bool × List ByteArray) (H' : List ByteArray) (rest : Nat → Option Int) (r : Int), True := fun _ _ _ _ _ _ _ => trivial
    clear go
    unfold sc_t
    rw [if_pos hs]
    have stepJ : ∀ (x45 : Bool) (r : Int), (x45 = true → r = (i : Int) + 1) → (x45 = false → Ev (fun k => if t.f0 = 2 then (if H.length < 8796093022208 then spec_l2Scope.l1 k kn (i : Int) (H ++ [t.f2]) ps (ps.length : Int) (i : Int) ts (ts.length : Int) ((j + 1 : Nat) : Int) nm sa ps es as_ neg cls ts2 else none) else spec_l2Scope.l1 k kn (i : Int) H ps (ps.length : Int) (i : Int) ts (ts.length : Int) ((j + 1 : Nat) : Int) nm sa ps es as_ neg cls ts2) r) →
        Ev (fun k => spec_l2Scope.j2 k kn (i : Int) H ps (ps.length : Int) (i : Int) ts (ts.length : Int) (j : Int) x45 nm sa ps es as_ neg cls ts2 t.f0 t.f1 t.f2 t.f3.f0 t.f3.f1 t.f3.f2) r := by
      intro x45 r h1 h2
      refine Ev.step (fun k => by simp only [spec_l2Scope.j2, wrap_succ hj (show ts.length ≤ 9223372036854775807 by omega)]; exact rfl) ?_
      cases x45 with
      | true =>
        refine Ev.ifT (by trivial) (Ev.as (Ev.now _) ?_)
        rw [h1 rfl]
        unfold wrap64; omega
      | false => exact Ev.ifF (by simp) (h2 rfl)
    have stepL : ∀ r, Ev (fun k => if t.f0 = 3 then (if t.f2.toList = ([] : List UInt8) then (spec_l2Scope.j2 k kn (i : Int) H ps (ps.length : Int) (i : Int) ts (ts.length : Int) (j : Int) false nm sa ps es as_ neg cls ts2 t.f0 t.f1 t.f2 t.f3.f0 t.f3.f1 t.f3.f2) else (spec_l2Is.f k t.f2 H).bind fun q => spec_l2Scope.j2 k kn (i : Int) H ps (ps.length : Int) (i : Int) ts (ts.length : Int) (j : Int) (!q) nm sa ps es as_ neg cls ts2 t.f0 t.f1 t.f2 t.f3.f0 t.f3.f1 t.f3.f2) else spec_l2Scope.j2 k kn (i : Int) H ps (ps.length : Int) (i : Int) ts (ts.length : Int) (j : Int) false nm sa ps es as_ neg cls ts2 t.f0 t.f1 t.f2 t.f3.f0 t.f3.f1 t.f3.f2) r →
        Ev (fun k => spec_l2Scope.l1 k kn (i : Int) H ps (ps.length : Int) (i : Int) ts (ts.length : Int) (j : Int) nm sa ps es as_ neg cls ts2) r := by
      intro r hr
      refine Ev.step (fun k => by simp only [spec_l2Scope.l1, hrd]; exact rfl) ?_
      exact Ev.ifT (by omega) (Ev.ifT (by omega) (Ev.ifT (by omega) hr))
    by_cases k2 : t.f0 = 2
    · rw [if_neg (by omega), if_pos k2]
      have hm2 : ∀ s, memS s (H ++ [t.f2]) = (memS s K || memS s (t.f2 :: L)) := by
        intro s
        rw [memS_snoc, hm s]
        simp only [memS]
        cases memS s K <;> cases memS s L <;> cases (t.f2.toList == s.toList) <;> rfl
      obtain ⟨y, H', h1, h2, h3, h4⟩ := ih (H ++ [t.f2]) (t.f2 :: L) hm2 (by simp; omega)
      refine ⟨y, H', h1, h2, by simp at h3; omega, fun r r1 r2 => stepL r (Ev.ifF (by omega) (stepJ _ _ (fun e => by cases e) (fun _ => Ev.ifT k2 (Ev.ifT (by omega) (h4 r r1 r2)))))⟩
    · obtain ⟨y, H', h1, h2, h3, h4⟩ := ih H L hm (by omega)
      have cont : ∀ r, (y.1 = false → r = (i : Int) + 1) → (y.1 = true → Ev (fun k => if neg = true then spec_l2Scope.l0 k kn ps (ps.length : Int) ((i + 1 : Nat) : Int) nm sa ps es as_ else spec_l2Scope.l0 k H' ps (ps.length : Int) ((i + 1 : Nat) : Int) nm sa ps es as_) r) → Ev (fun k => spec_l2Scope.j2 k kn (i : Int) H ps (ps.length : Int) (i : Int) ts (ts.length : Int) (j : Int) false nm sa ps es as_ neg cls ts2 t.f0 t.f1 t.f2 t.f3.f0 t.f3.f1 t.f3.f2) r :=
        fun r r1 r2 => stepJ _ _ (fun e => by cases e) (fun _ => Ev.ifF k2 (h4 r r1 r2))
      by_cases k3 : t.f0 = 3
      · cases hemp : t.f2.toList.isEmpty with
        | true =>
          rw [if_neg (fun q => by have := q.2.1; cases this), if_neg k2]
          exact ⟨y, H', h1, h2, by omega, fun r r1 r2 => stepL r (Ev.ifT k3 (Ev.ifT ((toList_nil_iff _).2 hemp) (cont r r1 r2)))⟩
        | false =>
          have hne : ¬ t.f2.toList = ([] : List UInt8) := by rw [toList_nil_iff, hemp]; simp
          have his := l2Is_some t.f2 H (by omega)
          rw [memB_eq, hm t.f2] at his
          cases hk : memS t.f2 K with
          | true =>
            rw [hk, Bool.true_or] at his
            rw [if_neg (fun q => by have := q.2.2.1; cases this), if_neg k2]
            exact ⟨y, H', h1, h2, by omega, fun r r1 r2 => stepL r (Ev.ifT k3 (Ev.ifF hne (Ev.bind his (cont r r1 r2))))⟩
          | false =>
            rw [hk, Bool.false_or] at his
            cases hl : memS t.f2 L with
            | true =>
              rw [hl] at his
              rw [if_neg (fun q => by have := q.2.2.2; cases this), if_neg k2]
              exact ⟨y, H', h1, h2, by omega, fun r r1 r2 => stepL r (Ev.ifT k3 (Ev.ifF hne (Ev.bind his (cont r r1 r2))))⟩
            | false =>
              rw [hl] at his
              rw [if_pos ⟨k3, rfl, rfl, rfl⟩]
              exact ⟨(false, L), H, rfl, hm, by omega, fun r r1 _ => stepL r (Ev.ifT k3 (Ev.ifF hne (Ev.bind his (stepJ _ _ (fun _ => r1 rfl) (fun e => by cases e)))))⟩
      · rw [if_neg (fun q => k3 q.1), if_neg k2]
        exact ⟨y, H', h1, h2, by omega, fun r r1 r2 => stepL r (Ev.ifF k3 (cont r r1 r2))⟩
theorem scopeP (hps : ps.length ≤ 6) (htl : ∀ p, p ∈ ps → p.f2.length ≤ 6 ∧ ∀ t, t ∈ p.f2 → t.f2.size ≤ maxLen) : ∀ i, i ≤ ps.length → ∀ (kn K : List ByteArray), (∀ s, memS s kn = memS s K) → kn.length ≤ 6 * i →
    ∃ y kn', sc_p (ps.drop i) i K = some y ∧ (∀ s, memS s kn' = memS s y.2) ∧ kn'.length ≤ 36 ∧ (y.1 = -1 ∨ 0 ≤ y.1) ∧
      ∀ r, (0 ≤ y.1 → r = y.1) → (y.1 = -1 → Ev (fun k => spec_l2Scope.l2 k kn' as_ (as_.length : Int) 0 nm sa ps es as_) r) → Ev (fun k => spec_l2Scope.l0 k kn ps (ps.length : Int) (i : Int) nm sa ps es as_) r := by
  refine up_ind ?_ ?_
  · intro kn K hm hl
    refine ⟨(-1, K), kn, ?_, hm, by omega, Or.inl rfl, ?_⟩
    · rw [List.drop_length]; rfl
    · intro r _ h2
      refine Ev.step (fun k => by simp only [spec_l2Scope.l0]; exact rfl) ?_
      exact Ev.ifF (by omega) (h2 rfl)
  · intro i hi ih kn K hm hl
    have hrd : rd_T59 ps (i : Int) = ps.getD i z59 := by simp [rd_T59]
    rw [drop_getD z59 hi]
    obtain ⟨ht1, ht2⟩ := htl _ (getD_in z59 hi)
    generalize ps.getD i z59 = p at *
    have hm0 : ∀ s, memS s (([] : List ByteArray) ++ kn) = (memS s K || memS s []) := by
      intro s
      rw [List.nil_append, hm s]
      simp [memS]
    obtain ⟨y, H', h1, h2, h3, h4⟩ := scopeT nm sa ps es as_ i (by omega) kn p.f2 p.f2 p.f0 p.f1 K ht1 ht2 0 (Nat.zero_le _) (([] : List ByteArray) ++ kn) [] hm0 (by simp; omega)
    rw [List.drop_zero] at h1
    have start : ∀ r, Ev (fun k => spec_l2Scope.l1 k kn (i : Int) (([] : List ByteArray) ++ kn) ps (ps.length : Int) (i : Int) p.f2 (p.f2.length : Int) ((0 : Nat) : Int) nm sa ps es as_ p.f0 p.f1 p.f2) r → Ev (fun k => spec_l2Scope.l0 k kn ps (ps.length : Int) (i : Int) nm sa ps es as_) r := by
      intro r hr
      refine Ev.step (fun k => by simp only [spec_l2Scope.l0, hrd]; exact rfl) ?_
      exact Ev.ifT (by omega) (Ev.ifT (by omega) (Ev.ifT (by omega) (Ev.ifT (by simp; omega) hr)))
    unfold sc_p
    rw [if_pos ht1, h1]
    simp only [Option.bind_some]
    obtain ⟨ok, L'⟩ := y
    cases ok with
    | false =>
      rw [if_neg (by simp)]
      refine ⟨((i : Int) + 1, K), kn, rfl, hm, by omega, Or.inr (by dsimp only; omega), fun r r1 r2 => start r (h4 r (fun _ => r1 (by dsimp only; omega)) (fun e => by cases e))⟩
    | true =>
      rw [if_pos (by trivial)]
      dsimp only at h2 h4
      cases hneg : p.f0 with
      | true =>
        rw [if_pos (by trivial)]
        obtain ⟨y, kn', g1, g2, g3, g4, g5⟩ := ih kn K hm (by omega)
        refine ⟨y, kn', g1, g2, g3, g4, fun r r1 r2 => start r (h4 r (fun e => by cases e) (fun _ => Ev.ifT hneg (g5 r r1 r2)))⟩
      | false =>
        rw [if_neg (by simp)]
        have hm2 : ∀ s, memS s H' = memS s (L' ++ K) := by
          intro s
          rw [h2 s, memS_app]
          cases memS s K <;> cases memS s L' <;> rfl
        obtain ⟨y, kn', g1, g2, g3, g4, g5⟩ := ih H' (L' ++ K) hm2 (by simp at h3; omega)
        refine ⟨y, kn', g1, g2, g3, g4, fun r r1 r2 => start r (h4 r (fun e => by cases e) (fun _ => Ev.ifF (by rw [hneg]; simp) (g5 r r1 r2)))⟩
def fineE (K : List ByteArray) (e : S72) : Bool := !(e.f0 == 1 && !(memS e.f2 K))
def allF (es : List S72) (K : List ByteArray) : Nat → Nat → Bool
  | 0, _ => true
  | d + 1, k => fineE K (exA es k) && allF es K d (k + 1)
theorem allF_add (K : List ByteArray) : ∀ a b k, allF es K (a + b) k = (allF es K a k && allF es K b (k + a))
  | 0, b, k => by simp [allF]
  | a + 1, b, k => by
    rw [show a + 1 + b = (a + b) + 1 by omega]
    simp only [allF]
    rw [allF_add K a b (k + 1), Bool.and_assoc, show k + 1 + a = k + (a + 1) by omega]
theorem scE (hsz : ∀ e, e ∈ es → e.f2.size ≤ maxLen) (K : List ByteArray) (x : Nat) (hx : x < es.length) : ∀ d fu k, k + d = x + 1 → d ≤ fu → ∃ k', sc_e es K fu (k : Int) (x : Int) = some (allF es K d k, k') ∧ (allF es K d k = true → k' = (x : Int) + 1) := by
  intro d
  induction d with
  | zero =>
    intro fu k hk _
    refine ⟨(k : Int), ?_, fun _ => by omega⟩
    cases fu <;> (unfold sc_e; rw [if_neg (by omega)]; rfl)
  | succ d ih =>
    intro fu k hk hf
    cases fu with
    | zero => omega
    | succ fu =>
      have hlt : k < es.length := by omega
      have hin : (exA es k).f2.size ≤ maxLen := hsz _ (by unfold exA; exact getD_in _ hlt)
      unfold sc_e
      rw [if_pos (by omega), rdE, if_pos ⟨by omega, by omega, hin⟩]
      simp only [allF, fineE]
      by_cases c : (exA es k).f0 = 1 ∧ memS (exA es k).f2 K = false
      · rw [if_pos c]
        refine ⟨(k : Int), ?_, fun e => ?_⟩
        · rw [c.1, c.2]; simp
        · rw [c.1, c.2] at e; simp at e
      · rw [if_neg c]
        obtain ⟨k', h1, h2⟩ := ih fu (k + 1) (by omega) (by omega)
        have e : (!((exA es k).f0 == 1 && !memS (exA es k).f2 K)) = true := by
          rw [Bool.not_eq_true', Bool.eq_false_iff]
          intro q
          rw [Bool.and_eq_true, beq_iff_eq, Bool.not_eq_true'] at q
          exact c q
        rw [e, Bool.true_and]
        refine ⟨k', ?_, h2⟩
        rw [← h1]
        congr 1
theorem scArgs {fs ds : List Int} (hT : TInv es es.length fs ds) (hsz : ∀ e, e ∈ es → e.f2.size ≤ maxLen) (K : List ByteArray) : ∀ (xs : List Int) (n n' : Int), Chain fs xs n n' → ∀ kn : Nat, n = (kn : Int) →
    ∃ kn' : Nat, n' = (kn' : Int) ∧ kn ≤ kn' ∧ kn' ≤ max kn es.length ∧ (∃ k', sc_args es K xs n = some (allF es K (kn' - kn) kn, k') ∧ (allF es K (kn' - kn) kn = true → k' = n')) ∧ (xs ≠ [] → rd xs ((xs.length : Int) - 1) = n' - 1 ∧ kn < kn') := by
  intro xs n n' hC
  induction hC with
  | nil n =>
    intro kn hn
    refine ⟨kn, hn, Nat.le_refl _, by omega, ⟨n, ?_, fun _ => rfl⟩, fun h => absurd rfl h⟩
    rw [Nat.sub_self]; rfl
  | cons x xs n n' hx hf hC ih =>
    intro kn hn
    have hlx : x < es.length := by have := hT.lf; omega
    have hx2 := hT.at_ x hlx
    obtain ⟨kn', h1, h2, h3, ⟨k', h4, h5⟩, h6⟩ := ih (x + 1) (by omega)
    have hle : kn ≤ x := by omega
    obtain ⟨k1, g1, g2⟩ := scE es hsz K x hlx (x + 1 - kn) es.length kn (by omega) (by omega)
    have hsp : kn' - kn = (x + 1 - kn) + (kn' - (x + 1)) := by omega
    refine ⟨kn', h1, by omega, by omega, ?_, fun _ => ?_⟩
    · rw [hsp, allF_add, show kn + (x + 1 - kn) = x + 1 by omega]
      unfold sc_args
      rw [hn, g1]
      simp only [Option.bind_some]
      cases ha : allF es K (x + 1 - kn) kn with
      | false => exact ⟨k1, by rw [if_neg (by simp)]; rfl, fun e => by simp at e⟩
      | true =>
        rw [if_pos (by trivial), g2 ha, Bool.true_and]
        exact ⟨k', h4, h5⟩
    · by_cases hxs : xs = []
      · subst hxs
        have := chain_nil hC
        refine ⟨?_, by omega⟩
        rw [this]
        simp [rd]
      · obtain ⟨q1, q2⟩ := h6 hxs
        refine ⟨?_, by omega⟩
        rw [← q1]
        have hl : 0 < xs.length := List.length_pos_iff.2 hxs
        obtain ⟨m, hm⟩ : ∃ m, xs.length = m + 1 := ⟨xs.length - 1, by omega⟩
        unfold rd
        rw [List.length_cons, hm, show (((m + 1 + 1 : Nat) : Int) - 1).toNat = m + 1 by omega, show (((m + 1 : Nat) : Int) - 1).toNat = m by omega, List.getD_cons_succ]
theorem scanSpec (hsz : es.length ≤ 60) (hp6 : ps.length ≤ 6) (m : Nat) (hm : m < 8) (kn K : List ByteArray) (hkn : ∀ s, memS s kn = memS s K) (hkl : kn.length ≤ 36) (a : S46) (n' : Nat) (hn' : n' ≤ es.length) (hne : a.f3 ≠ []) (hal : a.f3.length ≤ 9223372036854775807) (hlast : rd a.f3 ((a.f3.length : Int) - 1) = (n' : Int) - 1) :
    ∀ d k, k + d = n' → ∀ r, (allF es K d k = false → r = (ps.length : Int) + (m : Int) + 1) → (allF es K d k = true → Ev (fun f => spec_l2Scope.l2 f kn as_ (as_.length : Int) ((m + 1 : Nat) : Int) nm sa ps es as_) r) →
      Ev (fun f => spec_l2Scope.l3 f kn (m : Int) (k : Int) as_ (as_.length : Int) (m : Int) nm sa ps es as_ a.f0 a.f1 a.f2 a.f3) r := by
  have hl : 0 < a.f3.length := List.length_pos_iff.2 hne
  have hw : wrap64 ((a.f3.length : Int) - 1) = (a.f3.length : Int) - 1 := by unfold wrap64; omega
  intro d
  induction d with
  | zero =>
    intro k hk r _ h2
    refine Ev.step (fun f => by simp only [spec_l2Scope.l3, hw, hlast, wrap_succ hm (show 8 ≤ 9223372036854775807 by omega)]; exact rfl) ?_
    exact Ev.ifT (by omega) (Ev.ifT (by omega) (Ev.ifF (by omega) (h2 rfl)))
  | succ d ih =>
    intro k hk r h1 h2
    have hlt : k < es.length := by omega
    refine Ev.step (fun f => by simp only [spec_l2Scope.l3, hw, hlast, wrap_succ hlt (show es.length ≤ 9223372036854775807 by omega), rdE]; exact rfl) ?_
    refine Ev.ifT (by omega) (Ev.ifT (by omega) (Ev.ifT (by omega) (Ev.ifT (by omega) (Ev.ifT (by omega) ?_))))
    simp only [allF, fineE] at h1 h2
    have rest : fineE K (exA es k) = true → Ev (fun f => spec_l2Scope.l3 f kn (m : Int) ((k + 1 : Nat) : Int) as_ (as_.length : Int) (m : Int) nm sa ps es as_ a.f0 a.f1 a.f2 a.f3) r := by
      intro e
      unfold fineE at e
      rw [e, Bool.true_and] at h1 h2
      exact ih (k + 1) (by omega) r h1 h2
    refine Ev.ite (fun c => ?_) (fun c => ?_)
    · have his := l2Is_some (exA es k).f2 kn (by omega)
      rw [memB_eq, hkn] at his
      refine Ev.bind his ?_
      cases hme : memS (exA es k).f2 K with
      | true => exact Ev.ifT (by trivial) (rest (by unfold fineE; rw [hme]; simp))
      | false =>
        refine Ev.ifF (by simp) (Ev.as (Ev.now _) ?_)
        rw [h1 (by rw [c, hme]; simp)]
        exact wrap2 ps.length m hp6 hm
    · exact rest (by unfold fineE; rw [beq_eq_false_iff_ne.2 c]; rfl)
theorem scopeA {fs ds : List Int} (hT : TInv es es.length fs ds) (h60 : es.length ≤ 60) (hp6 : ps.length ≤ 6) (ha8 : as_.length ≤ 8) (hsz : ∀ e, e ∈ es → e.f2.size ≤ maxLen) (kn K : List ByteArray) (hkn : ∀ s, memS s kn = memS s K) (hkl : kn.length ≤ 36) :
    ∀ m, m ≤ as_.length → ∀ (n n' : Int) (nn : Nat), n = (nn : Int) → nn ≤ es.length → Chains fs (as_.drop m) n n' →
    ∃ v, sc_acts es K ps.length (as_.drop m) m n = some v ∧ (v = -1 ∨ 0 ≤ v) ∧ Ev (fun k => spec_l2Scope.l2 k kn as_ (as_.length : Int) (m : Int) nm sa ps es as_) v := by
  refine up_ind ?_ ?_
  · intro n n' nn _ _ _
    refine ⟨-1, ?_, Or.inl rfl, ?_⟩
    · rw [List.drop_length]; rfl
    · refine Ev.step (fun k => by simp only [spec_l2Scope.l2]; exact rfl) ?_
      exact Ev.ifF (by omega) (Ev.now _)
  · intro m hm ih n n' nn hn hnn hC
    have hrd : rd_T46 as_ (m : Int) = as_.getD m z46 := by simp [rd_T46]
    rw [drop_getD z46 hm] at hC ⊢
    generalize as_.getD m z46 = a at *
    cases hC with
    | cons _ _ _ n1 _ hOK h1 h2 =>
    obtain ⟨kn1, g1, g2, g3, ⟨k', g4, g5⟩, g6⟩ := scArgs es hT hsz K a.f3 n n1 h1 nn hn
    obtain ⟨v, e1, e2, e3⟩ := ih n1 n' kn1 g1 (by omega) h2
    have start : ∀ r, Ev (fun k => if (a.f3.length : Int) = 0 then (spec_l2Scope.l2 k kn as_ (as_.length : Int) ((m + 1 : Nat) : Int) nm sa ps es as_) else (if 0 < (a.f3.length : Int) then ((spec_l2First.f k es (rd a.f3 0)).bind fun t188 => (spec_l2Scope.l3 k kn (m : Int) t188 as_ (as_.length : Int) (m : Int) nm sa ps es as_ a.f0 a.f1 a.f2 a.f3)) else (none))) r → Ev (fun k => spec_l2Scope.l2 k kn as_ (as_.length : Int) (m : Int) nm sa ps es as_) r := by
      intro r hr
      refine Ev.step (fun k => by simp only [spec_l2Scope.l2, hrd, wrap_succ hm (show as_.length ≤ 9223372036854775807 by omega)]; exact rfl) ?_
      exact Ev.ifT (by omega) (Ev.ifT (by omega) (Ev.ifT (by omega) hr))
    unfold sc_acts
    rw [g4]
    simp only [Option.bind_some]
    by_cases hne : a.f3 = []
    · have hnn1 : n1 = n := by rw [hne] at h1; exact chain_nil h1
      have hkk : kn1 = nn := by omega
      rw [hkk, Nat.sub_self] at g5 ⊢
      rw [if_pos (by rfl), g5 rfl]
      refine ⟨v, e1, e2, start _ (Ev.ifT (by rw [hne]; rfl) e3)⟩
    · obtain ⟨q1, q2⟩ := g6 hne
      have hl : 0 < a.f3.length := List.length_pos_iff.2 hne
      have hfirst : Ev (fun k => spec_l2First.f k es (rd a.f3 0)) n := by
        obtain ⟨f0, f1, f2, f3⟩ := a
        dsimp only at h1 hne ⊢
        cases h1 with
        | nil => exact absurd rfl hne
        | cons x xs _ _ hx hf _ =>
          have := first_ev hT (Nat.le_refl _) x (by have := hT.lf; omega)
          rw [hf] at this
          exact this
      have scan := scanSpec nm sa ps es as_ h60 hp6 m (by omega) kn K hkn hkl a kn1 (by omega) hne (by have := hOK.1; omega) (by rw [q1, g1]) (kn1 - nn) nn (by omega)
      cases hall : allF es K (kn1 - nn) nn with
      | true =>
        rw [if_pos (by trivial), g5 hall]
        refine ⟨v, e1, e2, start _ (Ev.ifF (by omega) (Ev.ifT (by omega) (Ev.bind hfirst ?_)))⟩
        rw [hn]
        exact scan v (fun e => by rw [hall] at e; cases e) (fun _ => e3)
      | false =>
        rw [if_neg (by simp)]
        refine ⟨(ps.length : Int) + (m : Int) + 1, rfl, Or.inr (by omega), start _ (Ev.ifF (by omega) (Ev.ifT (by omega) (Ev.bind hfirst ?_)))⟩
        rw [hn]
        exact scan _ (fun _ => rfl) (fun e => by rw [hall] at e; cases e)
end
theorem goodTerm_size (t : S68) (h : goodTermB t = true) : t.f2.size ≤ 20 := by
  have e0 : t.f2.toList.isEmpty = true → t.f2.size = 0 := by
    intro e
    rw [ByteArray.toList_eq, List.isEmpty_iff] at e
    have := congrArg List.length e
    rw [Array.length_toList] at this
    simpa using this
  have e1 : goodSymB t.f2 = true → t.f2.size ≤ 20 := by
    intro e
    unfold goodSymB at e
    split at e
    · cases e
    split at e
    · cases e
    omega
  unfold goodTermB at h
  split at h
  · simp only [Bool.and_eq_true] at h
    rw [e0 h.2.1]; omega
  split at h
  · simp only [Bool.and_eq_true] at h
    rw [e0 h.1.2]; omega
  split at h
  · simp only [Bool.and_eq_true] at h
    exact e1 h.2
  split at h
  · split at h
    · cases h
    split at h
    · cases h
    split at h
    · rename_i e
      rw [e0 e]; omega
    · simp only [Bool.and_eq_true] at h
      exact e1 h.1
  · cases h
theorem goodPat_parts {cls : ByteArray} {ts : List S68} (h : goodPatB cls ts = true) : goodClsB cls = true ∧ ts.length ≤ 6 ∧ ∀ t, t ∈ ts → goodTermB t = true := by
  unfold goodPatB at h
  simp only [Bool.and_eq_true, decide_eq_true_eq, List.all_eq_true] at h
  exact ⟨h.1, h.2.1, h.2.2⟩
theorem scope_both (nm : ByteArray) (sa : Int) (ps : List S59) (es : List S72) (as_ : List S46) (hsz : ∀ e, e ∈ es → e.f2.size ≤ maxLen) (hS : ShapeOK nm ps es as_) :
    ∃ v, Ev (fun k => spec_l2Scope.f k nm sa ps es as_) v ∧ impl_Rule_scopeFault.f nm sa ps es as_ = some v ∧ (v = -1 ∨ 0 ≤ v) := by
  obtain ⟨_, hp6, ha8, h60, hgp, fs, ds, hT, hC⟩ := hS
  have htl : ∀ p, p ∈ ps → p.f2.length ≤ 6 ∧ ∀ t, t ∈ p.f2 → t.f2.size ≤ maxLen := by
    intro p hp
    obtain ⟨_, h2, h3⟩ := goodPat_parts (hgp p hp)
    exact ⟨h2, fun t ht => Nat.le_trans (goodTerm_size t (h3 t ht)) (by unfold maxLen; omega)⟩
  obtain ⟨y, kn', h1, h2, h3, h4, h5⟩ := scopeP nm sa ps es as_ hp6 htl 0 (Nat.zero_le _) [] [] (fun _ => rfl) (by simp)
  rw [List.drop_zero] at h1
  have start : ∀ r, Ev (fun k => spec_l2Scope.l0 k ([] : List ByteArray) ps (ps.length : Int) ((0 : Nat) : Int) nm sa ps es as_) r → Ev (fun k => spec_l2Scope.f k nm sa ps es as_) r := by
    intro r hr
    exact Ev.congr (fun k => by unfold spec_l2Scope.f; exact rfl) hr
  unfold impl_Rule_scopeFault.f
  rw [if_pos ⟨hp6, h60, ha8⟩, h1]
  simp only [Option.bind_some]
  rcases h4 with h4 | h4
  · rw [if_pos h4]
    obtain ⟨v, e1, e2, e3⟩ := scopeA nm sa ps es as_ hT h60 hp6 ha8 hsz kn' y.2 h2 h3 0 (Nat.zero_le _) 0 _ 0 rfl (Nat.zero_le _) (by rw [List.drop_zero]; exact hC)
    rw [List.drop_zero] at e1
    exact ⟨v, start v (h5 v (fun e => by omega) (fun _ => e3)), e1, e2⟩
  · rw [if_neg (by omega)]
    exact ⟨y.1, start _ (h5 _ (fun _ => rfl) (fun e => by omega)), rfl, Or.inr h4⟩
end Go.Proofs.Ytejjlkbbnhpbdaa.Pure
namespace Go.Proofs.Ytejjlkbbnhpbdaa.Pure
open Go.RowKit Go.Proofs.Ytejjlkbbnhpbdaa.P Go.Proofs.YtejjlkbbnhpbdaaW.PrintWords Go.Proofs.YtejjlkbbnhpbdaaW.PrintLast Go.Proofs.YtejjlkbbnhpbdaaX
set_option linter.unusedVariables false
set_option linter.unusedSimpArgs false
def posN (ps : List S59) : Nat := (ps.filter fun p => !p.f0).length
theorem posN_cons (p : S59) (ps : List S59) : posN (p :: ps) = if p.f0 = true then posN ps else posN ps + 1 := by
  unfold posN
  rw [List.filter_cons]
  cases p.f0 <;> simp
theorem specPos (ps : List S59) (hl : ps.length ≤ 6) : ∀ i, i ≤ ps.length → ∀ c : Int, 0 ≤ c → c ≤ 100 → Ev (fun k => spec_l2Positive.l0 k c ps (ps.length : Int) (i : Int)) (c + (posN (ps.drop i) : Int)) := by
  have key : ∀ i, i ≤ ps.length → ∀ c : Int, 0 ≤ c → c ≤ 100 + (i : Int) → Ev (fun k => spec_l2Positive.l0 k c ps (ps.length : Int) (i : Int)) (c + (posN (ps.drop i) : Int)) := by
    refine up_ind ?_ ?_
    · intro c _ _
      rw [List.drop_length]
      refine Ev.step (fun k => by simp only [spec_l2Positive.l0]; exact rfl) ?_
      exact Ev.ifF (by omega) (Ev.as (Ev.now _) (by simp [posN]))
    · intro i hi ih c h0 h1
      have hrd : rd_T59 ps (i : Int) = ps.getD i z59 := by simp [rd_T59]
      rw [drop_getD z59 hi, posN_cons]
      refine Ev.step (fun k => by simp only [spec_l2Positive.l0, wrap_succ hi (show ps.length ≤ 9223372036854775807 by omega), hrd]; exact rfl) ?_
      refine Ev.ifT (by omega) (Ev.ifT (by omega) (Ev.ifT (by omega) ?_))
      refine Ev.ite (fun q => ?_) (fun q => ?_)
      · rw [if_pos q]
        exact ih c h0 (by omega)
      · rw [if_neg q]
        rw [show wrap64 (c + 1) = c + 1 by unfold wrap64; omega]
        exact Ev.as (ih (c + 1) (by omega) (by omega)) (by omega)
  intro i hi c h0 h1
  exact key i hi c h0 (by omega)
theorem implPos (ps : List S59) (hl : ps.length ≤ 6) : ∀ i, i ≤ ps.length → ∀ c : Int, 0 ≤ c → c ≤ 100 + (i : Int) → Ev (fun k => impl_Rule_positives.l0 k c ps (ps.length : Int) (i : Int)) (c + (posN (ps.drop i) : Int)) := by
  refine up_ind ?_ ?_
  · intro c _ _
    rw [List.drop_length]
    refine Ev.step (fun k => by simp only [impl_Rule_positives.l0]; exact rfl) ?_
    exact Ev.ifF (by omega) (Ev.as (Ev.now _) (by simp [posN]))
  · intro i hi ih c h0 h1
    have hrd : rd_T59 ps (i : Int) = ps.getD i z59 := by simp [rd_T59]
    rw [drop_getD z59 hi, posN_cons]
    refine Ev.step (fun k => by simp only [impl_Rule_positives.l0, wrap_succ hi (show ps.length ≤ 9223372036854775807 by omega), hrd]; exact rfl) ?_
    refine Ev.ifT (by omega) (Ev.ifT (by omega) (Ev.ifT (by omega) ?_))
    refine Ev.ite (fun q => ?_) (fun q => ?_)
    · rw [if_pos q]
      exact ih c h0 (by omega)
    · rw [if_neg q]
      rw [show wrap64 (c + 1) = c + 1 by unfold wrap64; omega]
      exact Ev.as (ih (c + 1) (by omega) (by omega)) (by omega)
theorem specPos_some (nm : ByteArray) (sa : Int) (ps : List S59) (es : List S72) (as_ : List S46) (hl : ps.length ≤ 6) : Ev (fun k => spec_l2Positive.f k nm sa ps es as_) (posN ps : Int) := by
  refine Ev.congr (fun k => by unfold spec_l2Positive.f; exact rfl) ?_
  exact Ev.as (specPos ps hl 0 (Nat.zero_le _) 0 (by omega) (by omega)) (by rw [List.drop_zero]; omega)
theorem implPos_some (nm : ByteArray) (sa : Int) (ps : List S59) (es : List S72) (as_ : List S46) (hl : ps.length ≤ 6) : Ev (fun k => impl_Rule_positives.f k nm sa ps es as_) (posN ps : Int) := by
  refine Ev.congr (fun k => by unfold impl_Rule_positives.f; exact rfl) ?_
  exact Ev.as (implPos ps hl 0 (Nat.zero_le _) 0 (by omega) (by omega)) (by rw [List.drop_zero]; omega)
theorem ck_acts_sign (n : Int) (lp : Nat) : ∀ (as_ : List S46) (j : Nat), ck_acts n lp as_ j = -1 ∨ 0 ≤ ck_acts n lp as_ j
  | [], j => Or.inl rfl
  | a :: as_, j => by
    unfold ck_acts
    split
    · exact Or.inr (by omega)
    · exact ck_acts_sign n lp as_ (j + 1)
def RuleSz (q : S42) : Prop := q.f0.size ≤ maxLen ∧ (∀ e, e ∈ q.f3 → okByte e.f1 ∧ e.f2.size ≤ maxLen)
def RuleOK (q : S42) : Prop := ShapeOK q.f0 q.f2 q.f3 q.f4 ∧ 1 ≤ posN q.f2 ∧ posN q.f2 ≤ 3 ∧ impl_Rule_scopeFault.f q.f0 q.f1 q.f2 q.f3 q.f4 = some (-1) ∧ ck_acts (posN q.f2 : Int) q.f2.length q.f4 0 = -1
section
variable (R : List S42)
theorem ckSpec (i : Nat) (hi : i < R.length) (q : S42) (n : Int) (hp : q.f2.length ≤ 6) (ha : q.f4.length ≤ 8) : ∀ m, m ≤ q.f4.length → ∀ r, (0 ≤ ck_acts n q.f2.length (q.f4.drop m) m → r = (5, (i : Int), ck_acts n q.f2.length (q.f4.drop m) m)) →
    (ck_acts n q.f2.length (q.f4.drop m) m = -1 → Ev (fun k => spec_CheckRules.l0 k R R (R.length : Int) (wrap64 ((i : Int) + 1))) r) →
    Ev (fun k => spec_CheckRules.l2 k R (i : Int) n R (R.length : Int) (i : Int) q.f4 (q.f4.length : Int) (m : Int) q.f0 q.f1 q.f2 q.f3 q.f4) r := by
  refine up_ind ?_ ?_
  · intro r _ h2
    refine Ev.step (fun k => by simp only [spec_CheckRules.l2]; exact rfl) ?_
    refine Ev.ifF (by omega) (h2 ?_)
    rw [List.drop_length]; rfl
  · intro m hm ih r h1 h2
    have hrd : rd_T46 q.f4 (m : Int) = q.f4.getD m z46 := by simp [rd_T46]
    rw [drop_getD z46 hm] at h1 h2
    refine Ev.step (fun k => by simp only [spec_CheckRules.l2, wrap_succ hm (show q.f4.length ≤ 9223372036854775807 by omega), hrd]; exact rfl) ?_
    generalize q.f4.getD m z46 = a at *
    unfold ck_acts at h1 h2
    refine Ev.ifT (by omega) (Ev.ifT (by omega) (Ev.ifT (by omega) ?_))
    have bad : (a.f0 = 2 ∨ a.f0 = 3) ∧ (a.f1 < 1 ∨ n < a.f1) → Ev (fun _ => some ((5, (i : Int), wrap64 (wrap64 ((q.f2.length : Int) + (m : Int)) + 1)) : Int × Int × Int)) r := by
      intro c
      rw [if_pos c] at h1
      refine Ev.as (Ev.now _) ?_
      rw [h1 (by omega), wrap2 q.f2.length m hp (by omega)]
    have good : ¬ ((a.f0 = 2 ∨ a.f0 = 3) ∧ (a.f1 < 1 ∨ n < a.f1)) → Ev (fun k => spec_CheckRules.l2 k R (i : Int) n R (R.length : Int) (i : Int) q.f4 (q.f4.length : Int) ((m + 1 : Nat) : Int) q.f0 q.f1 q.f2 q.f3 q.f4) r := by
      intro c
      rw [if_neg c] at h1 h2
      exact ih r h1 h2
    refine Ev.ite (fun c2 => ?_) (fun c2 => ?_)
    · refine Ev.ite (fun d1 => bad ⟨Or.inl c2, Or.inl d1⟩) (fun d1 => ?_)
      exact Ev.ite (fun d2 => bad ⟨Or.inl c2, Or.inr d2⟩) (fun d2 => good (fun z => by rcases z.2 with z | z; exact d1 z; exact d2 z))
    · refine Ev.ite (fun c3 => ?_) (fun c3 => ?_)
      · refine Ev.ite (fun d1 => bad ⟨Or.inr c3, Or.inl d1⟩) (fun d1 => ?_)
        exact Ev.ite (fun d2 => bad ⟨Or.inr c3, Or.inr d2⟩) (fun d2 => good (fun z => by rcases z.2 with z | z; exact d1 z; exact d2 z))
      · exact good (fun z => by rcases z.1 with z | z; exact c2 z; exact c3 z)
theorem nameSpec (i : Nat) (hi : i < R.length) (h16 : R.length ≤ 16) (q : S42) (T : List S42) (hT : T.length ≤ 16) : ∀ j, j ≤ T.length → ∀ r, (memS q.f0 ((T.drop j).map fun p => p.f0) = true → r = (2, (i : Int), 0)) →
    (memS q.f0 ((T.drop j).map fun p => p.f0) = false → Ev (fun k => (spec_l2Positive.f k q.f0 q.f1 q.f2 q.f3 q.f4).bind fun t203 => (if t203 < 1 then (spec_CheckRules.j2 k R (i : Int) t203 R (R.length : Int) (i : Int) true q.f0 q.f1 q.f2 q.f3 q.f4) else (spec_CheckRules.j2 k R (i : Int) t203 R (R.length : Int) (i : Int) (decide (t203 > 3)) q.f0 q.f1 q.f2 q.f3 q.f4))) r) →
    Ev (fun k => spec_CheckRules.l1 k R (i : Int) R (R.length : Int) (i : Int) T (T.length : Int) (j : Int) q.f0 q.f1 q.f2 q.f3 q.f4) r := by
  refine up_ind ?_ ?_
  · intro r _ h2
    refine Ev.step (fun k => by simp only [spec_CheckRules.l1]; exact rfl) ?_
    refine Ev.ifF (by omega) (h2 ?_)
    rw [List.drop_length]; rfl
  · intro j hj ih r h1 h2
    have hrd : rd_T42 T (j : Int) = T.getD j z42 := by simp [rd_T42]
    rw [drop_getD z42 hj] at h1 h2
    refine Ev.step (fun k => by simp only [spec_CheckRules.l1, wrap_succ hj (show T.length ≤ 9223372036854775807 by omega), hrd]; exact rfl) ?_
    generalize T.getD j z42 = p at *
    simp only [List.map_cons, memS] at h1 h2
    refine Ev.ifT (by omega) (Ev.ifT (by omega) (Ev.ifT (by omega) ?_))
    refine Ev.ite (fun c => ?_) (fun c => ?_)
    · rw [beq_iff_eq.2 c, Bool.true_or] at h1
      exact Ev.as (Ev.now _) (h1 rfl).symm
    · rw [beq_eq_false_iff_ne.2 c, Bool.false_or] at h1 h2
      exact ih r h1 h2
theorem memS_rev (s : ByteArray) (L : List ByteArray) : memS s L.reverse = memS s L := by
  induction L with
  | nil => rfl
  | cons u r ih =>
    rw [List.reverse_cons, memS_snoc, ih]
    simp only [memS]
    exact Bool.or_comm _ _
def namesB (i : Nat) : List ByteArray := ((R.take i).map fun p => p.f0).reverse
theorem checkLoop (h16 : R.length ≤ 16) (hsz : ∀ q, q ∈ R → RuleSz q) : ∀ i, i ≤ R.length → ∃ y : Int × Int × Int, Ev (fun k => spec_CheckRules.l0 k R R (R.length : Int) (i : Int)) y ∧ Ev (fun k => ck_rules k (R.drop i) i (namesB R i)) y ∧
    (y = (0, 0, 0) ∧ (∀ j, i ≤ j → j < R.length → RuleOK (R.getD j z42) ∧ memS (R.getD j z42).f0 (namesB R j) = false) ∨ 1 ≤ y.1) := by
  refine up_ind ?_ ?_
  · refine ⟨(0, 0, 0), ?_, ?_, Or.inl ⟨rfl, fun j h1 h2 => by omega⟩⟩
    · refine Ev.step (fun k => by simp only [spec_CheckRules.l0]; exact rfl) ?_
      exact Ev.ifF (by omega) (Ev.now _)
    · rw [List.drop_length]
      exact Ev.now _
  · intro i hi ih
    obtain ⟨y, ih1, ih2, ih3⟩ := ih
    have hrd : rd_T42 R (i : Int) = R.getD i z42 := by simp [rd_T42]
    have hq := hsz _ (getD_in z42 hi)
    have hnext : namesB R (i + 1) = (R.getD i z42).f0 :: namesB R i := by
      unfold namesB
      rw [List.take_succ_eq_append_getElem hi, List.map_append, List.reverse_append, getD_lt z42 hi]
      rfl
    rw [hnext] at ih2
    have hcase : (RuleOK (R.getD i z42) ∧ memS (R.getD i z42).f0 (namesB R i) = false) → (y = (0, 0, 0) ∧ (∀ j, i ≤ j → j < R.length → RuleOK (R.getD j z42) ∧ memS (R.getD j z42).f0 (namesB R j) = false) ∨ 1 ≤ y.1) := by
      intro hc
      refine ih3.imp (fun z => ⟨z.1, fun j h1 h2 => ?_⟩) id
      by_cases e : j = i
      · subst e; exact hc
      · exact z.2 j (by omega) h2
    rw [drop_getD z42 hi]
    clear ih3 hnext
    have startS : ∀ r, Ev (fun k => (spec_l2Shape.f k (R.getD i z42).f0 (R.getD i z42).f1 (R.getD i z42).f2 (R.getD i z42).f3 (R.getD i z42).f4).bind fun t196 => (if t196 ≥ 0 then (some (1, (i : Int), t196)) else (spec_CheckRules.l1 k R (i : Int) R (R.length : Int) (i : Int) (R.take i) ((R.take i).length : Int) ((0 : Nat) : Int) (R.getD i z42).f0 (R.getD i z42).f1 (R.getD i z42).f2 (R.getD i z42).f3 (R.getD i z42).f4))) r → Ev (fun k => spec_CheckRules.l0 k R R (R.length : Int) (i : Int)) r := by
      intro r hr
      obtain ⟨Kr, hr⟩ := hr
      refine ⟨Kr + 1, fun k hk => ?_⟩
      obtain ⟨m, rfl⟩ : ∃ m, k = m + 1 := ⟨k - 1, by omega⟩
      have := hr m (by omega)
      dsimp only at this ⊢
      simp only [spec_CheckRules.l0, hrd]
      rw [if_pos (by omega), if_pos (by omega), if_pos (by omega), if_pos (by omega)]
      simp only [Option.bind_some, Int.toNat_natCast]
      exact this
    generalize hqq : R.getD i z42 = q at *
    obtain ⟨hq0, hqe⟩ := hq
    obtain ⟨v, hs1, hs2, hs3⟩ := shape_both q.f0 q.f1 q.f2 q.f3 q.f4 (fun e he => (hqe e he).1)
    have startI : ∀ r, Ev (fun k => (if 0 ≤ v then some (1, (i : Int), v) else
      if memS q.f0 (namesB R i) = true then some (2, (i : Int), 0) else
      (impl_Rule_positives.f k q.f0 q.f1 q.f2 q.f3 q.f4).bind fun n => if n < 1 ∨ 3 < n then some (3, (i : Int), 0) else
      (impl_Rule_scopeFault.f q.f0 q.f1 q.f2 q.f3 q.f4).bind fun c => if 0 ≤ c then some (4, (i : Int), c) else
      if q.f2.length ≤ 6 ∧ q.f4.length ≤ 8 then (if ck_acts n q.f2.length q.f4 0 = -1 then ck_rules k (R.drop (i + 1)) (i + 1) (q.f0 :: namesB R i) else some (5, (i : Int), ck_acts n q.f2.length q.f4 0)) else none : Option (Int × Int × Int))) r → Ev (fun k => ck_rules k (q :: R.drop (i + 1)) i (namesB R i)) r := by
      intro r hr
      refine Ev.congr (fun k => by unfold ck_rules; rw [if_pos hq0, hs2]) ?_
      exact hr
    rcases hs3 with ⟨hv, hS⟩ | hv
    rotate_left
    · exact ⟨(1, (i : Int), v), startS _ (Ev.bind hs1 (Ev.ifT hv (Ev.now _))), startI _ (Ev.ifT hv (Ev.now _)), Or.inr (by dsimp only; omega)⟩
    replace startS := fun r hr => startS r (Ev.bind hs1 (Ev.ifF (by omega) hr))
    replace startI := fun r hr => startI r (Ev.ifF (by omega) hr)
    have hS2 := hS
    obtain ⟨_, hp6, ha8, h60, _, _⟩ := hS2
    have hnames : memS q.f0 (((R.take i).drop 0).map fun p => p.f0) = memS q.f0 (namesB R i) := by
      unfold namesB
      rw [memS_rev, List.drop_zero]
    have hname := nameSpec R i hi h16 q (R.take i) (by rw [List.length_take]; omega) 0 (Nat.zero_le _)
    rw [hnames] at hname
    cases hm : memS q.f0 (namesB R i) with
    | true =>
      rw [hm] at startI hname
      exact ⟨(2, (i : Int), 0), startS _ (hname _ (fun _ => rfl) (fun e => by cases e)), startI _ (Ev.ifT (by trivial) (Ev.now _)), Or.inr (by dsimp only; omega)⟩
    | false =>
    rw [hm] at startI hname hcase
    replace startI := fun r hr => startI r (Ev.ifF (by simp) (Ev.bind (implPos_some q.f0 q.f1 q.f2 q.f3 q.f4 hp6) hr))
    replace startS := fun r hr => startS r (hname r (fun e => by cases e) (fun _ => Ev.bind (specPos_some q.f0 q.f1 q.f2 q.f3 q.f4 hp6) hr))
    have hj2 : ∀ b r, (b = true → r = (3, (i : Int), 0)) → (b = false → Ev (fun k => (spec_l2Scope.f k q.f0 q.f1 q.f2 q.f3 q.f4).bind fun t204 => (if t204 ≥ 0 then (some (4, (i : Int), t204)) else (spec_CheckRules.l2 k R (i : Int) (posN q.f2 : Int) R (R.length : Int) (i : Int) q.f4 (q.f4.length : Int) 0 q.f0 q.f1 q.f2 q.f3 q.f4))) r) →
        Ev (fun k => spec_CheckRules.j2 k R (i : Int) (posN q.f2 : Int) R (R.length : Int) (i : Int) b q.f0 q.f1 q.f2 q.f3 q.f4) r := by
      intro b r h1 h2
      refine Ev.step (fun k => by simp only [spec_CheckRules.j2]; exact rfl) ?_
      cases b with
      | true => exact Ev.ifT (by trivial) (Ev.as (Ev.now _) (h1 rfl).symm)
      | false => exact Ev.ifF (by simp) (h2 rfl)
    by_cases n1 : (posN q.f2 : Int) < 1
    · exact ⟨(3, (i : Int), 0), startS _ (Ev.ifT n1 (hj2 _ _ (fun _ => rfl) (fun e => by cases e))), startI _ (Ev.ifT (Or.inl n1) (Ev.now _)), Or.inr (by dsimp only; omega)⟩
    by_cases n3 : (posN q.f2 : Int) > 3
    · exact ⟨(3, (i : Int), 0), startS _ (Ev.ifF n1 (hj2 _ _ (fun _ => rfl) (fun e => absurd n3 (of_decide_eq_false e)))), startI _ (Ev.ifT (Or.inr n3) (Ev.now _)), Or.inr (by dsimp only; omega)⟩
    replace startS := fun r hr => startS r (Ev.ifF n1 (hj2 _ r (fun e => absurd (of_decide_eq_true e) n3) (fun _ => hr)))
    replace startI := fun r hr => startI r (Ev.ifF (by omega) hr)
    obtain ⟨c, hc1, hc2, hc3⟩ := scope_both q.f0 q.f1 q.f2 q.f3 q.f4 (fun e he => (hqe e he).2) hS
    replace startI := fun r hr => startI r (Ev.bindE hc2 hr)
    rcases hc3 with hc3 | hc3
    rotate_left
    · exact ⟨(4, (i : Int), c), startS _ (Ev.bind hc1 (Ev.ifT hc3 (Ev.now _))), startI _ (Ev.ifT hc3 (Ev.now _)), Or.inr (by dsimp only; omega)⟩
    replace startS := fun r hr => startS r (Ev.bind hc1 (Ev.ifF (by omega) hr))
    replace startI := fun r hr => startI r (Ev.ifF (by omega) (Ev.ifT ⟨hp6, ha8⟩ hr))
    have hck := ckSpec R i hi q (posN q.f2 : Int) hp6 ha8 0 (Nat.zero_le _)
    rw [List.drop_zero] at hck
    rcases ck_acts_sign (posN q.f2 : Int) q.f2.length q.f4 0 with hk | hk
    · refine ⟨y, startS _ (hck _ (fun e => by omega) (fun _ => ?_)), startI _ (Ev.ifT hk ih2), hcase ⟨⟨hS, by omega, by omega, by rw [hc2, hc3], hk⟩, rfl⟩⟩
      rw [wrap_succ hi (show R.length ≤ 9223372036854775807 by omega)]
      exact ih1
    · exact ⟨_, startS _ (hck _ (fun _ => rfl) (fun e => by omega)), startI _ (Ev.ifF (by omega) (Ev.now _)), Or.inr (by dsimp only; omega)⟩
theorem check_both (hsz : ∀ q, q ∈ R → RuleSz q) : ∃ y : Int × Int × Int, Ev (fun k => spec_CheckRules.f k R) y ∧ Ev (fun k => impl_CheckRules.f k R) y ∧
    (y = (0, 0, 0) ∧ R.length ≤ 16 ∧ (∀ j, j < R.length → RuleOK (R.getD j z42) ∧ memS (R.getD j z42).f0 (namesB R j) = false) ∨ 1 ≤ y.1) := by
  by_cases c : 16 < R.length
  · refine ⟨(1, 0, 0), ?_, ?_, Or.inr (by dsimp only; omega)⟩
    · refine Ev.congr (fun k => by unfold spec_CheckRules.f; exact rfl) ?_
      exact Ev.ifT (by omega) (Ev.now _)
    · refine Ev.congr (fun k => by unfold impl_CheckRules.f; exact rfl) ?_
      exact Ev.ifT c (Ev.now _)
  · obtain ⟨y, h1, h2, h3⟩ := checkLoop R (by omega) hsz 0 (Nat.zero_le _)
    refine ⟨y, ?_, ?_, h3.imp (fun z => ⟨z.1, by omega, fun j hj => z.2 j (Nat.zero_le _) hj⟩) id⟩
    · refine Ev.congr (fun k => by unfold spec_CheckRules.f; exact rfl) ?_
      exact Ev.ifF (by omega) h1
    · refine Ev.congr (fun k => by unfold impl_CheckRules.f; exact rfl) ?_
      refine Ev.ifF c ?_
      rw [List.drop_zero] at h2
      exact h2
end
end Go.Proofs.Ytejjlkbbnhpbdaa.Pure
namespace Go.Proofs.Ytejjlkbbnhpbdaa.Pure
open Go.RowKit Go.Proofs.Ytejjlkbbnhpbdaa.P Go.Proofs.YtejjlkbbnhpbdaaW.PrintWords Go.Proofs.YtejjlkbbnhpbdaaW.PrintLast Go.Proofs.YtejjlkbbnhpbdaaX
set_option linter.unusedVariables false
set_option linter.unusedSimpArgs false
theorem sz_IntS (xs : List Int) (ol : xs.length ≤ 9223372036854775807) (left : Int) (h0 : 0 ≤ left) (h1 : left ≤ 1048576) : laws_szIntS.f xs left = some (szv xs.length left) := by
  have e : wrap64 (left - (xs.length : Int)) = left - (xs.length : Int) := wrap_left h0 h1 ol
  unfold laws_szIntS.f
  rw [e]
  by_cases c : left - (xs.length : Int) < 0
  · rw [if_pos c, szv_neg (by omega)]
  · rw [if_neg c, szv_pos (by omega)]
theorem to_IntS (xs : List Int) (hs : xs.length ≤ 1048576) : Ev (fun k => laws_toIntS.f k xs) xs := by
  have key := to_loop xs (0 : Int) id (fun k out i => laws_toIntS.l0 k xs out i) ?_ ?_ (List.replicate xs.length (0 : Int)) List.length_replicate
  · obtain ⟨K, hK⟩ := key
    refine ⟨K, fun k hk => ?_⟩
    dsimp only
    unfold laws_toIntS.f
    rw [if_pos (by omega), if_pos (by rw [Int.toNat_natCast]; omega), Int.toNat_natCast]
    have := hK k hk
    rw [List.map_id] at this
    exact this
  · intro i out r hi ho h
    obtain ⟨K, hK⟩ := h
    have hrd : rd xs (i : Int) = xs.getD i 0 := by simp [rd]
    refine ⟨K + 1, fun k hk => ?_⟩
    dsimp only
    obtain ⟨m, rfl⟩ : ∃ m, k = m + 1 := ⟨k - 1, by omega⟩
    simp only [laws_toIntS.l0]
    rw [if_pos (by omega), if_pos (by omega), if_pos (by omega), hrd, wrap_succ hi (by omega), Int.toNat_natCast]
    exact hK m (by omega)
  · intro out ho
    refine ⟨1, fun k hk => ?_⟩
    dsimp only
    obtain ⟨m, rfl⟩ : ∃ m, k = m + 1 := ⟨k - 1, by omega⟩
    simp only [laws_toIntS.l0]
    rw [if_neg (by omega)]
theorem eq_IntS (xs : List Int) (hl : xs.length ≤ 9223372036854775807) : Ev (fun k => laws_eqIntS.f k xs xs) true := by
  have key := eq_loop xs.length (fun k i => laws_eqIntS.l0 k xs xs i) ?_ ?_
  · obtain ⟨K, hK⟩ := key
    refine ⟨K, fun k hk => ?_⟩
    dsimp only
    unfold laws_eqIntS.f
    rw [if_pos (by trivial)]
    exact hK k hk
  · intro i hi h
    obtain ⟨K, hK⟩ := h
    refine ⟨K + 1, fun k hk => ?_⟩
    dsimp only
    obtain ⟨m, rfl⟩ : ∃ m, k = m + 1 := ⟨k - 1, by omega⟩
    simp only [laws_eqIntS.l0]
    rw [if_pos (by omega), if_pos (by omega), if_pos (by omega), if_pos (by trivial), wrap_succ hi hl]
    exact hK m (by omega)
  · refine ⟨1, fun k hk => ?_⟩
    dsimp only
    obtain ⟨m, rfl⟩ : ∃ m, k = m + 1 := ⟨k - 1, by omega⟩
    simp only [laws_eqIntS.l0]
    rw [if_neg (by omega)]
def cvValue (x : S91) : S66 := ⟨x.f0, x.f1, x.f2⟩
def tzValue (x : S91) : Nat := x.f2.size
def okValue (x : S91) : Prop := okInt x.f0 ∧ okInt x.f1 ∧ x.f2.size ≤ 9223372036854775807
theorem sz_Value (x : S91) (hok : okValue x) (left : Int) (h0 : 0 ≤ left) (h1 : left ≤ 1048576) : laws_szValue.f x.f0 x.f1 x.f2 left = some (szv (tzValue x) left) := by
  obtain ⟨o0, o1, o2⟩ := hok
  have e2 : wrap64 (left - (x.f2.size : Int)) = left - (x.f2.size : Int) := wrap_left (by omega) (by omega) o2
  by_cases c2 : left - (x.f2.size : Int) < 0
  · have hz : szv (tzValue x) left = -1 := szv_neg (by unfold tzValue; omega)
    rw [hz]
    unfold laws_szValue.f
    rw [e2, if_pos c2]
    try rfl
  · skip
    have hz : szv (tzValue x) left = (left - (x.f2.size : Int)) := by rw [szv_pos (by unfold tzValue; omega)]; unfold tzValue; omega
    rw [hz]
    unfold laws_szValue.f
    rw [e2, if_neg c2]
    try rfl
theorem eq_Value (x : S66) : laws_eqValue.f x.f0 x.f1 x.f2 x.f0 x.f1 x.f2 = some true := by
  unfold laws_eqValue.f
  rw [if_pos (by trivial)]
  rw [if_pos (by trivial)]
  rw [if_pos (by trivial)]
def cvTerm (x : S120) : S68 := ⟨x.f0, x.f1, x.f2, (cvValue x.f3)⟩
def tzTerm (x : S120) : Nat := x.f2.size + tzValue x.f3
def okTerm (x : S120) : Prop := okInt x.f0 ∧ okInt x.f1 ∧ x.f2.size ≤ 9223372036854775807 ∧ okValue x.f3
def tzTermS (xs : List S120) : Nat := xs.length + (xs.map tzTerm).sum
def okTermS (xs : List S120) : Prop := xs.length ≤ 9223372036854775807 ∧ ∀ x, x ∈ xs → okTerm x
theorem sz_Term (x : S120) (hok : okTerm x) (left : Int) (h0 : 0 ≤ left) (h1 : left ≤ 1048576) : laws_szTerm.f x.f0 x.f1 x.f2 x.f3.f0 x.f3.f1 x.f3.f2 left = some (szv (tzTerm x) left) := by
  obtain ⟨o0, o1, o2, o3⟩ := hok
  have e2 : wrap64 (left - (x.f2.size : Int)) = left - (x.f2.size : Int) := wrap_left (by omega) (by omega) o2
  by_cases c2 : left - (x.f2.size : Int) < 0
  · have hz : szv (tzTerm x) left = -1 := szv_neg (by unfold tzTerm; omega)
    rw [hz]
    unfold laws_szTerm.f
    rw [e2, if_pos c2]
    try rfl
  · skip
    have s3 := sz_Value x.f3 o3 (left - (x.f2.size : Int)) (by omega) (by omega)
    by_cases c3 : (left - (x.f2.size : Int)) < ((tzValue x.f3 : Nat) : Int)
    · have hz : szv (tzTerm x) left = -1 := szv_neg (by unfold tzTerm; omega)
      rw [hz]
      rw [szv_neg c3] at s3
      unfold laws_szTerm.f
      rw [e2, if_neg c2]
      rw [s3]
      rfl
    · have d3 : ((tzValue x.f3 : Nat) : Int) ≤ (left - (x.f2.size : Int)) := by omega
      rw [szv_pos d3] at s3
      have hz : szv (tzTerm x) left = ((left - (x.f2.size : Int)) - ((tzValue x.f3 : Nat) : Int)) := by rw [szv_pos (by unfold tzTerm; omega)]; unfold tzTerm; omega
      rw [hz]
      unfold laws_szTerm.f
      rw [e2, if_neg c2]
      rw [s3]
      simp only [Option.bind_some]
      rw [if_neg (by omega)]
      try rfl
theorem to_Term (x : S120) : laws_toTerm.f x.f0 x.f1 x.f2 x.f3.f0 x.f3.f1 x.f3.f2 = some (x.f0, x.f1, x.f2, x.f3.f0, x.f3.f1, x.f3.f2) := rfl
theorem eq_Term (x : S68) : laws_eqTerm.f x.f0 x.f1 x.f2 x.f3.f0 x.f3.f1 x.f3.f2 x.f0 x.f1 x.f2 x.f3.f0 x.f3.f1 x.f3.f2 = some true := by
  unfold laws_eqTerm.f
  rw [if_pos (by trivial)]
  rw [if_pos (by trivial)]
  rw [if_pos (by trivial)]
  rw [eq_Value x.f3]
  simp only [Option.bind_some]
  rw [if_pos (by trivial)]
theorem sz_TermS (xs : List S120) (hok : okTermS xs) (left : Int) (h0 : 0 ≤ left) (h1 : left ≤ 1048576) : Ev (fun k => laws_szTermS.f k xs left) (szv (tzTermS xs) left) := by
  obtain ⟨ol, oe⟩ := hok
  have e : wrap64 (left - (xs.length : Int)) = left - (xs.length : Int) := wrap_left h0 h1 ol
  by_cases c : left - (xs.length : Int) < 0
  · have hz : szv (tzTermS xs) left = -1 := szv_neg (by unfold tzTermS; omega)
    rw [hz]
    refine ⟨0, fun k _ => ?_⟩
    dsimp only
    unfold laws_szTermS.f
    rw [e, if_pos c]
  · have hz : szv (tzTermS xs) left = szv (xs.map tzTerm).sum (left - (xs.length : Int)) := by unfold szv tzTermS; split <;> split <;> omega
    rw [hz]
    have key := sz_loop xs z120 tzTerm (fun k l i => laws_szTermS.l0 k xs l i) ?_ ?_ (left - (xs.length : Int)) (by omega) (by omega)
    · obtain ⟨K, hK⟩ := key
      refine ⟨K, fun k hk => ?_⟩
      dsimp only
      unfold laws_szTermS.f
      rw [e, if_neg c]
      exact hK k hk
    · intro i l r hi g0 g1 hneg hpos
      have hrd : rd_T120 xs (i : Int) = xs.getD i z120 := by simp [rd_T120]
      have s := sz_Term (xs.getD i z120) (oe _ (getD_in _ hi)) l g0 g1
      by_cases c2 : l < (tzTerm (xs.getD i z120) : Int)
      · rw [hneg c2]
        rw [szv_neg c2] at s
        refine ⟨0 + 1, fun k hk => ?_⟩
        dsimp only
        obtain ⟨m, rfl⟩ : ∃ m, k = m + 1 := ⟨k - 1, by omega⟩
        simp only [laws_szTermS.l0]
        rw [if_pos (by omega), if_pos (by omega), hrd, s]
        rfl
      · have d2 : (tzTerm (xs.getD i z120) : Int) ≤ l := by omega
        obtain ⟨K2, h2⟩ := hpos d2
        rw [szv_pos d2] at s
        refine ⟨K2 + 1, fun k hk => ?_⟩
        dsimp only
        obtain ⟨m, rfl⟩ : ∃ m, k = m + 1 := ⟨k - 1, by omega⟩
        simp only [laws_szTermS.l0]
        rw [if_pos (by omega), if_pos (by omega), hrd, s]
        simp only [Option.bind_some]
        rw [if_neg (by omega), wrap_succ hi ol]
        exact h2 m (by omega)
    · intro l
      refine ⟨1, fun k hk => ?_⟩
      dsimp only
      obtain ⟨m, rfl⟩ : ∃ m, k = m + 1 := ⟨k - 1, by omega⟩
      simp only [laws_szTermS.l0]
      rw [if_neg (by omega)]
theorem to_TermS (xs : List S120) (hs : tzTermS xs ≤ 1048576) : Ev (fun k => laws_toTermS.f k xs) (xs.map cvTerm) := by
  unfold tzTermS at hs
  have key := to_loop xs z120 cvTerm (fun k out i => laws_toTermS.l0 k xs out i) ?_ ?_ (List.replicate xs.length z68) List.length_replicate
  · obtain ⟨K, hK⟩ := key
    refine ⟨K, fun k hk => ?_⟩
    dsimp only
    unfold laws_toTermS.f
    rw [if_pos (by omega), if_pos (by rw [Int.toNat_natCast]; omega), Int.toNat_natCast]
    exact hK k hk
  · intro i out r hi ho h
    obtain ⟨K, hK⟩ := h
    have hrd : rd_T120 xs (i : Int) = xs.getD i z120 := by simp [rd_T120]
    have h1 := to_Term (xs.getD i z120)
    refine ⟨K + 1, fun k hk => ?_⟩
    dsimp only
    obtain ⟨m, rfl⟩ : ∃ m, k = m + 1 := ⟨k - 1, by omega⟩
    simp only [laws_toTermS.l0]
    rw [if_pos (by omega), if_pos (by omega), hrd, h1]
    simp only [Option.bind_some]
    rw [if_pos (by omega), wrap_succ hi (by omega), Int.toNat_natCast]
    exact hK m (by omega)
  · intro out ho
    refine ⟨1, fun k hk => ?_⟩
    dsimp only
    obtain ⟨m, rfl⟩ : ∃ m, k = m + 1 := ⟨k - 1, by omega⟩
    simp only [laws_toTermS.l0]
    rw [if_neg (by omega)]
theorem eq_TermS (xs : List S68) (hl : xs.length ≤ 9223372036854775807) : Ev (fun k => laws_eqTermS.f k xs xs) true := by
  have key := eq_loop xs.length (fun k i => laws_eqTermS.l0 k xs xs i) ?_ ?_
  · obtain ⟨K, hK⟩ := key
    refine ⟨K, fun k hk => ?_⟩
    dsimp only
    unfold laws_eqTermS.f
    rw [if_pos (by trivial)]
    exact hK k hk
  · intro i hi h
    obtain ⟨K, hK⟩ := h
    have hrd : rd_T68 xs (i : Int) = xs.getD i z68 := by simp [rd_T68]
    have h1 := eq_Term (xs.getD i z68)
    refine ⟨K + 1, fun k hk => ?_⟩
    dsimp only
    obtain ⟨m, rfl⟩ : ∃ m, k = m + 1 := ⟨k - 1, by omega⟩
    simp only [laws_eqTermS.l0]
    rw [if_pos (by omega), if_pos (by omega), if_pos (by omega), hrd, h1]
    simp only [Option.bind_some]
    rw [if_pos (by trivial), wrap_succ hi hl]
    exact hK m (by omega)
  · refine ⟨1, fun k hk => ?_⟩
    dsimp only
    obtain ⟨m, rfl⟩ : ∃ m, k = m + 1 := ⟨k - 1, by omega⟩
    simp only [laws_eqTermS.l0]
    rw [if_neg (by omega)]
def cvPattern (x : S89) : S59 := ⟨x.f0, x.f1, (x.f2.map cvTerm)⟩
def tzPattern (x : S89) : Nat := x.f1.size + tzTermS x.f2
def okPattern (x : S89) : Prop := x.f1.size ≤ 9223372036854775807 ∧ okTermS x.f2
def tzPatternS (xs : List S89) : Nat := xs.length + (xs.map tzPattern).sum
def okPatternS (xs : List S89) : Prop := xs.length ≤ 9223372036854775807 ∧ ∀ x, x ∈ xs → okPattern x
theorem sz_Pattern (x : S89) (hok : okPattern x) (left : Int) (h0 : 0 ≤ left) (h1 : left ≤ 1048576) : Ev (fun k => laws_szPattern.f k x.f0 x.f1 x.f2 left) (szv (tzPattern x) left) := by
  obtain ⟨o1, o2⟩ := hok
  have e1 : wrap64 (left - (x.f1.size : Int)) = left - (x.f1.size : Int) := wrap_left (by omega) (by omega) o1
  by_cases c1 : left - (x.f1.size : Int) < 0
  · have hz : szv (tzPattern x) left = -1 := szv_neg (by unfold tzPattern; omega)
    rw [hz]
    refine ⟨0, fun k hk => ?_⟩
    dsimp only
    unfold laws_szPattern.f
    rw [e1, if_pos c1]
    try rfl
  · skip
    obtain ⟨K2, s2⟩ := sz_TermS x.f2 o2 (left - (x.f1.size : Int)) (by omega) (by omega)
    by_cases c2 : (left - (x.f1.size : Int)) < ((tzTermS x.f2 : Nat) : Int)
    · have hz : szv (tzPattern x) left = -1 := szv_neg (by unfold tzPattern; omega)
      rw [hz]
      simp only [szv_neg c2] at s2
      refine ⟨K2, fun k hk => ?_⟩
      dsimp only
      unfold laws_szPattern.f
      rw [e1, if_neg c1]
      rw [s2 k (by omega)]
      rfl
    · have d2 : ((tzTermS x.f2 : Nat) : Int) ≤ (left - (x.f1.size : Int)) := by omega
      simp only [szv_pos d2] at s2
      have hz : szv (tzPattern x) left = ((left - (x.f1.size : Int)) - ((tzTermS x.f2 : Nat) : Int)) := by rw [szv_pos (by unfold tzPattern; omega)]; unfold tzPattern; omega
      rw [hz]
      refine ⟨K2, fun k hk => ?_⟩
      dsimp only
      unfold laws_szPattern.f
      rw [e1, if_neg c1]
      rw [s2 k (by omega)]
      simp only [Option.bind_some]
      rw [if_neg (by omega)]
      try rfl
theorem to_Pattern (x : S89) (hs : tzPattern x ≤ 1048576) : Ev (fun k => laws_toPattern.f k x.f0 x.f1 x.f2) (x.f0, x.f1, (x.f2.map cvTerm)) := by
  unfold tzPattern at hs
  obtain ⟨K2, h2⟩ := to_TermS x.f2 (by omega)
  dsimp only at h2
  refine ⟨K2, fun k hk => ?_⟩
  dsimp only
  unfold laws_toPattern.f
  rw [h2 k (by omega)]
  simp only [Option.bind_some]
  try rfl
def lePattern (x : S59) : Prop := x.f2.length ≤ 9223372036854775807
theorem eq_Pattern (x : S59) (hl : lePattern x) : Ev (fun k => laws_eqPattern.f k x.f0 x.f1 x.f2 x.f0 x.f1 x.f2) true := by
  have o2 := hl
  unfold lePattern at o2
  obtain ⟨K2, h2⟩ := eq_TermS x.f2 o2
  dsimp only at h2
  refine ⟨K2, fun k hk => ?_⟩
  dsimp only
  unfold laws_eqPattern.f
  rw [if_neg (by simp)]
  rw [if_pos (by trivial)]
  rw [h2 k (by omega)]
  simp only [Option.bind_some]
  rw [if_pos (by trivial)]
theorem sz_PatternS (xs : List S89) (hok : okPatternS xs) (left : Int) (h0 : 0 ≤ left) (h1 : left ≤ 1048576) : Ev (fun k => laws_szPatternS.f k xs left) (szv (tzPatternS xs) left) := by
  obtain ⟨ol, oe⟩ := hok
  have e : wrap64 (left - (xs.length : Int)) = left - (xs.length : Int) := wrap_left h0 h1 ol
  by_cases c : left - (xs.length : Int) < 0
  · have hz : szv (tzPatternS xs) left = -1 := szv_neg (by unfold tzPatternS; omega)
    rw [hz]
    refine ⟨0, fun k _ => ?_⟩
    dsimp only
    unfold laws_szPatternS.f
    rw [e, if_pos c]
  · have hz : szv (tzPatternS xs) left = szv (xs.map tzPattern).sum (left - (xs.length : Int)) := by unfold szv tzPatternS; split <;> split <;> omega
    rw [hz]
    have key := sz_loop xs z89 tzPattern (fun k l i => laws_szPatternS.l0 k xs l i) ?_ ?_ (left - (xs.length : Int)) (by omega) (by omega)
    · obtain ⟨K, hK⟩ := key
      refine ⟨K, fun k hk => ?_⟩
      dsimp only
      unfold laws_szPatternS.f
      rw [e, if_neg c]
      exact hK k hk
    · intro i l r hi g0 g1 hneg hpos
      have hrd : rd_T89 xs (i : Int) = xs.getD i z89 := by simp [rd_T89]
      obtain ⟨K1, s⟩ := sz_Pattern (xs.getD i z89) (oe _ (getD_in _ hi)) l g0 g1
      by_cases c2 : l < (tzPattern (xs.getD i z89) : Int)
      · rw [hneg c2]
        simp only [szv_neg c2] at s
        refine ⟨K1 + 1, fun k hk => ?_⟩
        dsimp only
        obtain ⟨m, rfl⟩ : ∃ m, k = m + 1 := ⟨k - 1, by omega⟩
        simp only [laws_szPatternS.l0]
        rw [if_pos (by omega), if_pos (by omega), hrd, s m (by omega)]
        rfl
      · have d2 : (tzPattern (xs.getD i z89) : Int) ≤ l := by omega
        obtain ⟨K2, h2⟩ := hpos d2
        simp only [szv_pos d2] at s
        refine ⟨K1 + K2 + 1, fun k hk => ?_⟩
        dsimp only
        obtain ⟨m, rfl⟩ : ∃ m, k = m + 1 := ⟨k - 1, by omega⟩
        simp only [laws_szPatternS.l0]
        rw [if_pos (by omega), if_pos (by omega), hrd, s m (by omega)]
        simp only [Option.bind_some]
        rw [if_neg (by omega), wrap_succ hi ol]
        exact h2 m (by omega)
    · intro l
      refine ⟨1, fun k hk => ?_⟩
      dsimp only
      obtain ⟨m, rfl⟩ : ∃ m, k = m + 1 := ⟨k - 1, by omega⟩
      simp only [laws_szPatternS.l0]
      rw [if_neg (by omega)]
theorem to_PatternS (xs : List S89) (hs : tzPatternS xs ≤ 1048576) : Ev (fun k => laws_toPatternS.f k xs) (xs.map cvPattern) := by
  unfold tzPatternS at hs
  have key := to_loop xs z89 cvPattern (fun k out i => laws_toPatternS.l0 k xs out i) ?_ ?_ (List.replicate xs.length z59) List.length_replicate
  · obtain ⟨K, hK⟩ := key
    refine ⟨K, fun k hk => ?_⟩
    dsimp only
    unfold laws_toPatternS.f
    rw [if_pos (by omega), if_pos (by rw [Int.toNat_natCast]; omega), Int.toNat_natCast]
    exact hK k hk
  · intro i out r hi ho h
    obtain ⟨K, hK⟩ := h
    have hrd : rd_T89 xs (i : Int) = xs.getD i z89 := by simp [rd_T89]
    have hm := sum_le_of_mem tzPattern xs _ (getD_in z89 hi)
    obtain ⟨K1, h1⟩ := to_Pattern (xs.getD i z89) (by omega)
    dsimp only at h1
    refine ⟨K1 + K + 1, fun k hk => ?_⟩
    dsimp only
    obtain ⟨m, rfl⟩ : ∃ m, k = m + 1 := ⟨k - 1, by omega⟩
    simp only [laws_toPatternS.l0]
    rw [if_pos (by omega), if_pos (by omega), hrd, h1 m (by omega)]
    simp only [Option.bind_some]
    rw [if_pos (by omega), wrap_succ hi (by omega), Int.toNat_natCast]
    exact hK m (by omega)
  · intro out ho
    refine ⟨1, fun k hk => ?_⟩
    dsimp only
    obtain ⟨m, rfl⟩ : ∃ m, k = m + 1 := ⟨k - 1, by omega⟩
    simp only [laws_toPatternS.l0]
    rw [if_neg (by omega)]
def lePatternS (xs : List S59) : Prop := xs.length ≤ 9223372036854775807 ∧ ∀ x, x ∈ xs → lePattern x
theorem eq_PatternS (xs : List S59) (hl : lePatternS xs) : Ev (fun k => laws_eqPatternS.f k xs xs) true := by
  obtain ⟨hl, he⟩ := hl
  have key := eq_loop xs.length (fun k i => laws_eqPatternS.l0 k xs xs i) ?_ ?_
  · obtain ⟨K, hK⟩ := key
    refine ⟨K, fun k hk => ?_⟩
    dsimp only
    unfold laws_eqPatternS.f
    rw [if_pos (by trivial)]
    exact hK k hk
  · intro i hi h
    obtain ⟨K, hK⟩ := h
    have hrd : rd_T59 xs (i : Int) = xs.getD i z59 := by simp [rd_T59]
    obtain ⟨K1, h1⟩ := eq_Pattern (xs.getD i z59) (he _ (getD_in _ hi))
    dsimp only at h1
    refine ⟨K1 + K + 1, fun k hk => ?_⟩
    dsimp only
    obtain ⟨m, rfl⟩ : ∃ m, k = m + 1 := ⟨k - 1, by omega⟩
    simp only [laws_eqPatternS.l0]
    rw [if_pos (by omega), if_pos (by omega), if_pos (by omega), hrd, h1 m (by omega)]
    simp only [Option.bind_some]
    rw [if_pos (by trivial), wrap_succ hi hl]
    exact hK m (by omega)
  · refine ⟨1, fun k hk => ?_⟩
    dsimp only
    obtain ⟨m, rfl⟩ : ∃ m, k = m + 1 := ⟨k - 1, by omega⟩
    simp only [laws_eqPatternS.l0]
    rw [if_neg (by omega)]
theorem le_cvPattern (x : S89) (hs : tzPattern x ≤ 1048576) : lePattern (cvPattern x) := by
  unfold tzPattern at hs
  exact by show (x.f2.map cvTerm).length ≤ _; rw [List.length_map]; unfold tzTermS at hs; omega
theorem le_cvPatternS (xs : List S89) (hs : tzPatternS xs ≤ 1048576) : lePatternS (xs.map cvPattern) := by
  unfold tzPatternS at hs
  refine ⟨by rw [List.length_map]; omega, fun y hy => ?_⟩
  obtain ⟨x, hx, rfl⟩ := List.mem_map.1 hy
  have := sum_le_of_mem tzPattern xs x hx
  exact le_cvPattern x (by omega)
def cvExpr (x : S93) : S72 := ⟨x.f0, x.f1, x.f2, (cvValue x.f3), x.f4, x.f5⟩
def tzExpr (x : S93) : Nat := x.f2.size + tzValue x.f3
def okExpr (x : S93) : Prop := okInt x.f0 ∧ okByte x.f1 ∧ x.f2.size ≤ 9223372036854775807 ∧ okValue x.f3 ∧ okInt x.f4 ∧ okInt x.f5
def tzExprS (xs : List S93) : Nat := xs.length + (xs.map tzExpr).sum
def okExprS (xs : List S93) : Prop := xs.length ≤ 9223372036854775807 ∧ ∀ x, x ∈ xs → okExpr x
theorem sz_Expr (x : S93) (hok : okExpr x) (left : Int) (h0 : 0 ≤ left) (h1 : left ≤ 1048576) : laws_szExpr.f x.f0 x.f1 x.f2 x.f3.f0 x.f3.f1 x.f3.f2 x.f4 x.f5 left = some (szv (tzExpr x) left) := by
  obtain ⟨o0, o1, o2, o3, o4, o5⟩ := hok
  have e2 : wrap64 (left - (x.f2.size : Int)) = left - (x.f2.size : Int) := wrap_left (by omega) (by omega) o2
  by_cases c2 : left - (x.f2.size : Int) < 0
  · have hz : szv (tzExpr x) left = -1 := szv_neg (by unfold tzExpr; omega)
    rw [hz]
    unfold laws_szExpr.f
    rw [e2, if_pos c2]
    try rfl
  · skip
    have s3 := sz_Value x.f3 o3 (left - (x.f2.size : Int)) (by omega) (by omega)
    by_cases c3 : (left - (x.f2.size : Int)) < ((tzValue x.f3 : Nat) : Int)
    · have hz : szv (tzExpr x) left = -1 := szv_neg (by unfold tzExpr; omega)
      rw [hz]
      rw [szv_neg c3] at s3
      unfold laws_szExpr.f
      rw [e2, if_neg c2]
      rw [s3]
      rfl
    · have d3 : ((tzValue x.f3 : Nat) : Int) ≤ (left - (x.f2.size : Int)) := by omega
      rw [szv_pos d3] at s3
      have hz : szv (tzExpr x) left = ((left - (x.f2.size : Int)) - ((tzValue x.f3 : Nat) : Int)) := by rw [szv_pos (by unfold tzExpr; omega)]; unfold tzExpr; omega
      rw [hz]
      unfold laws_szExpr.f
      rw [e2, if_neg c2]
      rw [s3]
      simp only [Option.bind_some]
      rw [if_neg (by omega)]
      try rfl
theorem to_Expr (x : S93) : laws_toExpr.f x.f0 x.f1 x.f2 x.f3.f0 x.f3.f1 x.f3.f2 x.f4 x.f5 = some (x.f0, x.f1, x.f2, x.f3.f0, x.f3.f1, x.f3.f2, x.f4, x.f5) := rfl
theorem eq_Expr (x : S72) : laws_eqExpr.f x.f0 x.f1 x.f2 x.f3.f0 x.f3.f1 x.f3.f2 x.f4 x.f5 x.f0 x.f1 x.f2 x.f3.f0 x.f3.f1 x.f3.f2 x.f4 x.f5 = some true := by
  unfold laws_eqExpr.f
  rw [if_pos (by trivial)]
  rw [if_pos (by trivial)]
  rw [if_pos (by trivial)]
  rw [eq_Value x.f3]
  simp only [Option.bind_some]
  rw [if_pos (by trivial)]
  rw [if_pos (by trivial)]
  rw [if_pos (by trivial)]
theorem sz_ExprS (xs : List S93) (hok : okExprS xs) (left : Int) (h0 : 0 ≤ left) (h1 : left ≤ 1048576) : Ev (fun k => laws_szExprS.f k xs left) (szv (tzExprS xs) left) := by
  obtain ⟨ol, oe⟩ := hok
  have e : wrap64 (left - (xs.length : Int)) = left - (xs.length : Int) := wrap_left h0 h1 ol
  by_cases c : left - (xs.length : Int) < 0
  · have hz : szv (tzExprS xs) left = -1 := szv_neg (by unfold tzExprS; omega)
    rw [hz]
    refine ⟨0, fun k _ => ?_⟩
    dsimp only
    unfold laws_szExprS.f
    rw [e, if_pos c]
  · have hz : szv (tzExprS xs) left = szv (xs.map tzExpr).sum (left - (xs.length : Int)) := by unfold szv tzExprS; split <;> split <;> omega
    rw [hz]
    have key := sz_loop xs z93 tzExpr (fun k l i => laws_szExprS.l0 k xs l i) ?_ ?_ (left - (xs.length : Int)) (by omega) (by omega)
    · obtain ⟨K, hK⟩ := key
      refine ⟨K, fun k hk => ?_⟩
      dsimp only
      unfold laws_szExprS.f
      rw [e, if_neg c]
      exact hK k hk
    · intro i l r hi g0 g1 hneg hpos
      have hrd : rd_T93 xs (i : Int) = xs.getD i z93 := by simp [rd_T93]
      have s := sz_Expr (xs.getD i z93) (oe _ (getD_in _ hi)) l g0 g1
      by_cases c2 : l < (tzExpr (xs.getD i z93) : Int)
      · rw [hneg c2]
        rw [szv_neg c2] at s
        refine ⟨0 + 1, fun k hk => ?_⟩
        dsimp only
        obtain ⟨m, rfl⟩ : ∃ m, k = m + 1 := ⟨k - 1, by omega⟩
        simp only [laws_szExprS.l0]
        rw [if_pos (by omega), if_pos (by omega), hrd, s]
        rfl
      · have d2 : (tzExpr (xs.getD i z93) : Int) ≤ l := by omega
        obtain ⟨K2, h2⟩ := hpos d2
        rw [szv_pos d2] at s
        refine ⟨K2 + 1, fun k hk => ?_⟩
        dsimp only
        obtain ⟨m, rfl⟩ : ∃ m, k = m + 1 := ⟨k - 1, by omega⟩
        simp only [laws_szExprS.l0]
        rw [if_pos (by omega), if_pos (by omega), hrd, s]
        simp only [Option.bind_some]
        rw [if_neg (by omega), wrap_succ hi ol]
        exact h2 m (by omega)
    · intro l
      refine ⟨1, fun k hk => ?_⟩
      dsimp only
      obtain ⟨m, rfl⟩ : ∃ m, k = m + 1 := ⟨k - 1, by omega⟩
      simp only [laws_szExprS.l0]
      rw [if_neg (by omega)]
theorem to_ExprS (xs : List S93) (hs : tzExprS xs ≤ 1048576) : Ev (fun k => laws_toExprS.f k xs) (xs.map cvExpr) := by
  unfold tzExprS at hs
  have key := to_loop xs z93 cvExpr (fun k out i => laws_toExprS.l0 k xs out i) ?_ ?_ (List.replicate xs.length z72) List.length_replicate
  · obtain ⟨K, hK⟩ := key
    refine ⟨K, fun k hk => ?_⟩
    dsimp only
    unfold laws_toExprS.f
    rw [if_pos (by omega), if_pos (by rw [Int.toNat_natCast]; omega), Int.toNat_natCast]
    exact hK k hk
  · intro i out r hi ho h
    obtain ⟨K, hK⟩ := h
    have hrd : rd_T93 xs (i : Int) = xs.getD i z93 := by simp [rd_T93]
    have h1 := to_Expr (xs.getD i z93)
    refine ⟨K + 1, fun k hk => ?_⟩
    dsimp only
    obtain ⟨m, rfl⟩ : ∃ m, k = m + 1 := ⟨k - 1, by omega⟩
    simp only [laws_toExprS.l0]
    rw [if_pos (by omega), if_pos (by omega), hrd, h1]
    simp only [Option.bind_some]
    rw [if_pos (by omega), wrap_succ hi (by omega), Int.toNat_natCast]
    exact hK m (by omega)
  · intro out ho
    refine ⟨1, fun k hk => ?_⟩
    dsimp only
    obtain ⟨m, rfl⟩ : ∃ m, k = m + 1 := ⟨k - 1, by omega⟩
    simp only [laws_toExprS.l0]
    rw [if_neg (by omega)]
theorem eq_ExprS (xs : List S72) (hl : xs.length ≤ 9223372036854775807) : Ev (fun k => laws_eqExprS.f k xs xs) true := by
  have key := eq_loop xs.length (fun k i => laws_eqExprS.l0 k xs xs i) ?_ ?_
  · obtain ⟨K, hK⟩ := key
    refine ⟨K, fun k hk => ?_⟩
    dsimp only
    unfold laws_eqExprS.f
    rw [if_pos (by trivial)]
    exact hK k hk
  · intro i hi h
    obtain ⟨K, hK⟩ := h
    have hrd : rd_T72 xs (i : Int) = xs.getD i z72 := by simp [rd_T72]
    have h1 := eq_Expr (xs.getD i z72)
    refine ⟨K + 1, fun k hk => ?_⟩
    dsimp only
    obtain ⟨m, rfl⟩ : ∃ m, k = m + 1 := ⟨k - 1, by omega⟩
    simp only [laws_eqExprS.l0]
    rw [if_pos (by omega), if_pos (by omega), if_pos (by omega), hrd, h1]
    simp only [Option.bind_some]
    rw [if_pos (by trivial), wrap_succ hi hl]
    exact hK m (by omega)
  · refine ⟨1, fun k hk => ?_⟩
    dsimp only
    obtain ⟨m, rfl⟩ : ∃ m, k = m + 1 := ⟨k - 1, by omega⟩
    simp only [laws_eqExprS.l0]
    rw [if_neg (by omega)]
def cvAction (x : S95) : S46 := ⟨x.f0, x.f1, x.f2, x.f3⟩
def tzAction (x : S95) : Nat := x.f2.size + x.f3.length
def okAction (x : S95) : Prop := okInt x.f0 ∧ okInt x.f1 ∧ x.f2.size ≤ 9223372036854775807 ∧ okIntS x.f3
def tzActionS (xs : List S95) : Nat := xs.length + (xs.map tzAction).sum
def okActionS (xs : List S95) : Prop := xs.length ≤ 9223372036854775807 ∧ ∀ x, x ∈ xs → okAction x
theorem sz_Action (x : S95) (hok : okAction x) (left : Int) (h0 : 0 ≤ left) (h1 : left ≤ 1048576) : laws_szAction.f x.f0 x.f1 x.f2 x.f3 left = some (szv (tzAction x) left) := by
  obtain ⟨o0, o1, o2, o3⟩ := hok
  have e2 : wrap64 (left - (x.f2.size : Int)) = left - (x.f2.size : Int) := wrap_left (by omega) (by omega) o2
  by_cases c2 : left - (x.f2.size : Int) < 0
  · have hz : szv (tzAction x) left = -1 := szv_neg (by unfold tzAction; omega)
    rw [hz]
    unfold laws_szAction.f
    rw [e2, if_pos c2]
    try rfl
  · skip
    have s3 : laws_szIntS.f x.f3 (left - (x.f2.size : Int)) = some (szv (x.f3.length) (left - (x.f2.size : Int))) := sz_IntS x.f3 o3.1 (left - (x.f2.size : Int)) (by omega) (by omega)
    by_cases c3 : (left - (x.f2.size : Int)) < ((x.f3.length : Nat) : Int)
    · have hz : szv (tzAction x) left = -1 := szv_neg (by unfold tzAction; omega)
      rw [hz]
      rw [szv_neg c3] at s3
      unfold laws_szAction.f
      rw [e2, if_neg c2]
      rw [s3]
      rfl
    · have d3 : ((x.f3.length : Nat) : Int) ≤ (left - (x.f2.size : Int)) := by omega
      rw [szv_pos d3] at s3
      have hz : szv (tzAction x) left = ((left - (x.f2.size : Int)) - ((x.f3.length : Nat) : Int)) := by rw [szv_pos (by unfold tzAction; omega)]; unfold tzAction; omega
      rw [hz]
      unfold laws_szAction.f
      rw [e2, if_neg c2]
      rw [s3]
      simp only [Option.bind_some]
      rw [if_neg (by omega)]
      try rfl
theorem to_Action (x : S95) (hs : tzAction x ≤ 1048576) : Ev (fun k => laws_toAction.f k x.f0 x.f1 x.f2 x.f3) (x.f0, x.f1, x.f2, x.f3) := by
  unfold tzAction at hs
  obtain ⟨K3, h3⟩ := to_IntS x.f3 (by omega)
  dsimp only at h3
  refine ⟨K3, fun k hk => ?_⟩
  dsimp only
  unfold laws_toAction.f
  rw [h3 k (by omega)]
  simp only [Option.bind_some]
  try rfl
def leAction (x : S46) : Prop := x.f3.length ≤ 9223372036854775807
theorem eq_Action (x : S46) (hl : leAction x) : Ev (fun k => laws_eqAction.f k x.f0 x.f1 x.f2 x.f3 x.f0 x.f1 x.f2 x.f3) true := by
  have o3 := hl
  unfold leAction at o3
  obtain ⟨K3, h3⟩ := eq_IntS x.f3 o3
  dsimp only at h3
  refine ⟨K3, fun k hk => ?_⟩
  dsimp only
  unfold laws_eqAction.f
  rw [if_pos (by trivial)]
  rw [if_pos (by trivial)]
  rw [if_pos (by trivial)]
  rw [h3 k (by omega)]
  simp only [Option.bind_some]
  rw [if_pos (by trivial)]
theorem sz_ActionS (xs : List S95) (hok : okActionS xs) (left : Int) (h0 : 0 ≤ left) (h1 : left ≤ 1048576) : Ev (fun k => laws_szActionS.f k xs left) (szv (tzActionS xs) left) := by
  obtain ⟨ol, oe⟩ := hok
  have e : wrap64 (left - (xs.length : Int)) = left - (xs.length : Int) := wrap_left h0 h1 ol
  by_cases c : left - (xs.length : Int) < 0
  · have hz : szv (tzActionS xs) left = -1 := szv_neg (by unfold tzActionS; omega)
    rw [hz]
    refine ⟨0, fun k _ => ?_⟩
    dsimp only
    unfold laws_szActionS.f
    rw [e, if_pos c]
  · have hz : szv (tzActionS xs) left = szv (xs.map tzAction).sum (left - (xs.length : Int)) := by unfold szv tzActionS; split <;> split <;> omega
    rw [hz]
    have key := sz_loop xs z95 tzAction (fun k l i => laws_szActionS.l0 k xs l i) ?_ ?_ (left - (xs.length : Int)) (by omega) (by omega)
    · obtain ⟨K, hK⟩ := key
      refine ⟨K, fun k hk => ?_⟩
      dsimp only
      unfold laws_szActionS.f
      rw [e, if_neg c]
      exact hK k hk
    · intro i l r hi g0 g1 hneg hpos
      have hrd : rd_T95 xs (i : Int) = xs.getD i z95 := by simp [rd_T95]
      have s := sz_Action (xs.getD i z95) (oe _ (getD_in _ hi)) l g0 g1
      by_cases c2 : l < (tzAction (xs.getD i z95) : Int)
      · rw [hneg c2]
        rw [szv_neg c2] at s
        refine ⟨0 + 1, fun k hk => ?_⟩
        dsimp only
        obtain ⟨m, rfl⟩ : ∃ m, k = m + 1 := ⟨k - 1, by omega⟩
        simp only [laws_szActionS.l0]
        rw [if_pos (by omega), if_pos (by omega), hrd, s]
        rfl
      · have d2 : (tzAction (xs.getD i z95) : Int) ≤ l := by omega
        obtain ⟨K2, h2⟩ := hpos d2
        rw [szv_pos d2] at s
        refine ⟨K2 + 1, fun k hk => ?_⟩
        dsimp only
        obtain ⟨m, rfl⟩ : ∃ m, k = m + 1 := ⟨k - 1, by omega⟩
        simp only [laws_szActionS.l0]
        rw [if_pos (by omega), if_pos (by omega), hrd, s]
        simp only [Option.bind_some]
        rw [if_neg (by omega), wrap_succ hi ol]
        exact h2 m (by omega)
    · intro l
      refine ⟨1, fun k hk => ?_⟩
      dsimp only
      obtain ⟨m, rfl⟩ : ∃ m, k = m + 1 := ⟨k - 1, by omega⟩
      simp only [laws_szActionS.l0]
      rw [if_neg (by omega)]
theorem to_ActionS (xs : List S95) (hs : tzActionS xs ≤ 1048576) : Ev (fun k => laws_toActionS.f k xs) (xs.map cvAction) := by
  unfold tzActionS at hs
  have key := to_loop xs z95 cvAction (fun k out i => laws_toActionS.l0 k xs out i) ?_ ?_ (List.replicate xs.length z46) List.length_replicate
  · obtain ⟨K, hK⟩ := key
    refine ⟨K, fun k hk => ?_⟩
    dsimp only
    unfold laws_toActionS.f
    rw [if_pos (by omega), if_pos (by rw [Int.toNat_natCast]; omega), Int.toNat_natCast]
    exact hK k hk
  · intro i out r hi ho h
    obtain ⟨K, hK⟩ := h
    have hrd : rd_T95 xs (i : Int) = xs.getD i z95 := by simp [rd_T95]
    have hm := sum_le_of_mem tzAction xs _ (getD_in z95 hi)
    obtain ⟨K1, h1⟩ := to_Action (xs.getD i z95) (by omega)
    dsimp only at h1
    refine ⟨K1 + K + 1, fun k hk => ?_⟩
    dsimp only
    obtain ⟨m, rfl⟩ : ∃ m, k = m + 1 := ⟨k - 1, by omega⟩
    simp only [laws_toActionS.l0]
    rw [if_pos (by omega), if_pos (by omega), hrd, h1 m (by omega)]
    simp only [Option.bind_some]
    rw [if_pos (by omega), wrap_succ hi (by omega), Int.toNat_natCast]
    exact hK m (by omega)
  · intro out ho
    refine ⟨1, fun k hk => ?_⟩
    dsimp only
    obtain ⟨m, rfl⟩ : ∃ m, k = m + 1 := ⟨k - 1, by omega⟩
    simp only [laws_toActionS.l0]
    rw [if_neg (by omega)]
def leActionS (xs : List S46) : Prop := xs.length ≤ 9223372036854775807 ∧ ∀ x, x ∈ xs → leAction x
theorem eq_ActionS (xs : List S46) (hl : leActionS xs) : Ev (fun k => laws_eqActionS.f k xs xs) true := by
  obtain ⟨hl, he⟩ := hl
  have key := eq_loop xs.length (fun k i => laws_eqActionS.l0 k xs xs i) ?_ ?_
  · obtain ⟨K, hK⟩ := key
    refine ⟨K, fun k hk => ?_⟩
    dsimp only
    unfold laws_eqActionS.f
    rw [if_pos (by trivial)]
    exact hK k hk
  · intro i hi h
    obtain ⟨K, hK⟩ := h
    have hrd : rd_T46 xs (i : Int) = xs.getD i z46 := by simp [rd_T46]
    obtain ⟨K1, h1⟩ := eq_Action (xs.getD i z46) (he _ (getD_in _ hi))
    dsimp only at h1
    refine ⟨K1 + K + 1, fun k hk => ?_⟩
    dsimp only
    obtain ⟨m, rfl⟩ : ∃ m, k = m + 1 := ⟨k - 1, by omega⟩
    simp only [laws_eqActionS.l0]
    rw [if_pos (by omega), if_pos (by omega), if_pos (by omega), hrd, h1 m (by omega)]
    simp only [Option.bind_some]
    rw [if_pos (by trivial), wrap_succ hi hl]
    exact hK m (by omega)
  · refine ⟨1, fun k hk => ?_⟩
    dsimp only
    obtain ⟨m, rfl⟩ : ∃ m, k = m + 1 := ⟨k - 1, by omega⟩
    simp only [laws_eqActionS.l0]
    rw [if_neg (by omega)]
theorem le_cvAction (x : S95) (hs : tzAction x ≤ 1048576) : leAction (cvAction x) := by
  unfold tzAction at hs
  exact by show x.f3.length ≤ _; omega
theorem le_cvActionS (xs : List S95) (hs : tzActionS xs ≤ 1048576) : leActionS (xs.map cvAction) := by
  unfold tzActionS at hs
  refine ⟨by rw [List.length_map]; omega, fun y hy => ?_⟩
  obtain ⟨x, hx, rfl⟩ := List.mem_map.1 hy
  have := sum_le_of_mem tzAction xs x hx
  exact le_cvAction x (by omega)
def cvRule (x : S37) : S42 := ⟨x.f0, x.f1, (x.f2.map cvPattern), (x.f3.map cvExpr), (x.f4.map cvAction)⟩
def tzRule (x : S37) : Nat := x.f0.size + tzPatternS x.f2 + tzExprS x.f3 + tzActionS x.f4
def okRule (x : S37) : Prop := x.f0.size ≤ 9223372036854775807 ∧ okInt x.f1 ∧ okPatternS x.f2 ∧ okExprS x.f3 ∧ okActionS x.f4
def tzRuleS (xs : List S37) : Nat := xs.length + (xs.map tzRule).sum
def okRuleS (xs : List S37) : Prop := xs.length ≤ 9223372036854775807 ∧ ∀ x, x ∈ xs → okRule x
theorem sz_Rule (x : S37) (hok : okRule x) (left : Int) (h0 : 0 ≤ left) (h1 : left ≤ 1048576) : Ev (fun k => laws_szRule.f k x.f0 x.f1 x.f2 x.f3 x.f4 left) (szv (tzRule x) left) := by
  obtain ⟨o0, o1, o2, o3, o4⟩ := hok
  have e0 : wrap64 (left - (x.f0.size : Int)) = left - (x.f0.size : Int) := wrap_left (by omega) (by omega) o0
  by_cases c0 : left - (x.f0.size : Int) < 0
  · have hz : szv (tzRule x) left = -1 := szv_neg (by unfold tzRule; omega)
    rw [hz]
    refine ⟨0, fun k hk => ?_⟩
    dsimp only
    unfold laws_szRule.f
    rw [e0, if_pos c0]
    try rfl
  · skip
    obtain ⟨K2, s2⟩ := sz_PatternS x.f2 o2 (left - (x.f0.size : Int)) (by omega) (by omega)
    by_cases c2 : (left - (x.f0.size : Int)) < ((tzPatternS x.f2 : Nat) : Int)
    · have hz : szv (tzRule x) left = -1 := szv_neg (by unfold tzRule; omega)
      rw [hz]
      simp only [szv_neg c2] at s2
      refine ⟨K2, fun k hk => ?_⟩
      dsimp only
      unfold laws_szRule.f
      rw [e0, if_neg c0]
      rw [s2 k (by omega)]
      rfl
    · have d2 : ((tzPatternS x.f2 : Nat) : Int) ≤ (left - (x.f0.size : Int)) := by omega
      simp only [szv_pos d2] at s2
      obtain ⟨K3, s3⟩ := sz_ExprS x.f3 o3 ((left - (x.f0.size : Int)) - ((tzPatternS x.f2 : Nat) : Int)) (by omega) (by omega)
      by_cases c3 : ((left - (x.f0.size : Int)) - ((tzPatternS x.f2 : Nat) : Int)) < ((tzExprS x.f3 : Nat) : Int)
      · have hz : szv (tzRule x) left = -1 := szv_neg (by unfold tzRule; omega)
        rw [hz]
        simp only [szv_neg c3] at s3
        refine ⟨K2 + K3, fun k hk => ?_⟩
        dsimp only
        unfold laws_szRule.f
        rw [e0, if_neg c0]
        rw [s2 k (by omega)]
        simp only [Option.bind_some]
        rw [if_neg (by omega)]
        rw [s3 k (by omega)]
        rfl
      · have d3 : ((tzExprS x.f3 : Nat) : Int) ≤ ((left - (x.f0.size : Int)) - ((tzPatternS x.f2 : Nat) : Int)) := by omega
        simp only [szv_pos d3] at s3
        obtain ⟨K4, s4⟩ := sz_ActionS x.f4 o4 (((left - (x.f0.size : Int)) - ((tzPatternS x.f2 : Nat) : Int)) - ((tzExprS x.f3 : Nat) : Int)) (by omega) (by omega)
        by_cases c4 : (((left - (x.f0.size : Int)) - ((tzPatternS x.f2 : Nat) : Int)) - ((tzExprS x.f3 : Nat) : Int)) < ((tzActionS x.f4 : Nat) : Int)
        · have hz : szv (tzRule x) left = -1 := szv_neg (by unfold tzRule; omega)
          rw [hz]
          simp only [szv_neg c4] at s4
          refine ⟨K2 + K3 + K4, fun k hk => ?_⟩
          dsimp only
          unfold laws_szRule.f
          rw [e0, if_neg c0]
          rw [s2 k (by omega)]
          simp only [Option.bind_some]
          rw [if_neg (by omega)]
          rw [s3 k (by omega)]
          simp only [Option.bind_some]
          rw [if_neg (by omega)]
          rw [s4 k (by omega)]
          rfl
        · have d4 : ((tzActionS x.f4 : Nat) : Int) ≤ (((left - (x.f0.size : Int)) - ((tzPatternS x.f2 : Nat) : Int)) - ((tzExprS x.f3 : Nat) : Int)) := by omega
          simp only [szv_pos d4] at s4
          have hz : szv (tzRule x) left = ((((left - (x.f0.size : Int)) - ((tzPatternS x.f2 : Nat) : Int)) - ((tzExprS x.f3 : Nat) : Int)) - ((tzActionS x.f4 : Nat) : Int)) := by rw [szv_pos (by unfold tzRule; omega)]; unfold tzRule; omega
          rw [hz]
          refine ⟨K2 + K3 + K4, fun k hk => ?_⟩
          dsimp only
          unfold laws_szRule.f
          rw [e0, if_neg c0]
          rw [s2 k (by omega)]
          simp only [Option.bind_some]
          rw [if_neg (by omega)]
          rw [s3 k (by omega)]
          simp only [Option.bind_some]
          rw [if_neg (by omega)]
          rw [s4 k (by omega)]
          simp only [Option.bind_some]
          rw [if_neg (by omega)]
          try rfl
theorem to_Rule (x : S37) (hs : tzRule x ≤ 1048576) : Ev (fun k => laws_toRule.f k x.f0 x.f1 x.f2 x.f3 x.f4) (x.f0, x.f1, (x.f2.map cvPattern), (x.f3.map cvExpr), (x.f4.map cvAction)) := by
  unfold tzRule at hs
  obtain ⟨K2, h2⟩ := to_PatternS x.f2 (by omega)
  dsimp only at h2
  obtain ⟨K3, h3⟩ := to_ExprS x.f3 (by omega)
  dsimp only at h3
  obtain ⟨K4, h4⟩ := to_ActionS x.f4 (by omega)
  dsimp only at h4
  refine ⟨K2 + K3 + K4, fun k hk => ?_⟩
  dsimp only
  unfold laws_toRule.f
  rw [h2 k (by omega)]
  simp only [Option.bind_some]
  rw [h3 k (by omega)]
  simp only [Option.bind_some]
  rw [h4 k (by omega)]
  simp only [Option.bind_some]
  try rfl
def leRule (x : S42) : Prop := lePatternS x.f2 ∧ x.f3.length ≤ 9223372036854775807 ∧ leActionS x.f4
theorem eq_Rule (x : S42) (hl : leRule x) : Ev (fun k => laws_eqRule.f k x.f0 x.f1 x.f2 x.f3 x.f4 x.f0 x.f1 x.f2 x.f3 x.f4) true := by
  obtain ⟨o2, o3, o4⟩ := hl
  obtain ⟨K2, h2⟩ := eq_PatternS x.f2 o2
  dsimp only at h2
  obtain ⟨K3, h3⟩ := eq_ExprS x.f3 o3
  dsimp only at h3
  obtain ⟨K4, h4⟩ := eq_ActionS x.f4 o4
  dsimp only at h4
  refine ⟨K2 + K3 + K4, fun k hk => ?_⟩
  dsimp only
  unfold laws_eqRule.f
  rw [if_pos (by trivial)]
  rw [if_pos (by trivial)]
  rw [h2 k (by omega)]
  simp only [Option.bind_some]
  rw [if_pos (by trivial)]
  rw [h3 k (by omega)]
  simp only [Option.bind_some]
  rw [if_pos (by trivial)]
  rw [h4 k (by omega)]
  simp only [Option.bind_some]
  rw [if_pos (by trivial)]
theorem sz_RuleS (xs : List S37) (hok : okRuleS xs) (left : Int) (h0 : 0 ≤ left) (h1 : left ≤ 1048576) : Ev (fun k => laws_szRuleS.f k xs left) (szv (tzRuleS xs) left) := by
  obtain ⟨ol, oe⟩ := hok
  have e : wrap64 (left - (xs.length : Int)) = left - (xs.length : Int) := wrap_left h0 h1 ol
  by_cases c : left - (xs.length : Int) < 0
  · have hz : szv (tzRuleS xs) left = -1 := szv_neg (by unfold tzRuleS; omega)
    rw [hz]
    refine ⟨0, fun k _ => ?_⟩
    dsimp only
    unfold laws_szRuleS.f
    rw [e, if_pos c]
  · have hz : szv (tzRuleS xs) left = szv (xs.map tzRule).sum (left - (xs.length : Int)) := by unfold szv tzRuleS; split <;> split <;> omega
    rw [hz]
    have key := sz_loop xs z37 tzRule (fun k l i => laws_szRuleS.l0 k xs l i) ?_ ?_ (left - (xs.length : Int)) (by omega) (by omega)
    · obtain ⟨K, hK⟩ := key
      refine ⟨K, fun k hk => ?_⟩
      dsimp only
      unfold laws_szRuleS.f
      rw [e, if_neg c]
      exact hK k hk
    · intro i l r hi g0 g1 hneg hpos
      have hrd : rd_T37 xs (i : Int) = xs.getD i z37 := by simp [rd_T37]
      obtain ⟨K1, s⟩ := sz_Rule (xs.getD i z37) (oe _ (getD_in _ hi)) l g0 g1
      by_cases c2 : l < (tzRule (xs.getD i z37) : Int)
      · rw [hneg c2]
        simp only [szv_neg c2] at s
        refine ⟨K1 + 1, fun k hk => ?_⟩
        dsimp only
        obtain ⟨m, rfl⟩ : ∃ m, k = m + 1 := ⟨k - 1, by omega⟩
        simp only [laws_szRuleS.l0]
        rw [if_pos (by omega), if_pos (by omega), hrd, s m (by omega)]
        rfl
      · have d2 : (tzRule (xs.getD i z37) : Int) ≤ l := by omega
        obtain ⟨K2, h2⟩ := hpos d2
        simp only [szv_pos d2] at s
        refine ⟨K1 + K2 + 1, fun k hk => ?_⟩
        dsimp only
        obtain ⟨m, rfl⟩ : ∃ m, k = m + 1 := ⟨k - 1, by omega⟩
        simp only [laws_szRuleS.l0]
        rw [if_pos (by omega), if_pos (by omega), hrd, s m (by omega)]
        simp only [Option.bind_some]
        rw [if_neg (by omega), wrap_succ hi ol]
        exact h2 m (by omega)
    · intro l
      refine ⟨1, fun k hk => ?_⟩
      dsimp only
      obtain ⟨m, rfl⟩ : ∃ m, k = m + 1 := ⟨k - 1, by omega⟩
      simp only [laws_szRuleS.l0]
      rw [if_neg (by omega)]
theorem to_RuleS (xs : List S37) (hs : tzRuleS xs ≤ 1048576) : Ev (fun k => laws_toRuleS.f k xs) (xs.map cvRule) := by
  unfold tzRuleS at hs
  have key := to_loop xs z37 cvRule (fun k out i => laws_toRuleS.l0 k xs out i) ?_ ?_ (List.replicate xs.length z42) List.length_replicate
  · obtain ⟨K, hK⟩ := key
    refine ⟨K, fun k hk => ?_⟩
    dsimp only
    unfold laws_toRuleS.f
    rw [if_pos (by omega), if_pos (by rw [Int.toNat_natCast]; omega), Int.toNat_natCast]
    exact hK k hk
  · intro i out r hi ho h
    obtain ⟨K, hK⟩ := h
    have hrd : rd_T37 xs (i : Int) = xs.getD i z37 := by simp [rd_T37]
    have hm := sum_le_of_mem tzRule xs _ (getD_in z37 hi)
    obtain ⟨K1, h1⟩ := to_Rule (xs.getD i z37) (by omega)
    dsimp only at h1
    refine ⟨K1 + K + 1, fun k hk => ?_⟩
    dsimp only
    obtain ⟨m, rfl⟩ : ∃ m, k = m + 1 := ⟨k - 1, by omega⟩
    simp only [laws_toRuleS.l0]
    rw [if_pos (by omega), if_pos (by omega), hrd, h1 m (by omega)]
    simp only [Option.bind_some]
    rw [if_pos (by omega), wrap_succ hi (by omega), Int.toNat_natCast]
    exact hK m (by omega)
  · intro out ho
    refine ⟨1, fun k hk => ?_⟩
    dsimp only
    obtain ⟨m, rfl⟩ : ∃ m, k = m + 1 := ⟨k - 1, by omega⟩
    simp only [laws_toRuleS.l0]
    rw [if_neg (by omega)]
def leRuleS (xs : List S42) : Prop := xs.length ≤ 9223372036854775807 ∧ ∀ x, x ∈ xs → leRule x
theorem eq_RuleS (xs : List S42) (hl : leRuleS xs) : Ev (fun k => laws_eqRuleS.f k xs xs) true := by
  obtain ⟨hl, he⟩ := hl
  have key := eq_loop xs.length (fun k i => laws_eqRuleS.l0 k xs xs i) ?_ ?_
  · obtain ⟨K, hK⟩ := key
    refine ⟨K, fun k hk => ?_⟩
    dsimp only
    unfold laws_eqRuleS.f
    rw [if_pos (by trivial)]
    exact hK k hk
  · intro i hi h
    obtain ⟨K, hK⟩ := h
    have hrd : rd_T42 xs (i : Int) = xs.getD i z42 := by simp [rd_T42]
    obtain ⟨K1, h1⟩ := eq_Rule (xs.getD i z42) (he _ (getD_in _ hi))
    dsimp only at h1
    refine ⟨K1 + K + 1, fun k hk => ?_⟩
    dsimp only
    obtain ⟨m, rfl⟩ : ∃ m, k = m + 1 := ⟨k - 1, by omega⟩
    simp only [laws_eqRuleS.l0]
    rw [if_pos (by omega), if_pos (by omega), if_pos (by omega), hrd, h1 m (by omega)]
    simp only [Option.bind_some]
    rw [if_pos (by trivial), wrap_succ hi hl]
    exact hK m (by omega)
  · refine ⟨1, fun k hk => ?_⟩
    dsimp only
    obtain ⟨m, rfl⟩ : ∃ m, k = m + 1 := ⟨k - 1, by omega⟩
    simp only [laws_eqRuleS.l0]
    rw [if_neg (by omega)]
theorem le_cvRule (x : S37) (hs : tzRule x ≤ 1048576) : leRule (cvRule x) := by
  unfold tzRule at hs
  exact ⟨le_cvPatternS x.f2 (by omega), by show (x.f3.map cvExpr).length ≤ _; rw [List.length_map]; unfold tzExprS at hs; omega, le_cvActionS x.f4 (by omega)⟩
theorem le_cvRuleS (xs : List S37) (hs : tzRuleS xs ≤ 1048576) : leRuleS (xs.map cvRule) := by
  unfold tzRuleS at hs
  refine ⟨by rw [List.length_map]; omega, fun y hy => ?_⟩
  obtain ⟨x, hx, rfl⟩ := List.mem_map.1 hy
  have := sum_le_of_mem tzRule xs x hx
  exact le_cvRule x (by omega)
theorem ruleSz_cv (R : List S37) (h : okRuleS R) (hs : tzRuleS R ≤ 1048576) : ∀ q, q ∈ R.map cvRule → RuleSz q := by
  intro q hq
  obtain ⟨x, hx, rfl⟩ := List.mem_map.1 hq
  have h1 := h.2 x hx
  have h2 := sum_le_of_mem tzRule R x hx
  unfold tzRuleS at hs
  have ht : tzRule x ≤ 1048576 := by omega
  unfold tzRule at ht
  refine ⟨?_, fun e he => ?_⟩
  · show x.f0.size ≤ maxLen
    unfold maxLen; omega
  · have he2 : e ∈ x.f3.map cvExpr := he
    obtain ⟨z, hz, rfl⟩ := List.mem_map.1 he2
    have h3 := sum_le_of_mem tzExpr x.f3 z hz
    have h4 : tzExprS x.f3 ≤ 1048576 := by omega
    unfold tzExprS at h4
    have h5 : tzExpr z ≤ 1048576 := by omega
    unfold tzExpr at h5
    obtain ⟨_, _, _, oe, _⟩ := h1
    have h6 := oe.2 z hz
    obtain ⟨_, o1, _⟩ := h6
    refine ⟨o1, ?_⟩
    show z.f2.size ≤ maxLen
    unfold maxLen; omega
def FnExactCheckRules.Pure : Prop := ∀ (a : List S37), okRuleS a → ∃ k, laws_FnExactCheckRules.f k a = some true
theorem FnExactCheckRules : FnExactCheckRules.Pure := by
  intro a ha
  refine Ev.rounds ?_
  refine Ev.congr (fun k => by unfold laws_FnExactCheckRules.f; exact rfl) ?_
  have h1 := sz_RuleS a ha 1048576 (by omega) (by omega)
  refine Ev.bind h1 ?_
  by_cases c1 : (1048576 : Int) < tzRuleS a
  · rw [szv_neg c1]
    exact Ev.ifT (by omega) (Ev.now _)
  have d1 : (tzRuleS a : Int) ≤ 1048576 := by omega
  rw [szv_pos d1]
  refine Ev.ifF (by omega) ?_
  have hto := to_RuleS a (by omega)
  obtain ⟨⟨y1, y2, y3⟩, e1, e2, _⟩ := check_both (a.map cvRule) (ruleSz_cv a ha (by omega))
  have heq := eq_RuleS (a.map cvRule) (le_cvRuleS a (by omega))
  refine Ev.bind hto (Ev.bind e1 (Ev.bind hto (Ev.bind e2 ?_)))
  refine Ev.bindE (show laws_eqCheck.f y1 y2 y3 y1 y2 y3 = some true by unfold laws_eqCheck.f; rw [if_pos rfl, if_pos rfl, if_pos rfl]) ?_
  refine Ev.ifT (by trivial) (Ev.bind hto (Ev.bind heq (Ev.ifT (by trivial) (Ev.now _))))
end Go.Proofs.Ytejjlkbbnhpbdaa.Pure
namespace Go.Proofs.YtejjlkbbnhpbdaaX
open Go.RowKit Go.Proofs.YtejjlkbbnhpbdaaW.PrintWords
set_option linter.unusedVariables false
set_option linter.unusedSimpArgs false
def Rdb {α : Type} (P : Program) (W : World) (T : TypeId) (d : Kd α) (ok : α → Prop) : Prop :=
  ∀ (H : Type) (enc : TypeId × Value → H) (sp : Nat → Bool) (fuel : Nat) (cs : List Value) (r : DataW H × List MemPlace), DataW.trod enc P W 0 sp true fuel T cs = some r → ∃ x, d.K W x cs ∧ ok x
section
variable {P : Program} {W : World} {T : TypeId}
theorem rdb_bool (hu : P.underlying T = some .bool) : Rdb P W T Kd.bool (fun _ => True) := by
  intro H enc sp fuel cs r h
  obtain ⟨n, rfl, _⟩ := DataW.trod_bool hu h
  exact ⟨n, rfl, trivial⟩
theorem rdb_string (hu : P.underlying T = some .string) : Rdb P W T Kd.string (fun s => s.size ≤ 9223372036854775807) := by
  intro H enc sp fuel cs r h
  obtain ⟨s, rfl, _, hs⟩ := DataW.trod_string hu h
  exact ⟨s, rfl, by simpa [maxLen] using hs⟩
theorem list_choice {α : Type} (Q : Nat → α → Prop) : ∀ n, (∀ i, i < n → ∃ x, Q i x) → ∃ xs : List α, xs.length = n ∧ ∀ i x, xs[i]? = some x → Q i x
  | 0, _ => ⟨[], rfl, fun i x h => by simp at h⟩
  | n + 1, h => by
    obtain ⟨xs, hl, hx⟩ := list_choice Q n (fun i hi => h i (by omega))
    obtain ⟨y, hy⟩ := h n (by omega)
    refine ⟨xs ++ [y], by simp [hl], fun i x hi => ?_⟩
    rcases Nat.lt_or_ge i xs.length with c | c
    · rw [List.getElem?_append_left c] at hi
      exact hx i x hi
    · rw [List.getElem?_append_right c] at hi
      have e : i - xs.length = 0 := by
        rcases Nat.eq_zero_or_pos (i - xs.length) with e | e
        · exact e
        · rw [List.getElem?_eq_none (by simp; omega)] at hi; cases hi
      rw [e] at hi
      have : y = x := by simpa using hi
      rw [← this, show i = n by omega]
      exact hy
theorem add_plus (a : Addr) (m n : Nat) : (a.add m).add n = a.add (m + n) := by
  unfold Addr.add
  by_cases h1 : m = 0
  · subst h1; simp
  · by_cases h2 : n = 0
    · subst h2; simp
    · simp [h1, h2]; omega
theorem rdb_slice {α : Type} {d : Kd α} {ok : α → Prop} {e : TypeId} (hu : P.underlying T = some (.slice e)) (hc : P.cellsOf e = d.sz) (he : Rdb P W e d ok) :
    Rdb P W T (Kd.slice e d) (fun xs => xs.length ≤ 9223372036854775807 ∧ ∀ x, x ∈ xs → ok x) := by
  intro H enc sp fuel cs r h
  rcases DataW.trod_slice hu h with ⟨rfl, _⟩ | ⟨a, len, cap, elems, rest, n, _, rfl, _, _, hl, hcap, hel, hrd, _, _⟩
  · exact ⟨[], ⟨none, 0, rfl, Nat.le_refl _, rfl, by simp, fun h => absurd h (by simp)⟩, by simp, fun x hx => absurd hx (by simp)⟩
  · have hex : ∀ i, i < len → ∃ x, ∃ c, c.length = d.sz ∧ d.K W x c ∧ (∀ j u, c[j]? = some u → W.cell? (a.add (i * d.sz + j)) = some u) ∧ ok x := by
      intro i hi
      have h1 := hrd i hi
      rw [List.getElem?_eq_getElem (by omega)] at h1
      obtain ⟨c, h2, h3⟩ := Option.bind_eq_some_iff.1 h1
      obtain ⟨x, hx, hok⟩ := he H enc sp n c _ h3
      obtain ⟨_, h5, h6⟩ := World.cells?_some h2
      refine ⟨x, c, d.K_len hx, hx, fun j u hj => ?_, hok⟩
      have hlt : j < P.cellsOf e := by
        have := (List.getElem?_eq_some_iff.1 hj).1
        omega
      have h7 := h6 j hlt
      rw [hj, hc, add_plus] at h7
      exact h7
    obtain ⟨xs, hxl, hxs⟩ := list_choice _ len hex
    refine ⟨xs, ⟨some a, cap, by rw [hxl], by omega, rfl, by simp [maxLen] at hcap; omega, fun _ => ⟨a, rfl, fun j p hj => ?_⟩⟩, by simp [maxLen] at hcap; omega, fun x hx => ?_⟩
    · obtain ⟨c, h1, h2, h3, _⟩ := hxs j p hj
      exact ⟨c, h1, h2, h3⟩
    · obtain ⟨i, hi, e⟩ := List.getElem_of_mem hx
      obtain ⟨c, _, _, _, h4⟩ := hxs i x (by rw [List.getElem?_eq_getElem hi, e])
      exact h4
theorem rdb_i64 (hu : P.underlying T = some (.int .i64)) : Rdb P W T (Kd.int .i64) okInt := by
  intro H enc sp fuel cs r h
  obtain ⟨n, rfl, _, hw⟩ := DataW.trod_int hu h
  refine ⟨n, rfl, ?_⟩
  simp only [Lit.wf, Bool.and_eq_true, decide_eq_true_eq] at hw
  exact hw
theorem rdb_u8 (hu : P.underlying T = some (.int .u8)) : Rdb P W T (Kd.int .u8) okByte := by
  intro H enc sp fuel cs r h
  obtain ⟨n, rfl, _, hw⟩ := DataW.trod_int hu h
  refine ⟨n, rfl, ?_⟩
  simp only [Lit.wf, Bool.and_eq_true, decide_eq_true_eq] at hw
  exact hw
theorem len_s {α : Type} {cs : List α} {n : Nat} (h : cs.length = n + 1) : ∃ a r, cs = a :: r ∧ r.length = n := by
  cases cs with
  | nil => cases h
  | cons a r => exact ⟨a, r, rfl, by simpa using h⟩
theorem len_z {α : Type} {cs : List α} (h : cs.length = 0) : cs = [] := List.length_eq_zero_iff.1 h
end
end Go.Proofs.YtejjlkbbnhpbdaaX
